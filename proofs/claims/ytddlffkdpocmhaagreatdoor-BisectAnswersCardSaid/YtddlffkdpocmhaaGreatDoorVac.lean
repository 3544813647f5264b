/- The small logic, tenth text: slices that grow. Library, no statement of its own. -/
import Derived.Test.YtddlffkdpocmhaaGreatDoorVab
import Derived.Laws.AppendOwn
set_option linter.unusedSimpArgs false
set_option linter.unusedVariables false
namespace Go.Q
open Go

/-- One resource in the place of another. -/
inductive Rep (r r' : Res) : List Res → List Res → Prop
  | here {L : List Res} : Rep r r' (r :: L) (r' :: L)
  | there {s : Res} {L L' : List Res} (h : Rep r r' L L') : Rep r r' (s :: L) (s :: L')

theorem Rep.split {r r' : Res} {L L' : List Res} (h : Rep r r' L L') : ∃ A B, L = A ++ r :: B ∧ L' = A ++ r' :: B := by
  induction h with
  | here => rename_i L; exact ⟨[], L, rfl, rfl⟩
  | there h ih => rename_i s _ _; obtain ⟨A, B, h1, h2⟩ := ih; exact ⟨s :: A, B, by rw [h1]; rfl, by rw [h2]; rfl⟩

theorem Res.holds_lt {w : World} {g : Gh} {r : Res} (h : r.holds w g) {b : Nat} (hb : r.block = some b) : b < w.heap.size := by
  rcases Nat.lt_or_ge b w.heap.size with h' | h'
  · exact h'
  · have hn : w.heap[b]? = none := Array.getElem?_eq_none h'
    cases r with
    | box b' T' cs' => obtain ⟨_, h1, _⟩ := h; simp [Res.block] at hb; subst hb; rw [hn] at h1; cases h1
    | tok t n sz => cases t with
      | own b' cap => obtain ⟨_, _, _, h1, _⟩ := h; simp [Res.block] at hb; subst hb; rw [hn] at h1; cases h1
      | _ => simp [Res.block] at hb
    | map b' kvs => obtain ⟨_, _, h1, _⟩ := h; simp [Res.block] at hb; subst hb; rw [hn] at h1; cases h1
    | raw b' o => obtain ⟨h1, _⟩ := h; simp [Res.block] at hb; subst hb; rw [hn] at h1; cases h1
    | know vs xs => simp [Res.block] at hb
    | iter b' kvs dn => obtain ⟨_, _, _, h1, _⟩ := h; simp [Res.block] at hb; subst hb; rw [hn] at h1; cases h1

theorem Entries.mono {g g' : Gh} (hg : g.le g') {es : Array MapEntry} {kvs : List (PV × PV)} (h : Entries g es kvs) : Entries g' es kvs := ⟨h.len, fun i h1 h2 => (h.key i h1 h2).mono hg, fun i h1 h2 => (h.val i h1 h2).mono hg⟩

theorem Res.holds_kept {w w' : World} {g g' : Gh} (hg : g.le g') {r : Res} (h : r.holds w g) (hk : ∀ b, r.block = some b → w'.heap[b]? = w.heap[b]? ∧ (∀ o, g'.H b o = g.H b o) ∧ g'.M b = g.M b) : r.holds w' g' := by
  cases r with
  | box b' T' cs' => obtain ⟨us, h1, h2, h3, h4⟩ := h; obtain ⟨k1, k2, k3⟩ := hk b' rfl; exact ⟨us, by rw [k1]; exact h1, h2.mono hg, fun o => by rw [k2]; exact h3 o, by rw [k3]; exact h4⟩
  | tok t n sz => cases t with
    | own b' cap => obtain ⟨us, T', fr, h1, h2, h3, h4, h5, h6⟩ := h; obtain ⟨k1, k2, k3⟩ := hk b' rfl; exact ⟨us, T', fr, by rw [k1]; exact h1, h2, h3, fun o ho => by rw [k2]; exact h4 o ho, by rw [k3]; exact h5, h6⟩
    | _ => exact h
  | map b' kvs => obtain ⟨es, c, h1, h2, h3, h4, h5⟩ := h; obtain ⟨k1, k2, k3⟩ := hk b' rfl; exact ⟨es, c, by rw [k1]; exact h1, h2.mono hg, fun o => by rw [k2]; exact h3 o, by rw [k3]; exact h4, h5⟩
  | raw b' o => obtain ⟨h1, h3, h4⟩ := h; obtain ⟨k1, k2, k3⟩ := hk b' rfl; exact ⟨by rw [k1]; exact h1, fun o => by rw [k2]; exact h3 o, by rw [k3]; exact h4⟩
  | know vs xs => exact VRl.mono hg h
  | iter b' kvs dn => obtain ⟨m, es, c, h1, hr, h2, h3, h4, h5⟩ := h; obtain ⟨k1, k2, k3⟩ := hk b' rfl; exact ⟨m, es, c, by rw [k1]; exact h1, hr.mono hg, h2.mono hg, fun o => by rw [k2]; exact h3 o, by rw [k3]; exact h4, h5⟩

/-- One resource turns, and new memory may be laid. -/
theorem Inv.repl {w w' : World} {g g' : Gh} {r r' : Res} {L L' : List Res} (hi : Inv w g L) (hrep : Rep r r' L L') (hos : w'.os = w.os) (htp : w'.tape = w.tape) (hout : w'.output = w.output ∧ w.drawn ≤ w'.drawn) (hsz : w.heap.size ≤ w'.heap.size) (hg : g.le g')
    (keep : ∀ k, k < w.heap.size → r.block ≠ some k → w'.heap[k]? = w.heap[k]?) (hnew : ∀ k, k < w.heap.size → r.block ≠ some k → (∀ o, g'.H k o = g.H k o) ∧ g'.M k = g.M k)
    (sat' : ∀ b o v, g'.H b o = some v → w'.cell? ⟨b, o, none⟩ = some v) (satM' : ∀ b es, g'.M b = some es → es.sat w' b) (hr' : r'.holds w' g') (hb' : ∀ b, r'.block = some b → r.block = some b ∨ w.heap.size ≤ b) :
    Inv w' g' L' ∧ Step (blocks L) w g w' g' ∧ Within w L L' := by
  obtain ⟨A, B, rfl, rfl⟩ := hrep.split
  have hnd := hi.nodup
  have hne : ∀ s ∈ A ++ B, ∀ b, s.block = some b → r.block ≠ some b := fun s hs b hb e => by
    simp only [blocks, List.filterMap_append, List.filterMap_cons, e] at hnd
    rw [List.nodup_append] at hnd
    obtain ⟨n1, n2, n3⟩ := hnd
    rcases List.mem_append.1 hs with hs | hs
    · exact n3 b (List.mem_filterMap.2 ⟨s, hs, hb⟩) b (by simp) rfl
    · exact (List.nodup_cons.1 n2).1 (List.mem_filterMap.2 ⟨s, hs, hb⟩)
  have hmem : ∀ s ∈ A ++ B, s ∈ A ++ r :: B := fun s hs => by
    simp only [List.mem_append, List.mem_cons] at hs ⊢
    rcases hs with h | h
    · exact .inl h
    · exact .inr (.inr h)
  have hlt : ∀ s ∈ A ++ B, ∀ b, s.block = some b → b < w.heap.size := fun s hs b hb => Res.holds_lt (hi.res s (hmem s hs)) hb
  have hfm : ∀ s : Res, (blocks (A ++ s :: B)) = blocks A ++ (s.block.toList ++ blocks B) := fun s => by
    simp only [blocks, List.filterMap_append, List.filterMap_cons]
    cases s.block <;> rfl
  refine ⟨⟨sat', satM', fun s hs => ?_, ?_, hi.glob.mono hg⟩, ⟨hos, htp, hout, hsz, fun k hk hn => keep k hk (fun e => hn ?_), hg, fun k hk hn => hnew k hk (fun e => hn ?_)⟩, fun b hb hl => ?_⟩
  · have hs' : s = r' ∨ s ∈ A ++ B := by
      simp only [List.mem_append, List.mem_cons] at hs ⊢
      rcases hs with h | h | h
      · exact .inr (.inl h)
      · exact .inl h
      · exact .inr (.inr h)
    rcases hs' with rfl | hs'
    · exact hr'
    · exact Res.holds_kept hg (hi.res s (hmem s hs')) fun b hb => ⟨keep b (hlt s hs' b hb) (hne s hs' b hb), hnew b (hlt s hs' b hb) (hne s hs' b hb)⟩
  · rw [hfm]
    rw [hfm] at hnd
    cases hrb : r'.block with
    | none =>
      simp only [Option.toList_none, List.nil_append]
      exact hnd.sublist (List.Sublist.append (List.Sublist.refl _) (List.sublist_append_right _ _))
    | some b =>
      have hAB : (blocks A ++ blocks B).Nodup := hnd.sublist (List.Sublist.append (List.Sublist.refl _) (List.sublist_append_right _ _))
      have hnb : ∀ s ∈ A ++ B, s.block ≠ some b := fun s hs e => by
        rcases hb' b hrb with h | h
        · exact hne s hs b e h
        · have := hlt s hs b e; omega
      simp only [Option.toList_some, List.singleton_append]
      rw [List.nodup_append] at hAB ⊢
      obtain ⟨n1, n2, n3⟩ := hAB
      refine ⟨n1, List.nodup_cons.2 ⟨fun hm => ?_, n2⟩, fun x hx y hy => ?_⟩
      · obtain ⟨s, hs, e⟩ := List.mem_filterMap.1 hm
        exact hnb s (List.mem_append_right _ hs) e
      · rcases List.mem_cons.1 hy with rfl | hy
        · intro e; subst e
          obtain ⟨s, hs, e⟩ := List.mem_filterMap.1 hx
          exact hnb s (List.mem_append_left _ hs) e
        · exact n3 x hx y hy
  · rw [hfm]; simp [e]
  · rw [hfm]; simp [e]
  · rw [hfm] at hb ⊢
    simp only [List.mem_append] at hb ⊢
    rcases hb with h | h | h
    · exact .inl h
    · have h : r'.block = some b := by cases hrb : r'.block <;> simp_all
      rcases hb' b h with e | e
      · exact .inr (.inl (by simp [e]))
      · omega
    · exact .inr (.inr h)

/-- A growing slice's token, from nothing. -/
theorem Inv.tok {w : World} {g : Gh} {L : List Res} (hi : Inv w g L) (sz : Nat) : Inv w g (.tok .nil 0 sz :: L) :=
  ⟨hi.sat, hi.satM, fun r hr => by
    rcases List.mem_cons.1 hr with rfl | hr
    · rfl
    · exact hi.res r hr, hi.nodup, hi.glob⟩


theorem pwp_tok {P : Program} {N : Nat} {c : Code} {Q : PPost} {ρ : Env} {L : List Res} (sz : Nat) (h : pwp P N c Q ρ (.tok .nil 0 sz :: L)) : pwp P N c Q ρ L := fun ro base a w g hs => h ro base a w g ⟨hs.ro, hs.low, hs.agr, hs.inv.tok sz⟩

/-! ### The cells of a slice -/
theorem getElem_flatten {sz : Nat} : ∀ {xs : List (List PV)} (_ : ∀ e ∈ xs, e.length = sz) {i j : Nat} (hi : i < xs.length) (hj : j < xs[i].length) (h : i * sz + j < xs.flatten.length), xs.flatten[i * sz + j] = xs[i][j]
  | x :: xs, hs, i, j, hi, hj, h => by
    have hx : x.length = sz := hs x (by simp)
    cases i with
    | zero =>
      simp only [List.getElem_cons_zero] at hj ⊢
      simp only [List.flatten_cons]
      rw [List.getElem_append_left (by simpa using hj)]
      simp
    | succ i =>
      simp only [List.getElem_cons_succ] at hj ⊢
      simp only [List.flatten_cons]
      rw [List.getElem_append_right (by rw [hx, Nat.add_mul]; omega)]
      have e : (i + 1) * sz + j - x.length = i * sz + j := by rw [hx, Nat.add_mul]; omega
      simp only [e]
      exact getElem_flatten (fun e he => hs e (by simp [he])) (by simpa using hi) hj _

theorem flatten_len {sz : Nat} {xs : List (List PV)} (hs : ∀ e ∈ xs, e.length = sz) : xs.flatten.length = xs.length * sz := by
  induction xs with
  | nil => simp
  | cons x xs ih => simp only [List.flatten_cons, List.length_append, List.length_cons, hs x (by simp), ih (fun e he => hs e (by simp [he])), Nat.add_mul]; omega

/-- What a slice's value comes to: its cells as values, each as the flat list says. -/
theorem VR.slice_cells {g : Gh} {v : Value} {xs : List (List PV)} {t : Tag} {sz : Nat} (h : VR g v (.slice xs t)) (hs : ∀ e ∈ xs, e.length = sz) : ∃ base cap, v = .slice base xs.length cap ∧ xs.length ≤ cap ∧ (xs.length ≤ maxN ∧ xs.length * sz ≤ maxN) ∧ (base = none → xs = [] ∧ cap = 0) ∧
    (∀ b' cap', t = .own b' cap' → base = some ⟨b', 0, none⟩ ∧ cap' = cap) ∧ (t = .nil → xs = [] ∧ cap = 0 ∧ ∀ a, base = some a → a.spot = none) ∧
    ∃ us : List Value, VRl g us xs.flatten ∧ ∀ a, base = some a → (xs = [] ∧ cap = 0 ∨ a.spot = none) ∧ (∀ j (hj : j < us.length), g.H a.block (a.off + j) = some us[j]) := by
  cases h with
  | nilN o ho => exact ⟨o, 0, rfl, by simp, by simp, by simp, by simp, fun _ => ⟨rfl, rfl, ho⟩, [], .nil g, fun a e => ⟨.inl ⟨rfl, rfl⟩, by simp⟩⟩
  | nilR => exact ⟨_, 0, rfl, by simp, by simp, by simp, by simp, by simp, [], .nil g, fun a e => ⟨.inl ⟨rfl, rfl⟩, by simp⟩⟩
  | slice sz' f hl hc hm hs' hH hv ht hn =>
    rename_i b off len cap
    subst hl
    have hm2 : xs.length ≤ maxN ∧ xs.length * sz ≤ maxN := by
      cases xs with
      | nil => simp
      | cons x xs =>
        have e1 := hs x (by simp)
        have e2 := hs' x (by simp)
        rw [← e1, e2]; exact hm
    refine ⟨some ⟨b, off, none⟩, cap, rfl, hc, hm2, by simp, fun b' cap' e => ?_, fun e => absurd e hn, (List.range xs.flatten.length).map f, ?_, ?_⟩
    · obtain ⟨e1, e2, e3⟩ := ht b' cap' e
      subst e1 e2 e3; exact ⟨rfl, rfl⟩
    · refine ⟨by simp, fun k h1 h2 => ?_⟩
      have hk : k < xs.length * sz' := by rw [← flatten_len hs']; exact h2
      have hsz : 0 < sz' := by rcases Nat.eq_zero_or_pos sz' with h | h; (subst h; simp at hk); exact h
      have hi : k / sz' < xs.length := Nat.div_lt_of_lt_mul (by rw [Nat.mul_comm]; exact hk)
      have hj : k % sz' < xs[k / sz'].length := by rw [hs' _ (List.getElem_mem hi)]; exact Nat.mod_lt _ hsz
      have e : k / sz' * sz' + k % sz' = k := by rw [Nat.mul_comm]; exact Nat.div_add_mod k sz'
      have h3 := hv (k / sz') hi (k % sz') hj
      rw [← getElem_flatten hs' hi hj (by rw [e]; exact h2)] at h3
      simp only [e] at h3
      simpa using h3
    · rintro a rfl'
      cases rfl'
      refine ⟨.inr rfl, fun j hj => ?_⟩
      have hj' : j < xs.length * sz' := by rw [← flatten_len hs']; simpa using hj
      have hsz : 0 < sz' := by rcases Nat.eq_zero_or_pos sz' with h | h; (subst h; simp at hj'); exact h
      have hi : j / sz' < xs.length := Nat.div_lt_of_lt_mul (by rw [Nat.mul_comm]; exact hj')
      have e : j / sz' * sz' + j % sz' = j := by rw [Nat.mul_comm]; exact Nat.div_add_mod j sz'
      have := hH (j / sz') (j % sz') hi (Nat.mod_lt _ hsz)
      rw [Nat.add_assoc, e] at this
      simpa using this

/-- And back. -/
theorem VR.of_cells {g : Gh} {xs : List (List PV)} {t : Tag} {sz b off cap : Nat} (hs : ∀ e ∈ xs, e.length = sz) (hc : xs.length ≤ cap) (hm : xs.length ≤ maxN ∧ xs.length * sz ≤ maxN) {us : List Value} (hus : VRl g us xs.flatten) (hH : ∀ j (hj : j < us.length), g.H b (off + j) = some us[j])
    (ht : ∀ b' cap', t = .own b' cap' → b' = b ∧ cap' = cap ∧ off = 0) (hn : t ≠ .nil) : VR g (.slice (some ⟨b, off, none⟩) xs.length cap) (.slice xs t) := by
  have hlen : us.length = xs.length * sz := by rw [hus.len, flatten_len hs]
  have hix : ∀ i j, i < xs.length → j < sz → i * sz + j < us.length := fun i j hi hj => by
    rw [hlen]
    calc i * sz + j < i * sz + sz := by omega
      _ = (i + 1) * sz := by rw [Nat.add_mul]; omega
      _ ≤ xs.length * sz := Nat.mul_le_mul_right _ (by omega)
  refine .slice sz (fun k => us.getD k undef) rfl hc hm hs (fun i j hi hj => ?_) (fun i hi j hj => ?_) ht hn
  · have hk := hix i j hi hj
    rw [Nat.add_assoc, hH _ hk]
    simp [List.getD, hk]
  · have hk := hix i j hi (by rw [← hs _ (List.getElem_mem hi)]; exact hj)
    have := hus.at_ _ hk (by rw [← hus.len]; exact hk)
    rw [getElem_flatten hs hi hj] at this
    simpa [List.getD, hk] using this

/-! ### append -/
class TApp (P : Program) (T : Nat) (sz bytes : outParam Nat) : Prop where
  out : ∃ E i z, P.underlying T = some (.slice E) ∧ P.info? E = some i ∧ i.size = sz ∧ i.bytes = bytes ∧ i.zero = some z ∧ z.cells.size = sz ∧ bytes ≠ 0 ∧ (sz ≠ 0 ∧ sz ≤ bytes)

theorem growBy_le (newLen : Nat) : ∀ (r c : Nat), 256 ≤ newLen → c ≤ newLen → Builtin.growBy newLen r c ≤ 2 * newLen
  | 0, c, _, h => by unfold Builtin.growBy; omega
  | r + 1, c, h0, h => by
    unfold Builtin.growBy
    split
    · omega
    · rcases Nat.lt_or_ge (c + (c + 768) / 4) newLen with h' | h'
      · exact growBy_le newLen r _ h0 (by omega)
      · cases r with
        | zero => unfold Builtin.growBy; omega
        | succ r => unfold Builtin.growBy; rw [if_pos h']; omega

theorem nextslicecap_le {need cap : Nat} (h : cap < need) : Builtin.nextslicecap need cap ≤ 2 * need := by
  unfold Builtin.nextslicecap
  split
  · omega
  · split
    · omega
    · exact growBy_le need 4 cap (by omega) (by omega)

/-- The cells of a list, all of them frozen. -/
theorem loadCells_of {P : Program} {w : World} {b o : Nat} {s : Option Nat} {us : List Value} (hs : us = [] ∨ s = none) (h : ∀ j (hj : j < us.length), w.cell? ⟨b, o + j, none⟩ = some us[j]) : (loadCells ⟨b, o, s⟩ us.length).run P w = .ok us.toArray w := by
  rcases hs with rfl | rfl
  · rfl
  · exact loadCells_run h
theorem us_nil {g : Gh} {us : List Value} {xs : List (List PV)} (h : VRl g us xs.flatten) (h0 : xs = []) : us = [] := by
  subst h0
  exact List.eq_nil_of_length_eq_zero (by simpa using h.len)
theorem firstCells_run {P : Program} {w : World} {g : Gh} {L : List Res} (hi : Inv w g L) {base : Option Addr} {n cap sz : Nat} {us : List Value} (hl : us.length = n * sz) (h0 : base = none → us = [])
    (hus : ∀ a, base = some a → (us = [] ∨ a.spot = none) ∧ (∀ j (hj : j < us.length), g.H a.block (a.off + j) = some us[j])) : (Builtin.firstCells sz n (.slice base n cap)).run P w = .ok us.toArray w := by
  cases base with
  | none => rw [h0 rfl]; rfl
  | some a =>
    obtain ⟨b, o, s⟩ := a
    obtain ⟨hs, hH⟩ := hus _ rfl
    show (loadCells _ (n * sz)).run P w = _
    rw [← hl]
    exact loadCells_of hs fun j hj => hi.sat _ _ _ (hH j hj)

/-- The cells of a new block, frozen up to n. -/
def Gh.lay (g : Gh) (b from_ : Nat) (us : List Value) : Gh := { g with H := fun b' o => if b' = b ∧ from_ ≤ o ∧ o < from_ + us.length then us[o - from_]? else g.H b' o }

theorem Gh.lay_in {g : Gh} {b from_ : Nat} {us : List Value} {j : Nat} (hj : j < us.length) : (g.lay b from_ us).H b (from_ + j) = some us[j] := by
  simp only [Gh.lay]
  rw [if_pos ⟨trivial, by omega, by omega⟩]
  simp [hj]
theorem Gh.lay_out {g : Gh} {b from_ : Nat} {us : List Value} {b' o : Nat} (h : ¬ (b' = b ∧ from_ ≤ o ∧ o < from_ + us.length)) : (g.lay b from_ us).H b' o = g.H b' o := by
  simp only [Gh.lay]
  rw [if_neg h]
theorem Gh.le_lay {g : Gh} {b from_ : Nat} {us : List Value} (h : ∀ o, from_ ≤ o → g.H b o = none) : g.le (g.lay b from_ us) := by
  refine ⟨fun b' o v hv => ?_, fun _ _ h => h⟩
  rw [Gh.lay_out]
  · exact hv
  · rintro ⟨rfl, h1, _⟩
    rw [h o h1] at hv; cases hv

theorem opN_append {P : Program} {T T₂ E₂ sz bytes : Nat} [hT : TApp P T sz bytes] [hT₂ : TSl P T₂ E₂] {x y : Operand} {dst : Option Nat} {ty : TypeId} {pos : String} {af : Array Edge} {gd : Option (Nat × Bool)} {ρ : Env} {L : List Res} {L' : Tag → List Res}
    {xs ys : List (List PV)} {t u : Tag} (hx : ρ.ev x = .slice xs t) (hy : ρ.ev y = .slice ys u) (hxs : ∀ e ∈ xs, e.length = sz) (hys : ∀ e ∈ ys, e.length = sz) (hfl : ∀ e ∈ ys, flat e) (hb : (xs.length + ys.length) * bytes ≤ 2 ^ 47) (hm : xs.length + ys.length ≤ maxN)
    (hrep : ∀ t', Rep (.tok t xs.length sz) (.tok t' (xs.length + ys.length) sz) L (L' t')) {Ψ : PV → List Res → Prop} (k : ∀ t', Ψ (.slice (xs ++ ys) t') (L' t')) :
    OpN P ⟨dst, .call { callee := .builtin .append, args := #[x, y], argTypes := #[T, T₂] }, ty, pos, af, gd⟩ ρ L Ψ := by
  intro a w g ha hi
  obtain ⟨E, i, z, t1, t2, t3, t4, t5, t6, t7, t8⟩ := hT.out
  have h1 := ha x (by simp [Op.operands, Call.operands]); rw [hx] at h1
  have h2 := ha y (by simp [Op.operands, Call.operands]); rw [hy] at h2
  obtain ⟨base, cap, e1, hcap, hmx, hnone, hown, hnil, us, hus, hcell⟩ := h1.slice_cells hxs
  obtain ⟨base', cap', e2, hcap', _, hnone', _, _, vs, hvs, hcell'⟩ := h2.slice_cells hys
  have hmm : (xs ++ ys).length ≤ maxN ∧ (xs ++ ys).length * sz ≤ maxN := by
    rw [List.length_append]
    exact ⟨hm, Nat.le_trans (Nat.mul_le_mul_left _ t8.2) hb⟩
  have hul : us.length = xs.length * sz := by rw [hus.len, flatten_len hxs]
  have hvl : vs.length = ys.length * sz := by rw [hvs.len, flatten_len hys]
  have hflat : ∀ v ∈ vs, v.oneCell' = true := hvs.one (fun c hc => by
    obtain ⟨e, he, hce⟩ := List.mem_flatten.1 hc
    exact hfl e he c hce)
  have hxy : ∀ e ∈ xs ++ ys, e.length = sz := fun e he => by
    rcases List.mem_append.1 he with h | h
    · exact hxs e h
    · exact hys e h
  have huv : VRl g (us ++ vs) (xs ++ ys).flatten := by rw [List.flatten_append]; exact hus.append hvs
  have he : execOp a.eval ⟨dst, .call { callee := .builtin .append, args := #[x, y], argTypes := #[T, T₂] }, ty, pos, af, gd⟩ = (do pure (.value (← Builtin.append_ #[T, T₂] ty (#[x, y].map a.eval)))) := rfl
  have hsz : (sizeOf E).run P w = .ok sz w := by unfold sizeOf typeInfo; simp [t2, t3]
  have hfy : (Builtin.firstCells sz ys.length (.slice base' ys.length cap')).run P w = .ok vs.toArray w := firstCells_run hi hvl (fun e => by
    obtain ⟨e3, _⟩ := hnone' e
    subst e3
    simpa using hvl) (fun a e => ⟨(hcell' a e).1.imp_left fun h => us_nil hvs h.1, (hcell' a e).2⟩)
  have hti : ∀ w, (typeInfo E).run P w = .ok i w := fun w => by unfold typeInfo; simp [t2]
  -- the token
  obtain ⟨A, B, hL, _⟩ := (hrep t).split
  have htok := hi.res (.tok t xs.length sz) (by rw [hL]; simp)
  by_cases hroom : xs.length + ys.length ≤ cap
  · -- there is room
    cases t with
    | ro => exact htok.elim
    | nil =>
      obtain ⟨hx0, hc0, hsp⟩ := hnil rfl
      subst hx0 hc0
      simp only [List.length_nil, Nat.zero_add, Nat.le_zero] at hroom
      have hy0 : ys = [] := List.eq_nil_of_length_eq_zero hroom
      subst hy0
      have hr : (execOp a.eval ⟨dst, .call { callee := .builtin .append, args := #[x, y], argTypes := #[T, T₂] }, ty, pos, af, gd⟩).run P w = .ok (.value (.slice base 0 0)) w := by
        have hv0 : vs = [] := List.eq_nil_of_length_eq_zero (by simpa using hvl)
        subst hv0
        rw [he]
        simp only [List.length_nil] at hfy
        simp [Builtin.append_, e1, e2, run_underlying t1, run_underlying hT₂.out, sizeOf, typeInfo, t2, t3, Builtin.lenOf, hfy]
        cases base <;> simp [storeCells]
      have key := hi.repl (hrep .nil) rfl rfl ⟨rfl, Nat.le_refl _⟩ (Nat.le_refl _) (.refl g) (fun _ _ _ => rfl) (fun _ _ _ => ⟨fun _ => rfl, rfl⟩) hi.sat hi.satM rfl (by simp [Res.block])
      refine Oper.wq_of_run hr ?_
      exact ⟨_, _, g, _, rfl, .nilN base hsp, key.1, key.2.1, key.2.2, k .nil⟩
    | own b c =>
      obtain ⟨hbase, rfl⟩ := hown b c rfl
      subst hbase
      obtain ⟨cs, T', fr, hbk, hcs, hle, hfree, hMb, hfr⟩ := htok
      have hblt : b < w.heap.size := (Array.getElem?_eq_some_iff.1 hbk).1
      have hbk' : w.heap[b]? = some (.cells cs.toList.toArray T' fr) := by simpa using hbk
      obtain ⟨w', hrun, hb', hos, htp, hout, hsz', hkk⟩ := storeCells_runF (P := P) vs w cs.toList (xs.length * sz) 0 hbk' (by
        simp only [Array.length_toList, hcs, hvl, Nat.add_zero]; rw [← Nat.add_mul]; exact Nat.mul_le_mul_right _ hroom) (by simpa using hfr) hflat
      have hr : (execOp a.eval ⟨dst, .call { callee := .builtin .append, args := #[x, y], argTypes := #[T, T₂] }, ty, pos, af, gd⟩).run P w = .ok (.value (.slice (some ⟨b, 0, none⟩) (xs.length + ys.length) c)) w' := by
        rw [he]
        simp [Builtin.append_, e1, e2, run_underlying t1, run_underlying hT₂.out, sizeOf, typeInfo, t2, t3, Builtin.lenOf, hroom, hfy, add_plain, hrun]
      have hcell2 : ∀ o v, g.H b o = some v → w'.cell? ⟨b, o, none⟩ = some v := fun o v hv => by
        have hlt : o < xs.length * sz := by
          rcases Nat.lt_or_ge o (xs.length * sz) with h | h
          · exact h
          · rw [hfree o h] at hv; cases hv
        have h3 := hi.sat b o v hv
        simp only [World.cell?, hbk] at h3
        simp only [World.cell?, hb']
        simp at h3 ⊢
        rw [List.getElem?_append_left (by rw [List.length_take, Array.length_toList (xs := cs), hcs, Nat.min_eq_left (Nat.mul_le_mul_right _ hle)]; exact hlt), List.getElem?_take, if_pos hlt]
        simpa using h3
      have key := hi.repl (g' := g.lay b (xs.length * sz) vs) (hrep (.own b c)) hos htp hout (Nat.le_of_eq hsz'.symm) (Gh.le_lay hfree) (fun k hk hn => hkk k (fun e => hn (by simp [Res.block, e]))) (fun k hk hn => ⟨fun o => Gh.lay_out (fun h => hn (by simp [Res.block, h.1])), rfl⟩)
        (fun b₂ o v hv => by
          by_cases hin : b₂ = b ∧ xs.length * sz ≤ o ∧ o < xs.length * sz + vs.length
          · obtain ⟨rfl, h3, h4⟩ := hin
            obtain ⟨j, rfl⟩ : ∃ j, o = xs.length * sz + j := ⟨o - xs.length * sz, by omega⟩
            have hj : j < vs.length := by omega
            rw [Gh.lay_in hj] at hv
            cases hv
            have hlt : (cs.toList.take (xs.length * sz)).length = xs.length * sz := by
              rw [List.length_take, Array.length_toList (xs := cs), hcs, Nat.min_eq_left (Nat.mul_le_mul_right _ hle)]
            simp only [World.cell?, hb', Nat.add_zero]
            simp only [Option.isSome_none, Bool.false_eq_true, if_false, List.getElem?_toArray, List.append_assoc]
            rw [List.getElem?_append_right (by rw [hlt]; omega), hlt, List.getElem?_append_left (by omega)]
            simp [hj]
          · rw [Gh.lay_out hin] at hv
            by_cases hb2 : b₂ = b
            · subst hb2; exact hcell2 o v hv
            · have := hi.sat b₂ o v hv
              simp only [World.cell?] at this ⊢
              rw [hkk b₂ hb2]; exact this)
        (fun b₂ es hM => by
          have hM' : g.M b₂ = some es := hM
          have hne : b₂ ≠ b := fun e => by rw [e, hMb] at hM'; cases hM'
          exact (hi.satM b₂ es hM').congr (hkk b₂ hne))
        ⟨_, T', fr, hb', by
          have h3 := Nat.mul_le_mul_right sz hroom
          have h4 := Nat.mul_le_mul_right sz hle
          rw [Nat.add_mul] at h3
          simp only [List.size_toArray, List.length_append, List.length_take, List.length_drop, Array.length_toList, hcs, hvl, Nat.add_zero, Nat.min_eq_left h4]; omega, hroom, fun o ho => by
          rw [Gh.lay_out (by rintro ⟨_, _, h3⟩; rw [Nat.add_mul] at ho; omega)]
          exact hfree o (by rw [Nat.add_mul] at ho; omega), hMb, hfr.imp_right fun h => by
          have h3 := Nat.mul_le_mul_right sz hroom
          have h4 := Nat.mul_le_mul_right sz hle
          rw [Nat.add_mul] at h3
          simp only [List.size_toArray, List.length_append, List.length_take, List.length_drop, Array.length_toList, hcs, hvl, Nat.add_zero, Nat.min_eq_left h4] at h ⊢; omega⟩ (fun b₂ hb₂ => .inl hb₂)
      refine Oper.wq_of_run hr ?_
      refine ⟨_, .slice (xs ++ ys) (.own b c), _, _, rfl, ?_, key.1, key.2.1, key.2.2, k _⟩
      have := VR.of_cells (g := g.lay b (xs.length * sz) vs) (xs := xs ++ ys) (t := .own b c) (sz := sz) (b := b) (off := 0) (cap := c) hxy (by simpa using hroom) hmm (us := us ++ vs) (huv.mono (Gh.le_lay hfree)) (fun j hj => by
        rw [Nat.zero_add]
        by_cases hju : j < us.length
        · rw [List.getElem_append_left hju]
          have := (hcell _ rfl).2 j hju
          simp only [Nat.zero_add] at this
          exact (Gh.le_lay hfree).H _ _ _ this
        · rw [List.getElem_append_right (by omega)]
          have hj2 : j - us.length < vs.length := by simp at hj; omega
          have := Gh.lay_in (g := g) (b := b) (from_ := xs.length * sz) hj2
          rw [show xs.length * sz + (j - us.length) = j by omega] at this
          exact this) (fun b' cap' e => by cases e; exact ⟨rfl, rfl, rfl⟩) (by simp)
      simpa using this
  · -- a new row
    have hgrow : cap < xs.length + ys.length := by omega
    have hcapb : Builtin.nextslicecap (xs.length + ys.length) cap * bytes ≤ 2 ^ 48 := by
      calc Builtin.nextslicecap (xs.length + ys.length) cap * bytes ≤ (2 * (xs.length + ys.length)) * bytes := Nat.mul_le_mul_right _ (nextslicecap_le hgrow)
        _ = 2 * ((xs.length + ys.length) * bytes) := by rw [Nat.mul_assoc]
        _ ≤ 2 * 2 ^ 47 := Nat.mul_le_mul_left _ hb
        _ = 2 ^ 48 := by decide
    have hfx : ∀ w', (∀ b o v, g.H b o = some v → w'.cell? ⟨b, o, none⟩ = some v) → (Builtin.firstCells sz xs.length (.slice base xs.length cap)).run P w' = .ok us.toArray w' := fun w' hs' => by
      cases base with
      | none =>
        obtain ⟨e3, _⟩ := hnone rfl
        subst e3
        have : us = [] := List.eq_nil_of_length_eq_zero (by simpa using hul)
        subst this; rfl
      | some ad =>
        obtain ⟨b, o, s⟩ := ad
        obtain ⟨hs, hH⟩ := hcell _ rfl
        show (loadCells _ (xs.length * sz)).run P w' = _
        rw [← hul]
        exact loadCells_of (hs.imp_left fun h => us_nil hus h.1) fun j hj => hs' _ _ _ (hH j hj)
    have hfy' : ∀ w', (∀ b o v, g.H b o = some v → w'.cell? ⟨b, o, none⟩ = some v) → (Builtin.firstCells sz ys.length (.slice base' ys.length cap')).run P w' = .ok vs.toArray w' := fun w' hs' => by
      cases base' with
      | none =>
        obtain ⟨e3, _⟩ := hnone' rfl
        subst e3
        have : vs = [] := List.eq_nil_of_length_eq_zero (by simpa using hvl)
        subst this; rfl
      | some ad =>
        obtain ⟨b, o, s⟩ := ad
        obtain ⟨hs, hH⟩ := hcell' _ rfl
        show (loadCells _ (ys.length * sz)).run P w' = _
        rw [← hvl]
        exact loadCells_of (hs.imp_left fun h => us_nil hvs h.1) fun j hj => hs' _ _ _ (hH j hj)
    have hn : ¬ (xs.length + ys.length ≤ cap) := by omega
    have h63' : ¬ (9223372036854775807 < ((xs.length : Int) + (ys.length : Int))) := by have : maxN = 140737488355328 := rfl; omega
    have h48' : ¬ (281474976710656 < Builtin.nextslicecap (xs.length + ys.length) cap * i.bytes) := by rw [t4]; have : (2 : Nat) ^ 48 = 281474976710656 := by decide
                                                                                                       omega
    let nc := grownCap w (xs.length + ys.length) cap E
    have hnc : xs.length + ys.length ≤ nc := grownCap_ge w _ _ _
    have f1 := hfx w.drew hi.sat
    have f2 := hfy' w.drew hi.sat
    have hr : (execOp a.eval ⟨dst, .call { callee := .builtin .append, args := #[x, y], argTypes := #[T, T₂] }, ty, pos, af, gd⟩).run P w =
        .ok (.value (.slice (some ⟨w.heap.size, 0, none⟩) (xs.length + ys.length) nc)) (w.drew.alloc (.cells ((us ++ vs).toArray ++ Builtin.zeroCells z.cells (nc - (xs.length + ys.length))) E (0, 0))) := by
      rw [he]
      simp [Builtin.append_, e1, e2, run_underlying t1, run_underlying hT₂.out, sizeOf, typeInfo, zeroValue, t2, t3, t5, Builtin.lenOf, hn, h63', h48', Question.forced, f1, f2, newRow, grownCap, nc]
      congr 2
      apply Array.ext'
      simp [List.append_assoc]
    have hH0 : ∀ o, g.H w.heap.size o = none := fun o => by
      cases h : g.H w.heap.size o with
      | none => rfl
      | some v => have := hi.sat _ _ _ h; simp [World.cell?] at this
    have hM0 : g.M w.heap.size = none := by
      cases h : g.M w.heap.size with
      | none => rfl
      | some v => exact absurd (hi.satM _ _ h).lt (Nat.lt_irrefl _)
    have hle := Gh.le_lay (g := g) (b := w.heap.size) (from_ := 0) (us := us ++ vs) (fun o _ => hH0 o)
    have hget : ∀ (o : Obj) b, b < w.heap.size → (w.heap.push o)[b]? = w.heap[b]? := fun o b hb => by
      rw [Array.getElem?_push, if_neg (by omega)]
    have hget2 : ∀ (o : Obj) b, b < w.heap.size → (w.drew.alloc o).heap[b]? = w.heap[b]? := fun o b hb => hget o b hb
    have hlast : ∀ (o : Obj), (w.drew.alloc o).heap[w.heap.size]? = some o := fun o => by show (w.heap.push o)[w.heap.size]? = _; simp
    have hlen : (us ++ vs).length = (xs.length + ys.length) * sz := by rw [List.length_append, hul, hvl, Nat.add_mul]
    have key := hi.repl (w' := w.drew.alloc (.cells ((us ++ vs).toArray ++ Builtin.zeroCells z.cells (nc - (xs.length + ys.length))) E (0, 0))) (g' := g.lay w.heap.size 0 (us ++ vs)) (hrep (.own w.heap.size nc)) rfl rfl ⟨rfl, Nat.le_succ _⟩ (by simp) hle
      (fun k hk _ => hget _ k hk) (fun k hk _ => ⟨fun o => Gh.lay_out (fun h => by have := h.1; omega), rfl⟩)
      (fun b₂ o v hv => by
        by_cases hin : b₂ = w.heap.size ∧ 0 ≤ o ∧ o < 0 + (us ++ vs).length
        · obtain ⟨rfl, _, h4⟩ := hin
          have hj : o < (us ++ vs).length := by omega
          have := Gh.lay_in (g := g) (b := w.heap.size) (from_ := 0) hj
          rw [Nat.zero_add, hv] at this
          cases this
          simp only [World.cell?, hlast, Option.isSome_none, Bool.false_eq_true, if_false]
          rw [Array.getElem?_append_left (by simpa using hj)]
          simp [hj]
        · rw [Gh.lay_out hin] at hv
          have h3 := hi.sat b₂ o v hv
          have hb2 : b₂ < w.heap.size := by
            rcases Nat.lt_or_ge b₂ w.heap.size with h' | h'
            · exact h'
            · simp [World.cell?, Array.getElem?_eq_none h'] at h3
          simp only [World.cell?] at h3 ⊢
          rw [hget2 _ b₂ hb2]; exact h3)
      (fun b₂ es hM => by
        exact (hi.satM b₂ es hM).congr (hget2 _ b₂ (hi.satM b₂ es hM).lt))
      ⟨(us ++ vs).toArray ++ Builtin.zeroCells z.cells (nc - (xs.length + ys.length)), E, (0, 0), hlast _, by
        rw [Array.size_append, size_zeroCells, t6, List.size_toArray, hlen, ← Nat.add_mul]
        congr 1; omega, hnc, fun o ho => by
        rw [Gh.lay_out (fun h => by have := h.2.2; rw [hlen] at this; omega)]
        exact hH0 o, hM0, .inl (Nat.le_refl _)⟩ (fun b₂ hb₂ => .inr (by simp [Res.block] at hb₂; omega))
    refine Oper.wq_of_run hr ?_
    refine ⟨_, .slice (xs ++ ys) (.own w.heap.size nc), _, _, rfl, ?_, key.1, key.2.1, key.2.2, k _⟩
    have := VR.of_cells (g := g.lay w.heap.size 0 (us ++ vs)) (xs := xs ++ ys) (t := .own w.heap.size nc) (sz := sz) (b := w.heap.size) (off := 0) (cap := nc) hxy (by simpa using hnc) hmm (us := us ++ vs) (huv.mono hle) (fun j hj => Gh.lay_in hj) (fun b' cap' e => by cases e; exact ⟨rfl, rfl, rfl⟩) (by simp)
    simpa using this

end Go.Q
/- The small logic, eleventh text: slices made, cut and grown; strings; structs built. Library, no statement of its own. -/
namespace Go.Q
open Go

abbrev Str := List UInt8
def sB (s : Str) : ByteArray := ⟨s.toArray⟩
@[simp] theorem sB_size (s : Str) : (sB s).size = s.length := by simp [sB, ByteArray.size]
@[simp] theorem sB_toList (s : Str) : (sB s).toList = s := by rw [ByteArray.toList_eq]; simp [sB]
def eS (s : Str) : List PV := [.str s]
def eI (n : Int) : List PV := [.raw (.int .i64 n)]
def eB (b : Bool) : List PV := [.raw (.bool b)]
instance : Len eS 1 := ⟨fun _ => rfl⟩
instance : Len eI 1 := ⟨fun _ => rfl⟩
instance : Len eB 1 := ⟨fun _ => rfl⟩
class FlatF {α : Type} (f : α → List PV) : Prop where
  out : ∀ a, flat (f a)
instance : FlatF eI := ⟨fun _ => flat_raw rfl flat_nil⟩
instance : FlatF eB := ⟨fun _ => flat_raw rfl flat_nil⟩
instance : FlatF eDig := ⟨fun d => (inferInstance : Flat (eDig d)).out⟩
instance : FlatF eIdent := ⟨fun d => (inferInstance : Flat (eIdent d)).out⟩

/-- The value's cells. -/
def Cells (x : PV) (cs : List PV) : Prop := ∀ g v, VR g v x → ∃ us : List Value, v.cells = us.toArray ∧ VRl g us cs
theorem Cells.agg (cs : List PV) : Cells (.agg cs) cs := fun g v h => by
  obtain ⟨vs, rfl, h2⟩ := h.agg_inv
  exact ⟨vs, rfl, h2⟩
theorem Cells.one {c : PV} (hf : flat [c]) : Cells c [c] := fun g v hv => by
  obtain ⟨h1, h2, h3, h4⟩ := hf c (by simp)
  have h1 := hv.one h1 h2 h3 h4
  refine ⟨[v], ?_, .cons hv (.nil g)⟩
  cases v <;> first | rfl | cases h1
theorem VR.ro {g : Gh} {v : Value} {xs : List (List PV)} {t : Tag} (h : VR g v (.slice xs t)) : VR g v (.slice xs .ro) := by
  cases h with
  | nilN o ho => exact .nilR
  | nilR => exact .nilR
  | slice sz f hl hc hm hs hH hv ht hn => exact .slice sz f hl hc hm hs hH hv (by simp) (by simp)
theorem Cells.ro (xs : List (List PV)) (t : Tag) : Cells (.slice xs t) [.slice xs .ro] := fun g v hv => by
  refine ⟨[v], ?_, .cons hv.ro (.nil g)⟩
  cases hv <;> rfl

section
variable {P : Program} {N : Nat} {all : Array Oper} {K : Env → List Res → Prop} {fl : List Bool} {os : List Oper} {ρ : Env} {L : List Res}
variable {d : Nat} {ty : TypeId} {pos : String} {af : Array Edge}

theorem s_append {T T₂ E₂ sz bytes : Nat} [hT : TApp P T sz bytes] [hT₂ : TSl P T₂ E₂] {x y : Operand} {L' : Tag → List Res} {α : Type} {f : α → List PV} [hf : Len f sz] [hff : FlatF f] {l m : List α} {t u : Tag}
    (hx : ρ.ev x = .slice (l.map f) t) (hy : ρ.ev y = .slice (m.map f) u) (hb : (l.length + m.length) * bytes ≤ 140737488355328) (hm : l.length + m.length ≤ 140737488355328) (hrep : ∀ t', Rep (.tok t l.length sz) (.tok t' (l ++ m).length sz) L (L' t'))
    (k : ∀ t', pops P N all K fl.tail os (upd ρ d (.slice ((l ++ m).map f) t')) (L' t')) (hd : Nat.blt d N = true := by rfl) (hfl : fl.headD true = true := by rfl) :
    pops P N all K fl (⟨some d, .call { callee := .builtin .append, args := #[x, y], argTypes := #[T, T₂] }, ty, pos, af, none⟩ :: os) ρ L :=
  pops_n rfl (dlt hd) hfl (opN_append hx hy (fun e he => by obtain ⟨a, _, rfl⟩ := List.mem_map.1 he; exact hf.out a) (fun e he => by obtain ⟨a, _, rfl⟩ := List.mem_map.1 he; exact hf.out a) (fun e he => by obtain ⟨a, _, rfl⟩ := List.mem_map.1 he; exact hff.out a)
    (by simpa using hb) (by simp only [List.length_map]; exact hm) (fun t' => by simpa using hrep t') (fun t' => by simpa using k t'))

/-! ### New slices -/
theorem Inv.lay {w : World} {g : Gh} (hi : Inv w g L) (us : List Value) (E : TypeId) :
    Inv { w with heap := w.heap.push (.cells us.toArray E (0, 0)) } (g.lay w.heap.size 0 us) L ∧ Step (blocks L) w g { w with heap := w.heap.push (.cells us.toArray E (0, 0)) } (g.lay w.heap.size 0 us) ∧ g.le (g.lay w.heap.size 0 us) := by
  have hH0 : ∀ o, g.H w.heap.size o = none := fun o => by
    cases h : g.H w.heap.size o with
    | none => rfl
    | some v => have := hi.sat _ _ _ h; simp [World.cell?] at this
  have hle := Gh.le_lay (g := g) (b := w.heap.size) (from_ := 0) (us := us) (fun o _ => hH0 o)
  have hget : ∀ b, b < w.heap.size → (w.heap.push (Obj.cells us.toArray E (0, 0)))[b]? = w.heap[b]? := fun b hb => by
    rw [Array.getElem?_push, if_neg (by omega)]
  have key := (hi.tok 0).repl (w' := { w with heap := w.heap.push (.cells us.toArray E (0, 0)) }) (g' := g.lay w.heap.size 0 us) (r' := .tok .nil 0 0) .here rfl rfl ⟨rfl, Nat.le_refl _⟩ (by simp) hle (fun k hk _ => hget k hk) (fun k hk _ => ⟨fun o => Gh.lay_out (fun h => by have := h.1; omega), rfl⟩)
    (fun b₂ o v hv => by
      by_cases hin : b₂ = w.heap.size ∧ 0 ≤ o ∧ o < 0 + us.length
      · obtain ⟨rfl, _, h4⟩ := hin
        have hj : o < us.length := by omega
        have := Gh.lay_in (g := g) (b := w.heap.size) (from_ := 0) hj
        rw [Nat.zero_add, hv] at this
        cases this
        simp [World.cell?, hj]
      · rw [Gh.lay_out hin] at hv
        have h3 := hi.sat b₂ o v hv
        have hb2 : b₂ < w.heap.size := by
          rcases Nat.lt_or_ge b₂ w.heap.size with h' | h'
          · exact h'
          · simp [World.cell?, Array.getElem?_eq_none h'] at h3
        simp only [World.cell?] at h3 ⊢
        rw [hget b₂ hb2]; exact h3)
    (fun b₂ es hM => by
      exact (hi.satM b₂ es hM).congr (hget b₂ (hi.satM b₂ es hM).lt)) rfl (by simp [Res.block])
  exact ⟨key.1.sub (List.sublist_cons_self _ _), key.2.1, hle⟩

theorem splice_foldl : ∀ (us : List Value) (cs : List Value) (off i : Nat), off + i + us.length ≤ cs.length →
    ((us.zipIdx i).foldl (fun (cs : Array Value) (p : Value × Nat) => cs.setIfInBounds (off + p.2) p.1) cs.toArray) = (cs.take (off + i) ++ us ++ cs.drop (off + i + us.length)).toArray
  | [], cs, off, i, h => by simp
  | u :: us, cs, off, i, h => by
    simp only [List.length_cons] at h
    simp only [List.zipIdx_cons, List.foldl_cons, List.setIfInBounds_toArray]
    rw [splice_foldl us (cs.set (off + i) u) off (i + 1) (by simp; omega)]
    congr 1
    rw [show off + (i + 1) = off + i + 1 by omega, List.take_set, List.drop_set_of_lt (by omega), List.take_succ_eq_append_getElem (by omega : off + i < cs.length), List.set_append]
    simp only [List.length_take, Nat.min_eq_left (by omega : off + i ≤ cs.length), Nat.lt_irrefl, if_false, Nat.sub_self, List.set_cons_zero, List.append_assoc, List.cons_append, List.nil_append, List.length_cons]
    rw [show off + i + 1 + us.length = off + i + (us.length + 1) by omega]

theorem fill_cons {place : Nat → Option (Nat × Nat)} {cs : List Value} {i off size : Nat} {v : Value} {us : List Value} {rest : List (Nat × Value)} (hp : place i = some (off, size)) (hv : v.cells = us.toArray) (hs : us.length = size) (hl : off + us.length ≤ cs.length) :
    Instr.fill place cs.toArray ((i, v) :: rest) = Instr.fill place (cs.take off ++ us ++ cs.drop (off + us.length)).toArray rest := by
  simp only [Instr.fill, hp, hv]
  rw [if_neg (by simp; omega)]
  congr 1
  have := splice_foldl us cs off 0 (by omega)
  simp only [Nat.add_zero] at this
  rw [← this]
  rw [← Array.foldl_toList]
  simp

/-- All places filled, one behind the other. -/
theorem fill_all {sz : Nat} : ∀ (vs : List (List Value)) (xs : List Value) (k : Nat) (cs : List Value), xs.length = vs.length → (∀ i (h1 : i < xs.length) (h2 : i < vs.length), xs[i].cells = vs[i].toArray ∧ vs[i].length = sz) → cs.length = (k + vs.length) * sz →
    Instr.fill (fun i => some (i * sz, sz)) cs.toArray ((xs.zipIdx k).map fun p => (p.2, p.1)) = some (cs.take (k * sz) ++ vs.flatten).toArray
  | [], [], k, cs, _, _, hl => by simp [Instr.fill, List.take_of_length_le (show cs.length ≤ k * sz by simp at hl; omega)]
  | [], _ :: _, _, _, h, _, _ => by simp at h
  | _ :: _, [], _, _, h, _, _ => by simp at h
  | v :: vs, x :: xs, k, cs, h, hv, hl => by
    obtain ⟨h1, h2⟩ := hv 0 (by simp) (by simp)
    simp only [List.getElem_cons_zero] at h1 h2
    simp only [List.length_cons, Nat.add_mul, Nat.one_mul] at hl
    simp only [List.zipIdx_cons, List.map_cons]
    rw [fill_cons rfl h1 h2 (by omega)]
    rw [fill_all vs xs (k + 1) _ (by simpa using h) (fun i h3 h4 => hv (i + 1) (by simpa using h3) (by simpa using h4)) (by simp only [List.length_append, List.length_take, List.length_drop]; rw [Nat.add_mul, Nat.add_mul]; omega)]
    congr 2
    rw [Nat.add_mul, Nat.one_mul, List.append_assoc, List.take_append, List.length_take, Nat.min_eq_left (by omega)]
    rw [List.take_of_length_le (by simp; omega), show k * sz + sz - k * sz = v.length by omega, List.take_append, List.take_length]
    simp

theorem bs_operand {T n : Nat} {xs : List Operand} {i : Nat} (h : i < xs.length) : xs[i] ∈ (Op.buildSlice T n ((xs.zipIdx.map fun p => (p.2, p.1)).toArray)).operands := by
  have e : (Op.buildSlice T n ((xs.zipIdx.map fun p => (p.2, p.1)).toArray)).operands = xs.toArray := by
    unfold Op.operands
    simp only [List.map_map]
    congr 1
    have : ((fun (x : Nat × Operand) => x.2) ∘ fun (p : Operand × Nat) => (p.2, p.1)) = Prod.fst := by funext p; rfl
    rw [this, List.zipIdx_map_fst]
  rw [e]; simp

theorem qop_bs {T n sz by_ : Nat} [hE : TApp P T sz by_] {xs : List Operand} {cs : List (List PV)} {dst : Option Nat} {gd : Option (Nat × Bool)} (hn : xs.length = n) (hl : cs.length = n) (h24 : n * sz ≤ 16777216) (hm : n ≤ maxN)
    (hx : ∀ i (h1 : i < xs.length) (h2 : i < cs.length), Cells (ρ.ev xs[i]) cs[i] ∧ cs[i].length = sz) : QOp P ⟨dst, .buildSlice T n ((xs.zipIdx.map fun p => (p.2, p.1)).toArray), ty, pos, af, gd⟩ ρ L (.slice cs .ro) := by
  intro a w g ha hi
  obtain ⟨E, i, z, t1, t2, t3, t4, t5, t6, t7, t8⟩ := hE.out
  have hcell : ∀ i, i < n → ∃ us : List Value, (∀ (h1 : i < xs.length), (a.eval xs[i]).cells = us.toArray) ∧ (∀ (h2 : i < cs.length), VRl g us cs[i]) := fun i h1 => by
    obtain ⟨us, e1, e2⟩ := (hx i (by omega) (by omega)).1 g _ (ha xs[i] (bs_operand (by omega)))
    exact ⟨us, fun _ => e1, fun _ => e2⟩
  let F : Nat → List Value := fun i => by classical exact if h : i < n then Classical.choose (hcell i h) else []
  have hF : ∀ i (h : i < n), (∀ (h1 : i < xs.length), (a.eval xs[i]).cells = (F i).toArray) ∧ (∀ (h2 : i < cs.length), VRl g (F i) cs[i]) := fun i h => by
    have := Classical.choose_spec (hcell i h)
    simp only [F, dif_pos h]; exact this
  let vs : List (List Value) := (List.range n).map F
  have hvl : vs.length = n := by simp [vs]
  have hvi : ∀ i (h : i < vs.length), vs[i] = F i := fun i h => by simp [vs]
  have hFl : ∀ i, i < n → (F i).length = sz := fun i h => by rw [((hF i h).2 (by omega)).len, (hx i (by omega) (by omega)).2]
  have hflat : VRl g vs.flatten cs.flatten := by
    have : ∀ m, m ≤ n → VRl g (vs.take m).flatten (cs.take m).flatten := by
      intro m
      induction m with
      | zero => intro _; simp; exact .nil g
      | succ m ih =>
        intro hm'
        rw [List.take_succ_eq_append_getElem (by omega : m < vs.length), List.take_succ_eq_append_getElem (by omega : m < cs.length), List.flatten_append, List.flatten_append]
        refine (ih (by omega)).append ?_
        simp only [List.flatten_cons, List.flatten_nil, List.append_nil, hvi]
        exact (hF m (by omega)).2 (by omega)
    have := this n (Nat.le_refl _)
    rwa [List.take_of_length_le (by omega), List.take_of_length_le (by omega)] at this
  have hcs : ∀ e ∈ cs, e.length = sz := fun e he => by
    obtain ⟨j, hj, rfl⟩ := List.mem_iff_getElem.1 he
    exact (hx j (by omega) hj).2
  have hparts : (((xs.zipIdx.map fun p => (p.2, p.1)).toArray).map fun (p : Nat × Operand) => (p.1, a.eval p.2)).toList = ((xs.map a.eval).zipIdx 0).map fun p => (p.2, p.1) := by
    simp only [List.map_toArray, List.map_map]
    rw [List.zipIdx_map, List.map_map]
    rfl
  obtain ⟨j1, j2, j3⟩ := hi.lay vs.flatten E
  have hr : (execOp a.eval ⟨dst, .buildSlice T n ((xs.zipIdx.map fun p => (p.2, p.1)).toArray), ty, pos, af, gd⟩).run P w = .ok (.value (.slice (some ⟨w.heap.size, 0, none⟩) n n)) { w with heap := w.heap.push (.cells vs.flatten.toArray E (0, 0)) } := by
    have hz : ∀ (zz : Array Value), Instr.fill (fun i => some (i * sz, sz)) ((Array.range (n * sz)).map (zz[· % zz.size]!)) (((xs.map a.eval).zipIdx 0).map fun p => (p.2, p.1)) = some vs.flatten.toArray := fun zz => by
      have e : (Array.range (n * sz)).map (zz[· % zz.size]!) = ((List.range (n * sz)).map (zz[· % zz.size]!)).toArray := by
        apply Array.ext'; simp
      rw [e, fill_all vs (xs.map a.eval) 0 _ (by simp [hvl, hn]) (fun i h1 h2 => by
        simp only [List.length_map] at h1
        rw [hvi]
        simp only [List.getElem_map]
        exact ⟨(hF i (by omega)).1 h1, hFl i (by omega)⟩) (by simp [hvl])]
      simp
    show (do pure (Next.value (← Instr.buildSlice T n (((xs.zipIdx.map fun p => (p.2, p.1)).toArray).map fun (p : Nat × Operand) => (p.1, a.eval p.2)))) : Sem Next).run P w = _
    simp only [Instr.buildSlice, Sem.run_bind, run_underlying t1, Result.andThen_ok, sizeOf, typeInfo, run_program, t2, Sem.run_pure, t3, hparts]
    rw [if_neg (by have : (2 : Nat) ^ 24 = 16777216 := by decide
                   omega)]
    have hzv : (zeroValue E).run P w = .ok z w := by simp [zeroValue, typeInfo, t2, t5]
    split
    · simp only [Sem.run_bind, Sem.run_pure, Result.andThen_ok, hz #[], newRow, run_newObj]
    · simp only [Sem.run_bind, hzv, Sem.run_pure, Result.andThen_ok, hz z.cells, newRow, run_newObj]
  refine Oper.wq_of_run hr ?_
  refine ⟨_, .slice cs .ro, _, L, rfl, ?_, j1, j2, .refl _ _, rfl, rfl⟩
  have := VR.of_cells (g := g.lay w.heap.size 0 vs.flatten) (xs := cs) (t := .ro) (sz := sz) (b := w.heap.size) (off := 0) (cap := n) hcs (by omega) ⟨by omega, by rw [hl]; exact Nat.le_trans h24 (by decide)⟩ (us := vs.flatten) (hflat.mono j3) (fun j hj => Gh.lay_in hj) (by simp) (by simp)
  rw [hl] at this
  exact this
end
end Go.Q
/- The small logic, twelfth text: structs built, variables laid, slices cut, strings. Library, no statement of its own. -/
namespace Go.Q
open Go

class TStruct (P : Program) (T : Nat) : Prop where
  out : ∃ fs, P.underlying T = some (.struct fs) ∧ ∀ f ∈ fs, ∃ i, P.info? f.type = some i
class TFldS (P : Program) (S k : Nat) (off sz : outParam Nat) : Prop where
  out : ∃ fs f i, P.underlying S = some (.struct fs) ∧ fs[k]? = some f ∧ f.offset = off ∧ P.info? f.type = some i ∧ i.size = sz
/-- The zero value's cells, abstractly. -/
class ZeroE (P : Program) (T : Nat) (z : outParam (List PV)) : Prop where
  out : ∃ (i : TypeInfo) (v : Value) (us : List Value), P.info? T = some i ∧ i.zero = some v ∧ v.cells = us.toArray ∧ ∀ g, VRl g us z

/-- Writing parts over a struct. -/
inductive Puts : List PV → List (Nat × Operand × Nat × List PV) → List PV → Prop
  | nil {cs : List PV} : Puts cs [] cs
  | cons {cs cs' r new : List PV} {k off : Nat} {x : Operand} {ps : List (Nat × Operand × Nat × List PV)} (h : cs.take off ++ new ++ cs.drop (off + new.length) = cs') (hl : off + new.length ≤ cs.length) (hs : Puts cs' ps r) : Puts cs ((k, x, off, new) :: ps) r

section
variable {P : Program} {N : Nat} {all : Array Oper} {K : Env → List Res → Prop} {fl : List Bool} {os : List Oper} {ρ : Env} {L : List Res}
variable {d : Nat} {ty : TypeId} {pos : String} {af : Array Edge}

theorem fill_puts {g : Gh} {a : Act} {place : Nat → Option (Nat × Nat)} : ∀ {ps : List (Nat × Operand × Nat × List PV)} {cs r : List PV} {us : List Value}, Puts cs ps r → VRl g us cs →
    (∀ p ∈ ps, ∃ s, place p.1 = some (p.2.2.1, s) ∧ p.2.2.2.length = s ∧ ∃ vs : List Value, (a.eval p.2.1).cells = vs.toArray ∧ VRl g vs p.2.2.2) →
    ∃ vs : List Value, Instr.fill place us.toArray (ps.map fun p => (p.1, a.eval p.2.1)) = some vs.toArray ∧ VRl g vs r
  | [], _, _, us, .nil, hu, _ => ⟨us, rfl, hu⟩
  | (k, x, off, new) :: ps, cs, r, us, .cons h hl hs, hu, hp => by
    obtain ⟨s, h1, h2, vs, h3, h4⟩ := hp (k, x, off, new) (by simp)
    simp only at h1 h2 h3 h4
    simp only [List.map_cons]
    rw [fill_cons h1 h3 (by rw [h4.len, h2]) (by rw [h4.len, hu.len]; exact hl)]
    refine fill_puts hs ?_ (fun p hp' => hp p (List.mem_cons_of_mem _ hp'))
    rw [← h, ← h4.len]
    exact ((hu.take off).append h4).append (hu.drop _)

theorem mapM_places {fs : List Field} (w : World) (h : ∀ f ∈ fs, ∃ i, P.info? f.type = some i) : (fs.mapM (m := Sem) fun f => do pure (f.offset, ← sizeOf f.type)).run P w = .ok (fs.map fun f => (f.offset, P.cellsOf f.type)) w := by
  induction fs with
  | nil => rfl
  | cons f fs ih =>
    obtain ⟨i, hi⟩ := h f (by simp)
    have hf : (sizeOf f.type).run P w = .ok (P.cellsOf f.type) w := by
      simp only [Sem.run_bind, sizeOf, typeInfo, run_program, hi, Sem.run_pure, Result.andThen_ok, Program.cellsOf, Option.map_some, Option.getD_some]
    rw [List.mapM_cons]
    simp only [Sem.run_bind, hf, ih (fun f hf => h f (by simp [hf])), Sem.run_pure, Result.andThen_ok, List.map_cons]

theorem qop_build {T : Nat} [hS : TStruct P T] {z r : List PV} [hZ : ZeroE P T z] {parts : List (Nat × Operand)} {ps : List (Nat × Operand × Nat × List PV)} {dst : Option Nat} {gd : Option (Nat × Bool)} (hps : parts = ps.map fun p => (p.1, p.2.1))
    (hp : ∀ p ∈ ps, ∃ s, (∃ fs f i, P.underlying T = some (.struct fs) ∧ fs[p.1]? = some f ∧ f.offset = p.2.2.1 ∧ P.info? f.type = some i ∧ i.size = s) ∧ Cells (ρ.ev p.2.1) p.2.2.2 ∧ p.2.2.2.length = s) (hr : Puts z ps r) :
    QOp P ⟨dst, .build T parts.toArray, ty, pos, af, gd⟩ ρ L (.agg r) := qop_of_run fun a w g ha hi => by
  obtain ⟨fs, hu, hall⟩ := hS.out
  obtain ⟨i, v, us, h1, h2, h3, h4⟩ := hZ.out
  have hmem : ∀ p ∈ ps, p.2.1 ∈ (Op.build T parts.toArray).operands := fun p hp' => by
    unfold Op.operands
    simp only [hps, List.map_map, List.mem_toArray, List.mem_map]
    exact ⟨p, hp', rfl⟩
  obtain ⟨vs, hf, hvs⟩ := fill_puts (g := g) (a := a) (place := fun k => ((fs.toList.map fun f => (f.offset, P.cellsOf f.type)).toArray)[k]?) hr (h4 g) (fun p hp' => by
    obtain ⟨s, ⟨fs', f, j, e1, e2, e3, e4, e5⟩, hc, hl⟩ := hp p hp'
    rw [hu] at e1
    injection e1 with e1
    injection e1 with e1
    subst e1
    obtain ⟨vs, hv1, hv2⟩ := hc g _ (ha _ (hmem p hp'))
    refine ⟨s, ?_, hl, vs, hv1, hv2⟩
    simp [e2, e3, Program.cellsOf, e4, e5])
  refine ⟨.agg vs.toArray, ?_, hvs.agg⟩
  have hparts : ((parts.toArray).map fun (p : Nat × Operand) => (p.1, a.eval p.2)).toList = ps.map fun p => (p.1, a.eval p.2.1) := by
    simp [hps]
  have hpl : (fs.mapM (m := Sem) fun f => do pure (f.offset, ← sizeOf f.type)).run P w = .ok ((fs.toList.map fun f => (f.offset, P.cellsOf f.type)).toArray) w := by
    obtain ⟨fs⟩ := fs
    rw [List.mapM_toArray, Sem.run_map, mapM_places w (by simpa using hall)]
    simp
  show (do pure (Next.value (← Instr.build T ((parts.toArray).map fun (p : Nat × Operand) => (p.1, a.eval p.2)))) : Sem Next).run P w = _
  simp only [Instr.build, Sem.run_bind, zeroValue, typeInfo, run_program, h1, Sem.run_pure, Result.andThen_ok, h2, run_underlying hu, hpl, hparts, h3, hf]

/-- A new variable, zero. -/
theorem s_alloc {T : Nat} {z : List PV} [hZ : ZeroE P T z] (k : ∀ b, pops P N all K fl.tail os (upd ρ d (.raw (.pointer (some ⟨b, 0, none⟩)))) (.box b T z :: L)) (hd : Nat.blt d N = true := by rfl) (hf : fl.headD true = true := by rfl) :
    pops P N all K fl (⟨some d, .alloc T, ty, pos, af, none⟩ :: os) ρ L :=
  pops_n rfl (dlt hd) hf (fun a w g ha hi => by
    obtain ⟨i, v, us, h1, h2, h3, h4⟩ := hZ.out
    obtain ⟨i1, i2, i3⟩ := hi.alloc (h4 g) T
    have hr : (execOp a.eval ⟨some d, .alloc T, ty, pos, af, none⟩).run P w = .ok (.value (.pointer (some ⟨w.heap.size, 0, none⟩))) { w with heap := w.heap.push (.cells us.toArray T (0, 0)) } := by
      simp only [execOp, Instr.alloc, zeroValue, typeInfo, Sem.run_bind, run_program, h1, h2, Sem.run_pure, Result.andThen_ok, newVar, newRow, h3, run_newObj]
    refine Oper.wq_of_run hr ?_
    exact ⟨_, _, g, _, rfl, .raw _, i1, i2, i3, k _⟩)

/-- A whole variable written. -/
theorem s_storeW {T : TypeId} {x y : Operand} {b sz by_ : Nat} {cs new : List PV} {L' : List Res} [hT : TSz P T sz by_]
    (hx : ρ.ev x = .raw (.pointer (some ⟨b, 0, none⟩))) (hy : ρ.ev y = .agg new) (hu : Upd b cs new L L') [hf : Flat new] (hlen : new.length = sz) (hcs : cs.length = sz)
    (k : pops P N all K fl.tail os ρ L') (hfl : fl.headD true = true := by rfl) : pops P N all K fl (⟨none, .store T x y, ty, pos, af, none⟩ :: os) ρ L :=
  pops_n rfl (fun _ e => by cases e) hfl (opN_store hx (fun g v hv => by
    rw [hy] at hv
    obtain ⟨vs, rfl, h⟩ := hv.agg_inv
    exact ⟨vs, rfl, h⟩) hlen hf.out (by simp [List.drop_eq_nil_of_le (show cs.length ≤ new.length by omega)]) (by omega) hu k)

/-! ### Cut slices -/
theorem qop_cut {T E sz by_ : Nat} [hT : TSl P T E] [hE : TSz P E sz by_] {x : Operand} {lo hi : Option Operand} {xs : List (List PV)} {t : Tag} {dst : Option Nat} {gd : Option (Nat × Bool)} (i j : Nat) (hx : ρ.ev x = .slice xs t) (hij : i ≤ j) (hj : j ≤ xs.length) (hs : ∀ e ∈ xs, e.length = sz)
    (hlo : ∀ o, lo = some o → ∃ k, ρ.ev o = .raw (.int k i)) (hlo' : lo = none → i = 0) (hhi : ∀ o, hi = some o → ∃ k, ρ.ev o = .raw (.int k j)) (hhi' : hi = none → j = xs.length) :
    QOp P ⟨dst, .slice T x lo hi none, ty, pos, af, gd⟩ ρ L (.slice ((xs.drop i).take (j - i)) .ro) := qop_of_run fun a w g ha hI => by
  have h1 := ha x (by simp [Op.operands]); rw [hx] at h1
  obtain ⟨base, cap, e1, hcap, hmx, hnone, _, _, us, hus, hcell⟩ := h1.slice_cells hs
  have hsub : ∀ e ∈ (xs.drop i).take (j - i), e.length = sz := fun e he => hs e (List.mem_of_mem_drop (List.mem_of_mem_take he))
  have hul : us.length = xs.length * sz := by rw [hus.len, flatten_len hs]
  have hlen : ((xs.drop i).take (j - i)).length = j - i := by simp; omega
  have hbl : ∀ o, lo = some o → ∃ k, a.eval o = .int k i := fun o e => by
    obtain ⟨k, hk⟩ := hlo o e
    exact ⟨k, evRaw ha (by simp [Op.operands, e]) hk⟩
  have hbh : ∀ o, hi = some o → ∃ k, a.eval o = .int k j := fun o e => by
    obtain ⟨k, hk⟩ := hhi o e
    exact ⟨k, evRaw ha (by simp [Op.operands, e]) hk⟩
  have hbounds : (Instr.sliceBounds true xs.length cap (lo.map a.eval) (hi.map a.eval) none).run P w = .ok (i, j, cap) w := by
    unfold Instr.sliceBounds
    cases lo with
    | none =>
      have := hlo' rfl; subst this
      cases hi with
      | none => have := hhi' rfl; subst this; simp
      | some o =>
        obtain ⟨k, hk⟩ := hbh o rfl
        simp [hk, Instr.sliceBound, asIntOf]
        omega
    | some o =>
      obtain ⟨k, hk⟩ := hbl o rfl
      cases hi with
      | none =>
        have := hhi' rfl; subst this
        simp [hk, Instr.sliceBound, asIntOf]
        omega
      | some o' =>
        obtain ⟨k', hk'⟩ := hbh o' rfl
        simp [hk, hk', Instr.sliceBound, asIntOf]
        rw [if_pos (by omega)]
        simp
        omega
  have hr : (execOp a.eval ⟨dst, .slice T x lo hi none, ty, pos, af, gd⟩).run P w = .ok (.value (.slice (if cap = i then base else base.map (·.add (i * sz))) (j - i) (cap - i))) w := by
    show (do pure (Next.value (← Instr.sliceAt T (a.eval x) (lo.map a.eval) (hi.map a.eval) none)) : Sem Next).run P w = _
    simp only [Instr.sliceAt, Sem.run_bind, run_underlying hT.out, Result.andThen_ok, Instr.slice, e1, hbounds, TSz.run hE, Sem.run_pure]
  refine ⟨_, hr, ?_⟩
  cases base with
  | none =>
    obtain ⟨rfl, rfl⟩ := hnone rfl
    simp at hj
    have hj0 : j = 0 := by omega
    have hi0 : i = 0 := by omega
    subst hj0 hi0
    simpa using VR.nilR (g := g) (o := none)
  | some ad =>
    obtain ⟨b, o, s⟩ := ad
    obtain ⟨hs', hH⟩ := hcell _ rfl
    rcases hs' with ⟨e3, e4⟩ | hs'
    · subst e3 e4
      simp only [List.length_nil, Nat.le_zero] at hj
      subst hj
      have hi0 : i = 0 := by omega
      subst hi0
      simpa using VR.nilR (g := g) (o := some ⟨b, o, s⟩)
    simp only at hs'
    subst hs'
    have hfl : ((xs.drop i).take (j - i)).flatten = (xs.flatten.drop (i * sz)).take ((j - i) * sz) := by
      have d1 : ∀ (n : Nat) (ys : List (List PV)), (∀ e ∈ ys, e.length = sz) → (ys.drop n).flatten = ys.flatten.drop (n * sz) := by
        intro n
        induction n with
        | zero => intro ys _; simp
        | succ n ih =>
          intro ys hy
          cases ys with
          | nil => simp
          | cons y ys =>
            simp only [List.drop_succ_cons, List.flatten_cons]
            rw [ih ys (fun e he => hy e (by simp [he])), Nat.add_mul, Nat.one_mul, Nat.add_comm, ← List.drop_drop]
            rw [List.drop_left' (hy y (by simp))]
      have d2 : ∀ (n : Nat) (ys : List (List PV)), (∀ e ∈ ys, e.length = sz) → (ys.take n).flatten = ys.flatten.take (n * sz) := by
        intro n
        induction n with
        | zero => intro ys _; simp
        | succ n ih =>
          intro ys hy
          cases ys with
          | nil => simp
          | cons y ys =>
            simp only [List.take_succ_cons, List.flatten_cons]
            rw [ih ys (fun e he => hy e (by simp [he])), Nat.add_mul, Nat.one_mul, Nat.add_comm, ← hy y (by simp), List.take_length_add_append]
      rw [d2 _ _ (fun e he => hs e (List.mem_of_mem_drop he)), d1 _ _ hs]
    have hus2 : VRl g ((us.drop (i * sz)).take ((j - i) * sz)) ((xs.drop i).take (j - i)).flatten := by rw [hfl]; exact (hus.drop _).take _
    by_cases hci : cap = i
    · have hj0 : j - i = 0 := by omega
      rw [if_pos hci, hj0]
      have := VR.of_cells (g := g) (xs := (xs.drop i).take 0) (t := .ro) (sz := sz) (b := b) (off := o) (cap := cap - i) (by simp) (by simp) ⟨by simp, by simp⟩ (us := []) (by simpa using VRl.nil g) (by simp) (by simp) (by simp)
      simpa using this
    · rw [if_neg hci]
      have := VR.of_cells (g := g) (xs := (xs.drop i).take (j - i)) (t := .ro) (sz := sz) (b := b) (off := o + i * sz) (cap := cap - i) hsub (by omega) ⟨by have := hmx.1; omega, Nat.le_trans (Nat.mul_le_mul_right _ (by omega)) hmx.2⟩ hus2 (fun k hk => by
        have hk' : k < (j - i) * sz := by simp at hk; omega
        have hlt : i * sz + k < us.length := by
          rw [hul]
          have h2 : j * sz ≤ xs.length * sz := Nat.mul_le_mul_right _ hj
          have h3 : (j - i) * sz + i * sz = j * sz := by rw [← Nat.add_mul]; congr 1; omega
          omega
        rw [Nat.add_assoc, hH _ hlt]
        simp) (by simp) (by simp)
      rw [hlen] at this
      simpa [add_plain] using this

theorem s_cutL {T E sz by_ : Nat} [hT : TSl P T E] [hE : TSz P E sz by_] {x y : Operand} {α : Type} {f : α → List PV} [hf : Len f sz] {l : List α} {t : Tag} {kk : IntKind} {i : Nat} (hx : ρ.ev x = .slice (l.map f) t) (hy : ρ.ev y = .raw (.int kk (i : Int))) (hi : i ≤ l.length)
    (k : pops P N all K fl.tail os (upd ρ d (.slice ((l.drop i).map f) .ro)) L) (hd : Nat.blt d N = true := by rfl) : pops P N all K fl (⟨some d, .slice T x (some y) none none, ty, pos, af, none⟩ :: os) ρ L :=
  step_q hd (qop_cut i l.length hx hi (by simp) (fun e he => by obtain ⟨a, _, rfl⟩ := List.mem_map.1 he; exact hf.out a) (fun o e => by cases e; exact ⟨_, hy⟩) (by simp) (by simp) (by simp)) (by
    rw [List.take_of_length_le (by simp), ← List.map_drop]; exact k)
theorem s_cutH {T E sz by_ : Nat} [hT : TSl P T E] [hE : TSz P E sz by_] {x y : Operand} {α : Type} {f : α → List PV} [hf : Len f sz] {l : List α} {t : Tag} {kk : IntKind} {j : Nat} (hx : ρ.ev x = .slice (l.map f) t) (hy : ρ.ev y = .raw (.int kk (j : Int))) (hj : j ≤ l.length)
    (k : pops P N all K fl.tail os (upd ρ d (.slice ((l.take j).map f) .ro)) L) (hd : Nat.blt d N = true := by rfl) : pops P N all K fl (⟨some d, .slice T x none (some y) none, ty, pos, af, none⟩ :: os) ρ L :=
  step_q hd (qop_cut 0 j hx (by omega) (by simpa using hj) (fun e he => by obtain ⟨a, _, rfl⟩ := List.mem_map.1 he; exact hf.out a) (by simp) (by simp) (fun o e => by cases e; exact ⟨_, hy⟩) (by simp)) (by
    simp only [List.drop_zero, Nat.sub_zero, ← List.map_take]; exact k)


theorem s_build1 {T f0 o0 s0 : Nat} {x0 : Operand} {z c0 r0 : List PV} [hS : TStruct P T] [hZ : ZeroE P T z] [hF0 : TFldS P T f0 o0 s0] [hP0 : Put z o0 c0 r0] (h0 : Cells (ρ.ev x0) c0) (hl0 : c0.length = s0)
    (k : pops P N all K fl.tail os (upd ρ d (.agg r0)) L) (hd : Nat.blt d N = true := by rfl) : pops P N all K fl (⟨some d, .build T #[(f0, x0)], ty, pos, af, none⟩ :: os) ρ L :=
  step_q hd (qop_build (ps := [(f0, x0, o0, c0)]) rfl (by
    intro p hp
    simp only [List.mem_cons, List.not_mem_nil, or_false] at hp
    rcases hp with rfl
    · exact ⟨s0, hF0.out, h0, hl0⟩) (.cons hP0.out.1 hP0.out.2 (.nil))) k

theorem s_build2 {T f0 f1 o0 o1 s0 s1 : Nat} {x0 x1 : Operand} {z c0 c1 r0 r1 : List PV} [hS : TStruct P T] [hZ : ZeroE P T z] [hF0 : TFldS P T f0 o0 s0] [hF1 : TFldS P T f1 o1 s1] [hP0 : Put z o0 c0 r0] [hP1 : Put r0 o1 c1 r1] (h0 : Cells (ρ.ev x0) c0) (h1 : Cells (ρ.ev x1) c1) (hl0 : c0.length = s0) (hl1 : c1.length = s1)
    (k : pops P N all K fl.tail os (upd ρ d (.agg r1)) L) (hd : Nat.blt d N = true := by rfl) : pops P N all K fl (⟨some d, .build T #[(f0, x0), (f1, x1)], ty, pos, af, none⟩ :: os) ρ L :=
  step_q hd (qop_build (ps := [(f0, x0, o0, c0), (f1, x1, o1, c1)]) rfl (by
    intro p hp
    simp only [List.mem_cons, List.not_mem_nil, or_false] at hp
    rcases hp with rfl | rfl
    · exact ⟨s0, hF0.out, h0, hl0⟩
    · exact ⟨s1, hF1.out, h1, hl1⟩) (.cons hP0.out.1 hP0.out.2 (.cons hP1.out.1 hP1.out.2 (.nil)))) k

theorem s_build3 {T f0 f1 f2 o0 o1 o2 s0 s1 s2 : Nat} {x0 x1 x2 : Operand} {z c0 c1 c2 r0 r1 r2 : List PV} [hS : TStruct P T] [hZ : ZeroE P T z] [hF0 : TFldS P T f0 o0 s0] [hF1 : TFldS P T f1 o1 s1] [hF2 : TFldS P T f2 o2 s2] [hP0 : Put z o0 c0 r0] [hP1 : Put r0 o1 c1 r1] [hP2 : Put r1 o2 c2 r2] (h0 : Cells (ρ.ev x0) c0) (h1 : Cells (ρ.ev x1) c1) (h2 : Cells (ρ.ev x2) c2) (hl0 : c0.length = s0) (hl1 : c1.length = s1) (hl2 : c2.length = s2)
    (k : pops P N all K fl.tail os (upd ρ d (.agg r2)) L) (hd : Nat.blt d N = true := by rfl) : pops P N all K fl (⟨some d, .build T #[(f0, x0), (f1, x1), (f2, x2)], ty, pos, af, none⟩ :: os) ρ L :=
  step_q hd (qop_build (ps := [(f0, x0, o0, c0), (f1, x1, o1, c1), (f2, x2, o2, c2)]) rfl (by
    intro p hp
    simp only [List.mem_cons, List.not_mem_nil, or_false] at hp
    rcases hp with rfl | rfl | rfl
    · exact ⟨s0, hF0.out, h0, hl0⟩
    · exact ⟨s1, hF1.out, h1, hl1⟩
    · exact ⟨s2, hF2.out, h2, hl2⟩) (.cons hP0.out.1 hP0.out.2 (.cons hP1.out.1 hP1.out.2 (.cons hP2.out.1 hP2.out.2 (.nil))))) k

theorem s_build4 {T f0 f1 f2 f3 o0 o1 o2 o3 s0 s1 s2 s3 : Nat} {x0 x1 x2 x3 : Operand} {z c0 c1 c2 c3 r0 r1 r2 r3 : List PV} [hS : TStruct P T] [hZ : ZeroE P T z] [hF0 : TFldS P T f0 o0 s0] [hF1 : TFldS P T f1 o1 s1] [hF2 : TFldS P T f2 o2 s2] [hF3 : TFldS P T f3 o3 s3] [hP0 : Put z o0 c0 r0] [hP1 : Put r0 o1 c1 r1] [hP2 : Put r1 o2 c2 r2] [hP3 : Put r2 o3 c3 r3] (h0 : Cells (ρ.ev x0) c0) (h1 : Cells (ρ.ev x1) c1) (h2 : Cells (ρ.ev x2) c2) (h3 : Cells (ρ.ev x3) c3) (hl0 : c0.length = s0) (hl1 : c1.length = s1) (hl2 : c2.length = s2) (hl3 : c3.length = s3)
    (k : pops P N all K fl.tail os (upd ρ d (.agg r3)) L) (hd : Nat.blt d N = true := by rfl) : pops P N all K fl (⟨some d, .build T #[(f0, x0), (f1, x1), (f2, x2), (f3, x3)], ty, pos, af, none⟩ :: os) ρ L :=
  step_q hd (qop_build (ps := [(f0, x0, o0, c0), (f1, x1, o1, c1), (f2, x2, o2, c2), (f3, x3, o3, c3)]) rfl (by
    intro p hp
    simp only [List.mem_cons, List.not_mem_nil, or_false] at hp
    rcases hp with rfl | rfl | rfl | rfl
    · exact ⟨s0, hF0.out, h0, hl0⟩
    · exact ⟨s1, hF1.out, h1, hl1⟩
    · exact ⟨s2, hF2.out, h2, hl2⟩
    · exact ⟨s3, hF3.out, h3, hl3⟩) (.cons hP0.out.1 hP0.out.2 (.cons hP1.out.1 hP1.out.2 (.cons hP2.out.1 hP2.out.2 (.cons hP3.out.1 hP3.out.2 (.nil)))))) k

theorem s_build5 {T f0 f1 f2 f3 f4 o0 o1 o2 o3 o4 s0 s1 s2 s3 s4 : Nat} {x0 x1 x2 x3 x4 : Operand} {z c0 c1 c2 c3 c4 r0 r1 r2 r3 r4 : List PV} [hS : TStruct P T] [hZ : ZeroE P T z] [hF0 : TFldS P T f0 o0 s0] [hF1 : TFldS P T f1 o1 s1] [hF2 : TFldS P T f2 o2 s2] [hF3 : TFldS P T f3 o3 s3] [hF4 : TFldS P T f4 o4 s4] [hP0 : Put z o0 c0 r0] [hP1 : Put r0 o1 c1 r1] [hP2 : Put r1 o2 c2 r2] [hP3 : Put r2 o3 c3 r3] [hP4 : Put r3 o4 c4 r4] (h0 : Cells (ρ.ev x0) c0) (h1 : Cells (ρ.ev x1) c1) (h2 : Cells (ρ.ev x2) c2) (h3 : Cells (ρ.ev x3) c3) (h4 : Cells (ρ.ev x4) c4) (hl0 : c0.length = s0) (hl1 : c1.length = s1) (hl2 : c2.length = s2) (hl3 : c3.length = s3) (hl4 : c4.length = s4)
    (k : pops P N all K fl.tail os (upd ρ d (.agg r4)) L) (hd : Nat.blt d N = true := by rfl) : pops P N all K fl (⟨some d, .build T #[(f0, x0), (f1, x1), (f2, x2), (f3, x3), (f4, x4)], ty, pos, af, none⟩ :: os) ρ L :=
  step_q hd (qop_build (ps := [(f0, x0, o0, c0), (f1, x1, o1, c1), (f2, x2, o2, c2), (f3, x3, o3, c3), (f4, x4, o4, c4)]) rfl (by
    intro p hp
    simp only [List.mem_cons, List.not_mem_nil, or_false] at hp
    rcases hp with rfl | rfl | rfl | rfl | rfl
    · exact ⟨s0, hF0.out, h0, hl0⟩
    · exact ⟨s1, hF1.out, h1, hl1⟩
    · exact ⟨s2, hF2.out, h2, hl2⟩
    · exact ⟨s3, hF3.out, h3, hl3⟩
    · exact ⟨s4, hF4.out, h4, hl4⟩) (.cons hP0.out.1 hP0.out.2 (.cons hP1.out.1 hP1.out.2 (.cons hP2.out.1 hP2.out.2 (.cons hP3.out.1 hP3.out.2 (.cons hP4.out.1 hP4.out.2 (.nil))))))) k

theorem s_build6 {T f0 f1 f2 f3 f4 f5 o0 o1 o2 o3 o4 o5 s0 s1 s2 s3 s4 s5 : Nat} {x0 x1 x2 x3 x4 x5 : Operand} {z c0 c1 c2 c3 c4 c5 r0 r1 r2 r3 r4 r5 : List PV} [hS : TStruct P T] [hZ : ZeroE P T z] [hF0 : TFldS P T f0 o0 s0] [hF1 : TFldS P T f1 o1 s1] [hF2 : TFldS P T f2 o2 s2] [hF3 : TFldS P T f3 o3 s3] [hF4 : TFldS P T f4 o4 s4] [hF5 : TFldS P T f5 o5 s5] [hP0 : Put z o0 c0 r0] [hP1 : Put r0 o1 c1 r1] [hP2 : Put r1 o2 c2 r2] [hP3 : Put r2 o3 c3 r3] [hP4 : Put r3 o4 c4 r4] [hP5 : Put r4 o5 c5 r5] (h0 : Cells (ρ.ev x0) c0) (h1 : Cells (ρ.ev x1) c1) (h2 : Cells (ρ.ev x2) c2) (h3 : Cells (ρ.ev x3) c3) (h4 : Cells (ρ.ev x4) c4) (h5 : Cells (ρ.ev x5) c5) (hl0 : c0.length = s0) (hl1 : c1.length = s1) (hl2 : c2.length = s2) (hl3 : c3.length = s3) (hl4 : c4.length = s4) (hl5 : c5.length = s5)
    (k : pops P N all K fl.tail os (upd ρ d (.agg r5)) L) (hd : Nat.blt d N = true := by rfl) : pops P N all K fl (⟨some d, .build T #[(f0, x0), (f1, x1), (f2, x2), (f3, x3), (f4, x4), (f5, x5)], ty, pos, af, none⟩ :: os) ρ L :=
  step_q hd (qop_build (ps := [(f0, x0, o0, c0), (f1, x1, o1, c1), (f2, x2, o2, c2), (f3, x3, o3, c3), (f4, x4, o4, c4), (f5, x5, o5, c5)]) rfl (by
    intro p hp
    simp only [List.mem_cons, List.not_mem_nil, or_false] at hp
    rcases hp with rfl | rfl | rfl | rfl | rfl | rfl
    · exact ⟨s0, hF0.out, h0, hl0⟩
    · exact ⟨s1, hF1.out, h1, hl1⟩
    · exact ⟨s2, hF2.out, h2, hl2⟩
    · exact ⟨s3, hF3.out, h3, hl3⟩
    · exact ⟨s4, hF4.out, h4, hl4⟩
    · exact ⟨s5, hF5.out, h5, hl5⟩) (.cons hP0.out.1 hP0.out.2 (.cons hP1.out.1 hP1.out.2 (.cons hP2.out.1 hP2.out.2 (.cons hP3.out.1 hP3.out.2 (.cons hP4.out.1 hP4.out.2 (.cons hP5.out.1 hP5.out.2 (.nil)))))))) k




end
end Go.Q
