/- A small logic over the model's own rules of the walk: abstract values, frozen cells, resources. Library, no statement of its own. -/
import Derived.Orders
import Derived.KernelRfl
import Derived.OrdersIn
import Derived.RangeFuncIn
import Derived.RangeFuncRecord
import Derived.RangeFuncLeaves
import Derived.Laws.Sem
import Derived.IntWalk
import Derived.Laws.Strings
import Derived.Laws.Entries
set_option linter.unusedSimpArgs false
set_option linter.unusedVariables false
namespace Go
abbrev A06:=@Nat.zero_mul
abbrev A07:=@List.map_set
abbrev A08:=@List.getElem_replicate
abbrev A09:=@List.flatMap_singleton
abbrev A0A:=@List.findIdx_le_length
abbrev A0B:=@List.findIdx_eq_length
abbrev A0R:=@Nat.eq_of_beq_eq_true
abbrev A0S:=@List.Perm.append_left
abbrev A0T:=@Array.mem_of_getElem?
abbrev A0U:=@Array.getElem?_append
abbrev A7:=@List.take_succ_eq_append_getElem
abbrev A8:=@decide_eq_false_iff_not
abbrev AA:=@List.length_append
abbrev AB:=@decide_eq_true_eq
abbrev AE:=@List.take_of_length_le
abbrev AF:=@List.getElem_mem
abbrev AG:=@List.mem_cons_self
abbrev AH:=@List.mem_cons_of_mem
abbrev AI:=@List.mem_cons
abbrev AJ:=@Bool.not_eq_true'
abbrev AL:=@Bool.not_eq_false'
abbrev AN:=@List.length_cons
abbrev AO:=@List.getElem?_eq_getElem
abbrev AQ:=@List.mem_map
abbrev AR:=@List.length_map
abbrev AU:=@List.append_assoc
abbrev AZ:=@List.mem_iff_getElem
abbrev Aa:=@List.length_take
abbrev Af:=@List.length_nil
abbrev Ah:=@Nat.le_refl
abbrev Ai:=@List.not_mem_nil
abbrev Aj:=@List.mem_append
abbrev Ak:=@List.map_append
abbrev An:=@List.mem_singleton
abbrev Ar:=@List.map_cons
abbrev Ax:=@List.filterMap_cons
abbrev Ay:=@List.pairwise_iff_getElem
abbrev B0:=@List.cons_append
abbrev B3:=@Nat.mul_le_mul_right
abbrev B5:=@List.length_drop
abbrev B6:=@List.length_singleton
abbrev B8:=@List.nil_append
abbrev B9:=@Nat.lt_or_ge
abbrev BB:=@of_decide_eq_true
abbrev BC:=@List.getElem_append_left
abbrev BF:=@Array.getElem?_eq_some_iff
abbrev BG:=@Nat.zero_add
abbrev BJ:=@List.getElem_cons_zero
abbrev BL:=@List.eq_nil_of_length_eq_zero
abbrev BM:=@List.foldl_cons
abbrev BN:=@List.getElem_map
abbrev BO:=@List.foldl_append
abbrev BR:=@decide_eq_true
abbrev BT:=@Bool.false_eq_true
abbrev BU:=@Option.getD_some
abbrev BW:=@Bool.and_eq_true
abbrev BX:=@List.append_nil
abbrev Bb:=@List.getElem?_eq_some_iff
abbrev Bc:=@List.perm_middle
abbrev Bf:=@List.nodup_cons
abbrev Bg:=@List.all_eq_true
abbrev Bk:=@List.getElem_append_right
abbrev Bl:=@List.any_eq_false
abbrev Bm:=@List.take_append_drop
abbrev Bn:=@Option.map_eq_some_iff
abbrev Bo:=@Array.getElem?_eq_none
abbrev Bp:=@of_decide_eq_false
abbrev Bq:=@List.pairwise_cons
abbrev Br:=@List.mem_range
abbrev Bu:=@List.any_eq_true
abbrev Bw:=@List.mem_filterMap
abbrev C0:=@List.getD_eq_getElem?_getD
abbrev C7:=@Nat.add_mul
abbrev CC:=@List.map_congr_left
abbrev CG:=@List.map_map
abbrev CH:=@List.drop_eq_getElem_cons
abbrev CJ:=@List.flatten_append
abbrev CN:=@Option.some.inj
abbrev CR:=@Array.getElem?_eq_getElem
abbrev CT:=@Bool.or_eq_false_iff
abbrev CU:=@List.map_nil
abbrev CY:=@Option.isSome_none
abbrev CZ:=@Nat.le_trans
abbrev Cc:=@Array.length_toList
abbrev Cf:=@List.getElem?_append_left
abbrev Cg:=@List.length_mergeSort
abbrev Cj:=@List.size_toArray
abbrev Ck:=@List.flatten_cons
abbrev Cy:=@Classical.not_not
abbrev DB:=@decide_eq_false
abbrev DC:=@List.sum_append
abbrev DD:=@List.sublist_append_right
abbrev DE:=@Classical.byContradiction
abbrev DF:=@List.getElem_cons_succ
abbrev DH:=@List.drop_eq_nil_of_le
abbrev DI:=@List.sum_cons
abbrev DK:=@Nat.not_lt_zero
abbrev DM:=@Nat.min_eq_left
abbrev DN:=@List.length_set
abbrev DP:=@List.flatMap_cons
abbrev DZ:=@List.mem_take_iff_getElem
abbrev Dc:=@List.mem_append_left
abbrev Dk:=@List.length_filter_le
abbrev Dm:=@List.filterMap_append
abbrev Dq:=@Nat.add_zero
abbrev Dw:=@Option.bind_eq_some_iff
abbrev Dx:=@Int.toNat_natCast
abbrev E6:=@Nat.mod_eq_of_lt
abbrev E7:=@Nat.add_assoc
abbrev E8:=@List.take_length
abbrev E9:=@List.mem_flatten
abbrev EA:=@List.ext_getElem
abbrev EE:=@List.mem_append_right
abbrev EG:=@Nat.le_of_eq
abbrev EH:=@List.nodup_append
abbrev EI:=@List.getElem?_append_right
abbrev EJ:=@List.range_succ
abbrev EK:=@Bool.true_and
abbrev EP:=@List.sublist_cons_self
abbrev EW:=@List.getElem?_map
abbrev EY:=@List.Sublist.refl
abbrev Ed:=@Option.map_some
abbrev Et:=@List.mem_of_mem_take
abbrev Eu:=@List.filter_cons_of_pos
abbrev Ew:=@List.filter_cons_of_neg
abbrev Ey:=@Array.getElem_modify
abbrev FG:=@List.getElem_take
abbrev FH:=@Array.getElem?_append_left
abbrev FI:=@List.flatMap_append
abbrev FL:=@List.mem_filter
abbrev FS:=@List.getElem?_eq_none
abbrev FZ:=@Nat.lt_of_lt_of_le
abbrev Fa:=@List.filter_append
abbrev Fe:=@Option.isSome_iff_exists
abbrev Ff:=@Nat.lt_irrefl
abbrev Fg:=@List.getElem?_take_of_lt
abbrev Fq:=@List.take_append_of_le_length
abbrev Fy:=@List.pairwise_singleton
abbrev GF:=@List.take_left'
abbrev GG:=@List.any_append
abbrev GQ:=@List.flatten_singleton
abbrev GU:=@Bool.false_or
abbrev GW:=@Option.bind_some
abbrev Gd:=@List.getElem?_take
abbrev Gf:=@List.getElem?_drop
abbrev Gg:=@Nat.le_of_ble_eq_true
abbrev Gu:=@List.set_eq_take_append_cons_drop
abbrev H3:=@List.pairwise_append
abbrev H4:=@List.length_range
abbrev H5:=@List.getElem_drop
abbrev H6:=@Array.size_modify
abbrev H7:=@Array.all_eq_true_iff_forall_mem
abbrev Hd:=@Array.getElem?_push
abbrev Hn:=@List.map_toArray
abbrev Ho:=@List.foldl_nil
abbrev Hp:=@Array.eq_empty_of_size_eq_zero
abbrev IH:=@Nat.mul_one
abbrev IR:=@List.findIdx_lt_length
abbrev Ih:=@Bool.eq_iff_iff
abbrev J3:=@Option.some.injEq
abbrev J4:=@List.take_length_add_append
abbrev J5:=@List.findIdx_cons
abbrev J6:=@List.all_eq_false
abbrev JQ:=@List.mem_of_mem_drop
abbrev Jn:=@Nat.add_comm
abbrev Jo:=@List.sum_nil
abbrev Jq:=@Bool.not_eq_true
abbrev Jz:=@Nat.mul_le_mul_left
abbrev Kp:=@List.getElem_of_eq
abbrev Kv:=@List.findIdx?_eq_some_iff_getElem
abbrev LX:=@List.drop_zero
abbrev LY:=@List.drop_drop
abbrev MQ:=@List.singleton_append
abbrev MR:=@List.cons_lt_cons_iff
abbrev MU:=@Classical.choose_spec
abbrev MW:=@Array.getElem_push_lt
abbrev MX:=@Array.getElem_push_eq
abbrev MY:=@Array.getElem?_toList
abbrev MZ:=@Array.getElem?_modify
abbrev NL:=@Option.getD_none
abbrev OQ:=@List.cons.injEq
abbrev Oz:=@List.take_succ_cons
abbrev P0:=@List.length_pos_iff
abbrev P1:=@List.getElem_set_ne
abbrev P6:=@Nat.mul_comm
abbrev P7:=@List.drop_length_add_append
abbrev P8:=@Int.add_zero
abbrev Q2:=@Nat.eq_zero_or_pos
abbrev Q3:=@List.lt_irrefl
abbrev Q4:=@Array.ext'
abbrev RB:=@Nat.lt_trichotomy
abbrev RE:=@Nat.le_succ
abbrev RF:=@List.pairwise_map
abbrev Sh:=@Option.bind_none
abbrev Si:=@List.take_prefix
abbrev Sj:=@List.mem_flatMap
abbrev Ue:=@Option.map_eq_none_iff
abbrev Uf:=@List.not_of_lt_findIdx
abbrev Ug:=@Int.lt_or_le
abbrev Uj:=@List.filter_nil
abbrev VE:=@List.getElem?_toArray
abbrev VF:=@Bool.and_eq_false_iff
abbrev Xy:=@Nat.zero_le
abbrev Xz:=@Nat.div_lt_of_lt_mul
abbrev Y0:=@List.replicate_succ'
abbrev Y1:=@List.getElem_reverse
abbrev Y2:=@List.getElem?_set_ne
abbrev Y3:=@List.findIdx_getElem
abbrev Y4:=@List.drop_left
abbrev Y5:=@Array.getElem_toList
abbrev aV:=@List.zipIdx_map_fst
abbrev aW:=@List.filter_eq_self
abbrev aX:=@List.drop_succ_cons
abbrev aa:=@List.map_take
abbrev ab:=@List.any_cons
abbrev ae:=@Bool.not_true
abbrev ct:=@Option.isSome_some
abbrev cu:=@Nat.mod_lt
abbrev cw:=@List.set_cons_zero
abbrev cy:=@List.mem_mergeSort
abbrev cz:=@List.append_of_mem
abbrev iK:=@Nat.sub_zero
abbrev iL:=@List.filter_congr
abbrev iM:=@List.ext_getElem?
abbrev ic:=@List.takeWhile_append_dropWhile
abbrev ie:=@Array.getElem?_setIfInBounds_ne
abbrev mY:=@Nat.le_add_right
abbrev mZ:=@List.getElem_set
abbrev ma:=@List.getElem_inj
abbrev mb:=@List.flatten_nil
abbrev mc:=@List.find?_eq_some_iff_getElem
abbrev nB:=@Nat.one_mul
abbrev qe:=@List.zipIdx_map
abbrev qf:=@List.range_zero
abbrev qg:=@List.findIdx_eq
abbrev qh:=@List.drop_left'
abbrev qi:=@Int.natCast_mul
abbrev qj:=@Bool.or_eq_true
abbrev sa:=@List.idxOf_lt_length_of_mem
abbrev vJ:=@Bool.false_and
abbrev wE:=@List.findIdx?_eq_none_iff
abbrev wG:=@List.extract_eq_take_drop
abbrev yO:=@Nat.mul_assoc
abbrev yP:=@Nat.add_lt_add_iff_right
abbrev yQ:=@List.all_cons
abbrev yR:=@Bool.or_false
abbrev yS:=@Array.setIfInBounds_comm
abbrev zM:=@Nat.add_sub_cancel_left
abbrev zN:=@List.pairwise_mergeSort
abbrev zO:=@List.not_all_eq_any_not
abbrev zP:=@Int.eq_ofNat_of_zero_le
end Go
namespace Go.Q
inductive CF where
 |ro
 |nil
 |own (b cap:Nat)
inductive PV where
 |raw (v:Value)
 |str (s:List UInt8)
 |slice (xs:List (List PV)) (t:CF)
 |pt (cs:List PV) (off:Nat)
 |agg (cs:List PV)
 |tuple (vs:List PV)
 |fmap (kvs:List (PV × PV))
 |clo (f:Nat) (cs:List PV)
 |ifc (t:Nat) (x:PV)
 |junk
inductive ib where
 |map (es:Array MapEntry) (clock:Nat)
 |mark
 |row (vs:List Value)
structure H0 (es:Array MapEntry) (clock:Nat):Prop where
 lt: ∀ x∈es.toList,x.born < clock
 nd:(es.toList.map (·.born)).Nodup
def ib.sat (w:World) (b:Nat):ib→Prop
 | .map es clock=>w.heap[b]? =some (.map es clock)∧H0 es clock
 | .mark=>w.heap[b]? =some (.deferred (some []))
 | .row vs=> ∃ T p,w.heap[b]? =some (.cells vs.toArray T p)
theorem ib.sat.congr {w w':World} {b:Nat} {z:ib} (h:z.sat w b) (e:w'.heap[b]? =w.heap[b]?):z.sat w' b:=by
 cases z with
 |map es c=>exact⟨e.trans h.1,h.2⟩
 |mark=>exact e.trans h
 |row vs=>obtain⟨T,p,h⟩:=h;exact⟨T,p,e.trans h⟩
theorem ib.sat.lt {w:World} {b:Nat} {z:ib} (h:z.sat w b):b < w.heap.size:=by
 cases z with
 |map es c=>exact(BF.1 h.1).1
 |mark=>exact(BF.1 h).1
 |row vs=>obtain⟨T,p,h⟩:=h;exact(BF.1 h).1
structure Gh where
 H:Nat→Nat→Option Value
 M:Nat→Option ib
structure Gh.le (g g':Gh):Prop where
 H: ∀ b o v,g.H b o=some v→g'.H b o=some v
 M: ∀ b o,g.M b=some o→g'.M b=some o
theorem Gh.le.refl (g:Gh):g.le g:=⟨fun _ _ _ h=>h,fun _ _ h=>h⟩
theorem Gh.le.trans {a b c:Gh} (h:a.le b) (k:b.le c):a.le c:=⟨fun _ _ _ x=>k.H _ _ _ (h.H _ _ _ x),fun _ _ x=>k.M _ _ (h.M _ _ x)⟩
def maxN:Nat:=2 ^ 47
inductive VR (g:Gh):Value→PV→Prop
 |raw (v:Value):VR g v (.raw v)
 |junk (v:Value):VR g v .junk
 |str {s:List UInt8} (h:s.length≤maxN):VR g (.string ⟨s.toArray⟩) (.str s)
 |agg {vs:Array Value} {cs:List PV} (hl:vs.size=cs.length) (h: ∀ i (h1:i < vs.size) (h2:i < cs.length),VR g vs[i] cs[i]):VR g (.agg vs) (.agg cs)
 |tuple {vs:Array Value} {cs:List PV} (hl:vs.size=cs.length) (h: ∀ i (h1:i < vs.size) (h2:i < cs.length),VR g vs[i] cs[i]):VR g (.tuple vs) (.tuple cs)
 |nilN (o:Option Addr) (ho: ∀ a,o=some a→a.spot=none):VR g (.slice o 0 0) (.slice [] .nil)
 |nilR {o:Option Addr}:VR g (.slice o 0 0) (.slice [] .ro)
 |slice {b off len cap:Nat} (sz:Nat) {xs:List (List PV)} {t:CF} (f:Nat→Value)
   (hl:xs.length=len) (hc:len≤cap) (hm:len≤maxN∧len*sz≤maxN) (hs: ∀ e∈xs,e.length=sz)
   (hH: ∀ i j,i < len→j < sz→g.H b (off+i*sz+j)=some (f (i*sz+j)))
   (hv: ∀ i (h1:i < xs.length) j (h2:j < xs[i].length),VR g (f (i*sz+j)) (xs[i][j]))
   (ht: ∀ b' cap',t= .own b' cap'→b'=b∧cap'=cap∧off=0) (hn:t≠ .nil):VR g (.slice (some ⟨b,off,none⟩) len cap) (.slice xs t)
 |pt {b o off:Nat} {cs:List PV} (f:Nat→Value) (hH: ∀ j,j < cs.length→g.H b (o+j)=some (f j)) (hv: ∀ j (h:j < cs.length),VR g (f j) cs[j]):
   VR g (.pointer (some ⟨b,o+off,none⟩)) (.pt cs off)
 |fmap {b:Nat} {es:Array MapEntry} {clock:Nat} {kvs:List (PV × PV)} (hM:g.M b=some (.map es clock)) (hl:es.size=kvs.length)
   (hk: ∀ i (h1:i < es.size) (h2:i < kvs.length),VR g es[i].key kvs[i].1) (hv: ∀ i (h1:i < es.size) (h2:i < kvs.length),VR g es[i].val kvs[i].2):VR g (.map (some b)) (.fmap kvs)
 |nilM:VR g (.map none) (.fmap [])
 |clo (f:Nat) {vs:Array Value} {cs:List PV} (hl:vs.size=cs.length) (h: ∀ i (h1:i < vs.size) (h2:i < cs.length),VR g vs[i] cs[i]):VR g (.func (.func f) #[] vs) (.clo f cs)
 |ifc (t:Nat) {v:Value} {x:PV} (h:VR g v x):VR g (.iface t v) (.ifc t x)
theorem VR.mono {g g':Gh} (hg:g.le g') {v:Value} {x:PV} (h:VR g v x):VR g' v x:=by
 induction h with
 |raw v=>exact .raw v
 |junk v=>exact .junk v
 |str h=>exact .str h
 |agg hl _ ih=>exact .agg hl ih
 |tuple hl _ ih=>exact .tuple hl ih
 |nilN o ho=>exact .nilN o ho
 |nilR=>exact .nilR
 |slice sz f hl hc hm hs hH _ ht hn ih=>exact .slice sz f hl hc hm hs (fun i j hi hj=>hg.H _ _ _ (hH i j hi hj)) ih ht hn
 |pt f hH _ ih=>exact .pt f (fun j hj=>hg.H _ _ _ (hH j hj)) ih
 |fmap hM hl _ _ ik iv=>exact .fmap (hg.M _ _ hM) hl ik iv
 |nilM=>exact .nilM
 |clo f hl _ ih=>exact .clo f hl ih
 |ifc t _ ih=>exact .ifc t ih
structure EB (g:Gh) (vs:List Value) (xs:List PV):Prop where
 len:vs.length=xs.length
 at_: ∀ i (h1:i < vs.length) (h2:i < xs.length),VR g vs[i] xs[i]
theorem EB.mono {g g':Gh} (hg:g.le g') {vs:List Value} {xs:List PV} (h:EB g vs xs):EB g' vs xs:=⟨h.len,fun i h1 h2=>(h.at_ i h1 h2).mono hg⟩
theorem EB.nil (g:Gh):EB g [] []:=⟨rfl,fun _ h=>absurd h (DK _)⟩
theorem EB.cons {g:Gh} {v:Value} {vs:List Value} {x:PV} {xs:List PV} (h:VR g v x) (hs:EB g vs xs):EB g (v::vs) (x::xs):=
 ⟨by simp[hs.len],fun i h1 h2=>by
  cases i with
  |zero=>exact h
  |succ i=>exact hs.at_ i (by simpa using h1) (by simpa using h2)⟩
theorem EB.uncons {g:Gh} {v:Value} {vs:List Value} {x:PV} {xs:List PV} (h:EB g (v::vs) (x::xs)):VR g v x∧EB g vs xs:=
 ⟨h.at_ 0 (by simp) (by simp),by have:=h.len;simpa using this,fun i h1 h2=>h.at_ (i+1) (by simpa using h1) (by simpa using h2)⟩
theorem EB.append {g:Gh} {vs us:List Value} {xs ys:List PV} (h:EB g vs xs) (k:EB g us ys):EB g (vs++us) (xs++ys):=
 ⟨by simp[h.len,k.len],fun i h1 h2=>by
  by_cases hi:i < vs.length
  ·have hx:i < xs.length:=by rw[←h.len];exact hi
   rw[BC hi,BC hx];exact h.at_ i hi hx
  ·have hx: ¬i < xs.length:=by rw[←h.len];exact hi
   rw[Bk (by omega),Bk (by omega)]
   have e:i - xs.length=i - vs.length:=by rw[h.len]
   simp only[e]
   exact k.at_ (i - vs.length) (by simp at h1;omega) (by simp at h2;have:=h.len;omega)⟩
theorem EB.take {g:Gh} {vs:List Value} {xs:List PV} (h:EB g vs xs) (n:Nat):EB g (vs.take n) (xs.take n):=
 ⟨by simp[h.len],fun i h1 h2=>by
  rw[FG,FG];exact h.at_ i (by simp at h1;omega) (by simp at h2;omega)⟩
theorem EB.drop {g:Gh} {vs:List Value} {xs:List PV} (h:EB g vs xs) (n:Nat):EB g (vs.drop n) (xs.drop n):=
 ⟨by simp[h.len],fun i h1 h2=>by
  rw[H5,H5];exact h.at_ (n+i) (by simp at h1;omega) (by simp at h2;omega)⟩
theorem EB.agg {g:Gh} {vs:List Value} {xs:List PV} (h:EB g vs xs):VR g (.agg vs.toArray) (.agg xs):=
 .agg (by simp[h.len]) (fun i h1 h2=>by have:=h.at_ i (by simpa using h1) h2;simpa using this)
theorem VR.agg_inv {g:Gh} {v:Value} {xs:List PV} (h:VR g v (.agg xs)): ∃ vs:List Value,v= .agg vs.toArray∧EB g vs xs:=by
 cases h with
 |agg hl h=>rename_i vs;exact⟨vs.toList,by simp,by simpa using hl,fun i h1 h2=>by have:=h i (by simpa using h1) h2;simpa using this⟩
theorem VR.tuple_inv {g:Gh} {v:Value} {xs:List PV} (h:VR g v (.tuple xs)): ∃ vs:List Value,v= .tuple vs.toArray∧EB g vs xs:=by
 cases h with
 |tuple hl h=>rename_i vs;exact⟨vs.toList,by simp,by simpa using hl,fun i h1 h2=>by have:=h i (by simpa using h1) h2;simpa using this⟩
theorem EB.tuple {g:Gh} {vs:List Value} {xs:List PV} (h:EB g vs xs):VR g (.tuple vs.toArray) (.tuple xs):=
 .tuple (by simp[h.len]) (fun i h1 h2=>by have:=h.at_ i (by simpa using h1) h2;simpa using this)
theorem EB.clo {g:Gh} {vs:List Value} {xs:List PV} (f:Nat) (h:EB g vs xs):VR g (.func (.func f) #[] vs.toArray) (.clo f xs):=
 .clo f (by simp[h.len]) (fun i h1 h2=>by have:=h.at_ i (by simpa using h1) h2;simpa using this)
theorem VR.clo_inv {g:Gh} {v:Value} {f:Nat} {xs:List PV} (h:VR g v (.clo f xs)): ∃ vs:List Value,v= .func (.func f) #[] vs.toArray∧EB g vs xs:=by
 cases h with
 |clo _ hl h=>rename_i vs;exact⟨vs.toList,by simp,by simpa using hl,fun i h1 h2=>by have:=h i (by simpa using h1) h2;simpa using this⟩
theorem VR.raw_inv {g:Gh} {v u:Value} (h:VR g v (.raw u)):v=u:=by cases h;rfl
theorem EB.raws (g:Gh) (vs:List Value):EB g vs (vs.map .raw):=⟨by simp,fun i h1 h2=>by simp;exact .raw _⟩
theorem EB.raws_inv {g:Gh} {vs us:List Value} (h:EB g vs (us.map .raw)):vs=us:=by
 refine EA (by simpa using h.len) fun i h1 h2=>?_
 have:=h.at_ i h1 (by simpa using h2)
 simp at this;exact this.raw_inv
inductive Res where
 |box (b:Nat) (T:TypeId) (cs:List PV)
 |tok (t:CF) (n sz:Nat)
 |map (b:Nat) (kvs:List (PV × PV))
 |raw (b:Nat) (o:Obj)
 |know (vs:List Value) (xs:List PV)
 |iter (b:Nat) (kvs:List (PV × PV)) (done:List Nat)
def Res.block:Res→Option Nat
 | .box b _ _=>some b
 | .tok (.own b _) _ _=>some b
 | .tok _ _ _=>none
 | .map b _=>some b
 | .raw b _=>some b
 | .know _ _=>none
 | .iter b _ _=>some b
structure Entries (g:Gh) (es:Array MapEntry) (kvs:List (PV × PV)):Prop where
 len:es.size=kvs.length
 key: ∀ i (h1:i < es.size) (h2:i < kvs.length),VR g es[i].key kvs[i].1
 val: ∀ i (h1:i < es.size) (h2:i < kvs.length),VR g es[i].val kvs[i].2
def Ub (g:Gh) (m:Option Nat) (es:Array MapEntry) (c:Nat):Prop:=(m=none∧es= #[]∧c=0)∨ ∃ b,m=some b∧g.M b=some (.map es c)
theorem Ub.mono {g g':Gh} (hg:g.le g') {m:Option Nat} {es:Array MapEntry} {c:Nat} (h:Ub g m es c):Ub g' m es c:=by
 rcases h with h|⟨b,h1,h2⟩
 ·exact .inl h
 ·exact .inr ⟨b,h1,hg.M _ _ h2⟩
def Res.holds (w:World) (g:Gh):Res→Prop
 | .box b T cs=> ∃ vs:List Value,w.heap[b]? =some (.cells vs.toArray T (0,0))∧EB g vs cs∧(∀ o,g.H b o=none)∧g.M b=none
 | .tok (.own b cap) n sz=> ∃ (vs:Array Value) (T:TypeId) (fr:Nat × Nat),w.heap[b]? =some (.cells vs T fr)∧vs.size=cap*sz∧n≤cap∧(∀ o,n*sz≤o→g.H b o=none)∧g.M b=none∧(fr.2≤fr.1∨vs.size≤fr.1)
 | .tok .nil n _=>n=0
 | .tok .ro _ _=>False
 | .map b kvs=> ∃ es clock,w.heap[b]? =some (.map es clock)∧Entries g es kvs∧(∀ o,g.H b o=none)∧g.M b=none∧H0 es clock
 | .raw b o=>w.heap[b]? =some o∧(∀ o,g.H b o=none)∧g.M b=none
 | .know vs xs=>EB g vs xs
 | .iter b kvs done=> ∃ m es c,w.heap[b]? =some (.mapIter m c (done.map fun i=>(es.toList.map (·.born)).getD i 0).toArray c)∧Ub g m es c∧Entries g es kvs∧(∀ o,g.H b o=none)∧g.M b=none∧H0 es c∧(∀ i∈done,i < es.size)
def Al (L:List Res):List Nat:=L.filterMap Res.block
def globAt:Nat:=1
def pow10Tab:List Value:=(List.range 20).map fun i=>Value.int .u64 (10 ^ i)
structure qZ (g:Gh):Prop where
 tab:g.M globAt=some (.row pow10Tab)
theorem qZ.mono {g g':Gh} (hle:g.le g') (h:qZ g):qZ g':=⟨hle.M _ _ h.tab⟩
structure Dt (w:World) (g:Gh) (L:List Res):Prop where
 sat: ∀ b o v,g.H b o=some v→w.cell? ⟨b,o,none⟩=some v
 satM: ∀ b z,g.M b=some z→z.sat w b
 res: ∀ r∈L,r.holds w g
 nodup:(Al L).Nodup
 glob:qZ g
structure Ec (B:List Nat) (w:World) (g:Gh) (w':World) (g':Gh):Prop where
 os:w'.os=w.os
 tape:w'.tape=w.tape
 output:w'.output=w.output∧w.drawn≤w'.drawn
 size:w.heap.size≤w'.heap.size
 keep: ∀ k,k < w.heap.size→k∉B→w'.heap[k]? =w.heap[k]?
 le:g.le g'
 new: ∀ k,k < w.heap.size→k∉B→(∀ o,g'.H k o=g.H k o)∧g'.M k=g.M k
theorem Ec.refl (B:List Nat) (w:World) (g:Gh):Ec B w g w g:=
 ⟨rfl,rfl,⟨rfl,Ah _⟩,Ah _,fun _ _ _=>rfl,.refl g,fun _ _ _=>⟨fun _=>rfl,rfl⟩⟩
def Db (w:World) (L L':List Res):Prop:= ∀ b∈Al L',b < w.heap.size→b∈Al L
theorem Db.refl (w:World) (L:List Res):Db w L L:=fun _ h _=>h
theorem Ec.trans {L L₁:List Res} {w w₁ w₂:World} {g g₁ g₂:Gh} (h:Ec (Al L) w g w₁ g₁) (hL:Db w L L₁) (k:Ec (Al L₁) w₁ g₁ w₂ g₂):Ec (Al L) w g w₂ g₂:=
 ⟨k.os.trans h.os,k.tape.trans h.tape,⟨k.output.1.trans h.output.1,CZ h.output.2 k.output.2⟩,CZ h.size k.size,
  fun b hb hn=>by
   have hn':b∉Al L₁:=fun hm=>hn (hL b hm hb)
   rw[k.keep b (FZ hb h.size) hn',h.keep b hb hn],
  h.le.trans k.le,
  fun b hb hn=>by
   have hn':b∉Al L₁:=fun hm=>hn (hL b hm hb)
   obtain⟨a1,a2⟩:=k.new b (FZ hb h.size) hn'
   obtain⟨b1,b2⟩:=h.new b hb hn
   exact⟨fun o=>by rw[a1,b1],by rw[a2,b2]⟩⟩
theorem Db.trans {L L₁ L₂:List Res} {w w₁:World} (h:Db w L L₁) (hs:w.heap.size≤w₁.heap.size) (k:Db w₁ L₁ L₂):Db w L L₂:=
 fun b hb hl=>h b (k b hb (FZ hl hs)) hl
abbrev Env:=Nat→PV
@[reducible] def CV (ρ:Env) (d:Nat) (x:PV):Env:=fun i=>bif Nat.beq i d then x else ρ i
@[reducible] def updo (ρ:Env):Option Nat→PV→Env
 |some d,x=>CV ρ d x
 |none,_=>ρ
theorem Cz (ρ:Env) (d:Nat) (x:PV):CV ρ d x d=x:=by simp[CV]
theorem Gv (ρ:Env) {d i:Nat} (x:PV) (h:i≠d):CV ρ d x i=ρ i:=by
 have:Nat.beq i d=false:=by cases hb:Nat.beq i d;rfl;exact absurd (A0R hb) h
 simp[CV,this]
def XJ (D:Nat):Deferred:={ target:= .collected D,args:= #[] }
structure WU (base:Nat) (g:Gh) (ds:List Deferred):Prop where
 out: ∃ Ds:List Nat,ds=Ds.map XJ∧Ds.Nodup∧ ∀ D∈Ds,base≤D∧g.M D=some .mark
theorem WU.nil (base:Nat) (g:Gh):WU base g []:=⟨[],rfl,.nil,by simp⟩
theorem WU.mono {base:Nat} {g g':Gh} (hg:g.le g') {ds:List Deferred} (h:WU base g ds):WU base g' ds:=by
 obtain⟨Ds,h1,h2,h3⟩:=h.out
 exact⟨Ds,h1,h2,fun D hD=>⟨(h3 D hD).1,hg.M _ _ (h3 D hD).2⟩⟩
structure VC (base:Nat) (g:Gh) (N:Nat) (a:Act) (ρ:Env):Prop where
 size:a.tmps.size=N
 defers:WU base g a.defers
 slot: ∀ i,VR g (a.tmps.getD i undef) (ρ i)
theorem VC.mono {base:Nat} {g g':Gh} (hg:g.le g') {N:Nat} {a:Act} {ρ:Env} (h:VC base g N a ρ):VC base g' N a ρ:=⟨h.size,h.defers.mono hg,fun i=>(h.slot i).mono hg⟩
theorem Act.getD_put_self {a:Act} {d:Nat} {v:Value} (h:d < a.tmps.size):(a.put (some d) v).tmps.getD d undef=v:=by
 simp[Act.put,h]
theorem Act.getD_put_ne {a:Act} {d i:Nat} {v:Value} (h:i≠d):(a.put (some d) v).tmps.getD i undef=a.tmps.getD i undef:=by
 simp[Act.put,ie (Ne.symm h)]
theorem VC.put {base:Nat} {g:Gh} {N:Nat} {a:Act} {ρ:Env} (h:VC base g N a ρ) {dst:Option Nat} (hd: ∀ d,dst=some d→d < N) {v:Value} {x:PV} (hv:VR g v x):VC base g N (a.put dst v) (updo ρ dst x):=by
 cases dst with
 |none=>exact⟨h.size,h.defers,h.slot⟩
 |some d=>
  refine⟨by simp[Act.put,h.size],h.defers,fun i=>?_⟩
  by_cases hi:i=d
  ·subst hi
   rw[Act.getD_put_self (by rw[h.size];exact hd _ rfl)]
   show VR g v (CV ρ i x i)
   rw[Cz];exact hv
  ·rw[Act.getD_put_ne hi]
   show VR g _ (CV ρ d x i)
   rw[Gv _ _ hi];exact h.slot i
def Env.ev (ρ:Env):Operand→PV
 | .tmp t=>ρ t
 | .const v=> .raw v
 | .global g=> .raw (.pointer (some ⟨g,0,none⟩))
 | .func f=> .raw (.func (.func f) #[] #[])
def ch (g:Gh) (a:Act) (ρ:Env) (o:Oper):Prop:= ∀ x∈o.op.operands,VR g (a.eval x) (ρ.ev x)
theorem VC.args {base:Nat} {g:Gh} {N:Nat} {a:Act} {ρ:Env} (h:VC base g N a ρ) (o:Oper):ch g a ρ o:=fun x _=>by
 cases x with
 |tmp t=>exact h.slot t
 |const v=>exact .raw v
 |global k=>exact .raw _
 |func f=>exact .raw _
def aZ (ro:Option Nat):Fence:={ Fence.wide with round:=ro }
def sg (P:Program) (o:Oper) (a:Act) (next:Act→World→Prop):Result Next→Prop
 | .ok (.value v) w'=>next (a.put o.dst v) w'
 | .ok .skip w'=>next (a.put o.dst undef) w'
 | .ok (.enter f args) w'=>Calls P f args w' fun
   | .returned v,w''=>next (a.put o.dst v) w''
   |_,_=>False
 | .ok (.row row args) w'=>RowsIn Fence.wide 0 P row args w' fun v w''=>next (a.put o.dst v) w''
 | .ok (.round l f tmps assign body) w'=>RoundIn Fence.wide 0 P l f tmps assign body w' fun
   | .returned v,w''=>next (a.put o.dst v) w''
   |_,_=>False
 |_=>False
def Oper.wq (P:Program) (o:Oper) (a:Act) (w:World) (next:Act→World→Prop):Prop:=
 (∀ c,o.op≠ .defer c)∧sg P o a next ((execOp a.eval o).run P w)
theorem sg.mono {P:Program} {o:Oper} {a:Act} {K K':Act→World→Prop} (h: ∀ a w,K a w→K' a w) {r:Result Next} (hh:sg P o a K r):sg P o a K' r:=by
 cases r with
 |ok n w'=>
  cases n<;>simp only[sg]at hh ⊢ <;>
   first
    |exact h _ _ hh
    |exact Calls.mono hh (fun e w'' he=>by cases e<;>first|exact h _ _ he|exact he)
    |exact RowsIn.mono hh (fun _ _ he=>h _ _ he)
    |exact RoundIn.mono hh (fun e w'' he=>by cases e<;>first|exact h _ _ he|exact he)
 |halt x w'=>exact hh
theorem Oper.wq.mono {P:Program} {o:Oper} {a:Act} {w:World} {K K':Act→World→Prop} (hh:Oper.wq P o a w K) (h: ∀ a w,K a w→K' a w):Oper.wq P o a w K':=⟨hh.1,hh.2.mono h⟩
theorem Oper.wq.wpIn {P:Program} {o:Oper} {a:Act} {w:World} {K:Act→World→Prop} {Q:Exit→Act→World→Prop} (ro:Option Nat) (hh:Oper.wq P o a w K):o.wpIn (aZ ro) 0 P a w K Q:=by
 refine⟨fun f _=>trivial,?_⟩
 rw[Oper.semAt_eq _ _ _ hh.1]
 have h:=hh.2
 generalize (execOp a.eval o).run P w=r at h ⊢
 have hd:(aZ ro).depth.isSome=true→1≤0:=fun h=>by simp[aZ,Fence.wide]at h
 cases r with
 |ok n w'=>
  cases n<;>simp only[sg]at h<;>simp only[Oper.uponIn]
  all_goals first
   |exact h
   |exact h.elim
   |exact⟨hd,(CallsIn.mono (F:=Fence.wide) (n:=0) (callsIn_wide.2 h) (fun e w'' he=>by cases e<;>first|exact he|exact he.elim):CallsIn Fence.wide 0 _ _ _ _ _)⟩
   |exact⟨hd,h⟩
   |exact⟨hd,RoundIn.mono (F:=Fence.wide) (n:=0) h (fun e w'' he=>by cases e<;>first|exact he|exact he.elim)⟩
 |halt x w'=>exact h.elim
theorem fp {P:Program} {o:Oper} {ev:Operand→Value} {w w':World} {n:Next} (hr:(execOp ev o).run P w= .ok n w') (hn: ∀ d,n≠ .defer d): ∀ c,o.op≠ .defer c:=by
 intro c hc
 unfold execOp at hr
 simp only[hc,Sem.run_bind]at hr
 cases hq:(resolve ev c o.type).run P w with
 |ok d w1=>
  rw[hq]at hr
  simp only[Result.andThen,Sem.run_pure]at hr
  injection hr with h1 h2
  exact hn d h1.symm
 |halt x w1=>rw[hq]at hr;cases hr
theorem Oper.wq_of_run {P:Program} {o:Oper} {a:Act} {w w':World} {K:Act→World→Prop} {n:Next} (hr:(execOp a.eval o).run P w= .ok n w') (h:sg P o a K (.ok n w')) (hn: ∀ d,n≠ .defer d:=by intro _ h;cases h):Oper.wq P o a w K:=
 ⟨fp hr hn,by rw[hr];exact h⟩
def Fc (P:Program) (o:Oper) (ρ:Env) (L:List Res) (Ψ:PV→List Res→Prop):Prop:=
 ∀ (a:Act) (w:World) (g:Gh),ch g a ρ o→Dt w g L→
   Oper.wq P o a w (fun a' w'=> ∃ v x g' L',a'=a.put o.dst v∧VR g' v x∧Dt w' g' L'∧Ec (Al L) w g w' g'∧Db w L L'∧Ψ x L')
theorem Fc.mono {P:Program} {o:Oper} {ρ:Env} {L:List Res} {Ψ Ψ':PV→List Res→Prop} (h:Fc P o ρ L Ψ) (hp: ∀ x L',Ψ x L'→Ψ' x L'):Fc P o ρ L Ψ':=
 fun a w g ha hi=>(h a w g ha hi).mono fun _ _ ⟨v,x,g',L',h1,h2,h3,h4,h5,h6⟩=>⟨v,x,g',L',h1,h2,h3,h4,h5,hp _ _ h6⟩
def iE (P:Program) (o:Oper) (ρ:Env) (L:List Res) (x:PV):Prop:=Fc P o ρ L (fun x' L'=>x'=x∧L'=L)
theorem B7 {P:Program} {o:Oper} {ρ:Env} {L:List Res} {x:PV}
  (h: ∀ (a:Act) (w:World) (g:Gh),ch g a ρ o→Dt w g L→ ∃ v,(execOp a.eval o).run P w= .ok (.value v) w∧VR g v x):iE P o ρ L x:=by
 intro a w g ha hi
 obtain⟨v,hr,hv⟩:=h a w g ha hi
 exact Oper.wq_of_run hr ⟨v,x,g,L,rfl,hv,hi,.refl _ _ _,.refl _ _,rfl,rfl⟩
end Go.Q
namespace Go.Q
open Go
abbrev PPost:=Exit→Env→List Res→Prop
def SD (base N:Nat) (w:World) (g:Gh) (L:List Res) (Q:PPost):Exit→Act→World→Prop:=
 fun e a' w'=> ∃ ρ' g' L',VC base g' N a' ρ'∧Dt w' g' L'∧Ec (Al L) w g w' g'∧Db w L L'∧Q e ρ' L'
structure St (ro:Option Nat) (base N:Nat) (a:Act) (w:World) (g:Gh) (ρ:Env) (L:List Res):Prop where
 ro: ∀ l,ro=some l→l∉Al L∧ ∃ r,w.heap[l]? =some (.loop r)
 low:base≤w.heap.size
 agr:VC base g N a ρ
 inv:Dt w g L
theorem St.step {ro:Option Nat} {base N:Nat} {a a':Act} {w w':World} {g g':Gh} {ρ ρ':Env} {L L':List Res} (h:St ro base N a w g ρ L) (ha:VC base g' N a' ρ') (hi:Dt w' g' L') (hs:Ec (Al L) w g w' g') (hw:Db w L L'):St ro base N a' w' g' ρ' L':=
 ⟨fun l e=>by
  obtain⟨h1,r,h2⟩:=h.ro l e
  have hlt:=(BF.1 h2).1
  exact⟨fun hm=>h1 (hw l hm hlt),r,by rw[hs.keep l hlt h1];exact h2⟩,CZ h.low hs.size,ha,hi⟩
def ER (P:Program) (N:Nat) (c:Code) (Q:PPost) (ρ:Env) (L:List Res):Prop:=
 ∀ (ro:Option Nat) (base:Nat) (a:Act) (w:World) (g:Gh),St ro base N a w g ρ L→c.wpIn (aZ ro) 0 P (SD base N w g L Q) a w
section
variable {P:Program} {N:Nat} {Q:PPost} {ρ:Env} {L:List Res}
theorem SD.later {base:Nat} {w w₁:World} {g g₁:Gh} {L₁:List Res} (hs:Ec (Al L) w g w₁ g₁) (hw:Db w L L₁) {Q':PPost} {e:Exit} (hq: ∀ ρ' L',Q' e ρ' L'→Q e ρ' L') {a':Act} {w':World} (h:SD base N w₁ g₁ L₁ Q' e a' w'):SD base N w g L Q e a' w':=by
 obtain⟨ρ',g',L',h1,h2,h3,h4,h5⟩:=h
 exact⟨ρ',g',L',h1,h2,hs.trans hw h3,hw.trans hs.size h4,hq _ _ h5⟩
theorem Th {c:Code} {Q':PPost} (h:ER P N c Q ρ L) (hq: ∀ e ρ L,Q e ρ L→Q' e ρ L):ER P N c Q' ρ L:=
 fun ro base a w g hs=>wpIn_mono (h ro base a w g hs) fun _ _ _ ⟨ρ',g',L',h1,h2,h3,h4,h5⟩=>⟨ρ',g',L',h1,h2,h3,h4,hq _ _ _ h5⟩
theorem HA (h:Q .normal ρ L):ER P N .skip Q ρ L:=fun _ _ _ _ g hs=>wpIn_skip ⟨ρ,g,L,hs.agr,hs.inv,.refl _ _ _,.refl _ _,h⟩
theorem KE (h:Q .ret ρ L):ER P N .ret Q ρ L:=fun _ _ _ _ g hs=>wpIn_ret ⟨ρ,g,L,hs.agr,hs.inv,.refl _ _ _,.refl _ _,h⟩
theorem Gj {id:Nat} (h:Q (.exit id) ρ L):ER P N (.exit id) Q ρ L:=fun _ _ _ _ g hs=>wpIn_exit ⟨ρ,g,L,hs.agr,hs.inv,.refl _ _ _,.refl _ _,h⟩
@[reducible] def WM (K:Env→List Res→Prop) (Q:PPost):PPost
 | .normal,ρ,L=>K ρ L
 |e,ρ,L=>Q e ρ L
theorem DX {x y:Code} (h:ER P N x (WM (ER P N y Q) Q) ρ L):ER P N (.seq x y) Q ρ L:=fun ro base a w g hs=>
 wpIn_seq (wpIn_mono (h ro base a w g hs) fun e a' w' hl=>by
  cases e with
  |normal=>
   obtain⟨ρ',g',L',h1,h2,h3,h4,h5⟩:=hl
   exact wpIn_mono (h5 ro base a' w' g' (hs.step h1 h2 h3 h4)) fun e a'' w'' k=>SD.later h3 h4 (fun _ _ x=>x) k
  |_=>exact hl)
theorem Ka {s:Nat} {x y:Code} {t:Bool} (hc:ρ s= .raw (.bool t)) (h1:t=true→ER P N x Q ρ L) (h2:t=false→ER P N y Q ρ L):ER P N (.cond (.tmp s) x y) Q ρ L:=fun ro base a w g hs=>by
 have he:a.eval (.tmp s)= .bool t:=by
  have:=hs.agr.slot s
  rw[hc]at this
  exact this.raw_inv
 cases t with
 |true=>exact wpIn_cond_true he (h1 rfl ro base a w g hs)
 |false=>exact wpIn_cond_false he (h2 rfl ro base a w g hs)
theorem A6 {s:Nat} {x y:Code} {p:Prop} [Decidable p] (h1:p→ER P N x Q ρ L) (h2: ¬p→ER P N y Q ρ L) (hc:ρ s= .raw (.bool (decide p)):=by first|rfl|assumption):ER P N (.cond (.tmp s) x y) Q ρ L:=
 Ka hc (fun h=>h1 (BB h)) (fun h=>h2 (Bp h))
theorem AY {s:Nat} {x y:Code} {p:Prop} [Decidable p] (h1: ¬p→ER P N x Q ρ L) (h2:p→ER P N y Q ρ L) (hc:ρ s= .raw (.bool (!decide p)):=by first|rfl|assumption):ER P N (.cond (.tmp s) x y) Q ρ L:=
 Ka hc (fun h=>h1 (Bp (by simpa using h))) (fun h=>h2 (BB (by simpa using h)))
theorem AW {s:Nat} {x y:Code} {t:Bool} (h1:t=true→ER P N x Q ρ L) (h2:t=false→ER P N y Q ρ L) (hc:ρ s= .raw (.bool t):=by first|rfl|assumption):ER P N (.cond (.tmp s) x y) Q ρ L:=Ka hc h1 h2
@[reducible] def mO (id:Nat) (Q:PPost):PPost
 | .exit id',ρ,L=>bif Nat.beq id' id then Q .normal ρ L else Q (.exit id') ρ L
 |e,ρ,L=>Q e ρ L
theorem Ia {id:Nat} {c:Code} (h:ER P N c (mO id Q) ρ L):ER P N (.block id c) Q ρ L:=fun ro base a w g hs=>
 wpIn_block (wpIn_mono (h ro base a w g hs) fun e a' w' hl=>by
  obtain⟨ρ',g',L',h1,h2,h3,h4,h5⟩:=hl
  cases e with
  |exit id'=>
   simp only[mO]at h5
   simp only[Exit.inBlock]
   split
   ·rename_i hid
    subst hid
    rw[show Nat.beq id' id'=true from Nat.beq_refl id']at h5
    exact⟨ρ',g',L',h1,h2,h3,h4,h5⟩
   ·rename_i hid
    rw[show Nat.beq id' id=false from by cases hb:Nat.beq id' id;rfl;exact absurd (A0R hb) hid]at h5
    exact⟨ρ',g',L',h1,h2,h3,h4,h5⟩
  |_=>exact⟨ρ',g',L',h1,h2,h3,h4,h5⟩)
@[reducible] def uz (J:Nat→Env→List Res→Prop) (n:Nat) (Q:PPost):PPost
 | .normal,ρ,L=> ∃ m,m < n∧J m ρ L
 |e,ρ,L=>Q e ρ L
theorem ZL {p:Nat→Prop} (h: ∃ n,p n): ∃ n,p n∧ ∀ m,p m→n≤m:=by
 obtain⟨n,hn⟩:=h
 induction n using Nat.strongRecOn with
 |_ n ih=>
  by_cases hx: ∃ m,m < n∧p m
  ·obtain⟨m,hm,pm⟩:=hx;exact ih m hm pm
  ·exact⟨n,hn,fun m pm=>by
    rcases B9 m n with h|h
    ·exact absurd ⟨m,h,pm⟩ hx
    ·exact h⟩
theorem kD {c:Code} (J:Nat→Env→List Res→Prop) {n:Nat} (h0:J n ρ L)
  (round: ∀ n ρ L,J n ρ L→ER P N c (uz J n Q) ρ L):ER P N (.loop c) Q ρ L:=fun ro base a w g hst=>by
 let K:Nat→Act→World→Prop:=fun n a' w'=> ∃ ρ' g' L',VC base g' N a' ρ'∧Dt w' g' L'∧Ec (Al L) w g w' g'∧Db w L L'∧J n ρ' L'
 let μ:Act→World→Nat:=fun a' w'=>by
  classical exact if h: ∃ n,K n a' w' then Classical.choose (ZL h)else 0
 refine wpIn_loop (fun a' w'=> ∃ n,K n a' w') μ ⟨n,ρ,g,L,hst.agr,hst.inv,.refl _ _ _,.refl _ _,h0⟩ ?_
 intro a' w' hI
 have hμ:μ a' w'=Classical.choose (ZL hI):=by simp only[μ,dif_pos hI]
 obtain⟨hk,hmin⟩:=MU (ZL hI)
 obtain⟨ρ',g',L',h1,h2,h3,h4,h5⟩:=hk
 refine wpIn_mono (round _ ρ' L' h5 ro base a' w' g' (hst.step h1 h2 h3 h4)) fun e a'' w'' hl=>?_
 cases e with
 |normal=>
  obtain⟨ρ₂,g₂,L₂,k1,k2,k3,k4,m,hm,k5⟩:=hl
  have hK:K m a'' w'':=⟨ρ₂,g₂,L₂,k1,k2,h3.trans h4 k3,h4.trans h3.size k4,k5⟩
  refine⟨⟨m,hK⟩,?_⟩
  have hI2: ∃ n,K n a'' w'':=⟨m,hK⟩
  have hμ2:μ a'' w''=Classical.choose (ZL hI2):=by simp only[μ,dif_pos hI2]
  rw[hμ,hμ2]
  exact Nat.lt_of_le_of_lt ((MU (ZL hI2)).2 m hK) hm
 |_=>exact SD.later h3 h4 (fun _ _ x=>x) hl
def R9 (all:Array Oper) (o:Oper) (ρ:Env):Prop:=
 match o.guard with
 |none=>True
 |some (j,b)=> ∃ s,(all[j]?).bind (·.dst)=some s∧ρ s= .raw (.bool b)
def mU (all:Array Oper) (o:Oper) (ρ:Env):Prop:=
 match o.guard with
 |none=>False
 |some (j,b)=> ∃ s v,(all[j]?).bind (·.dst)=some s∧ρ s= .raw v∧v≠ .bool b
def AV (P:Program) (N:Nat) (all:Array Oper) (K:Env→List Res→Prop):List Bool→List Oper→Env→List Res→Prop
 |_,[],ρ,L=>K ρ L
 |fl,o::os,ρ,L=>
  (∀ d,o.dst=some d→d < N)∧
  ((mU all o ρ∧AV P N all K fl.tail os (updo ρ o.dst (.raw undef)) L)∨
   (R9 all o ρ∧
    ((∃ x,iE P o ρ L x∧AV P N all K fl.tail os (updo ρ o.dst x) L)∨
     (fl.headD true=true∧Fc P o ρ L (fun x L'=>AV P N all K fl.tail os (updo ρ o.dst x) L')))))
theorem PA {all:Array Oper} {o:Oper} {base:Nat} {a:Act} {g:Gh} (h:R9 all o ρ) (ha:VC base g N a ρ) (hN: ∀ j b s,o.guard=some (j,b)→(all[j]?).bind (·.dst)=some s→s < N):Region.wanted o (yielded all a.tmps)=true:=by
 unfold R9 at h
 unfold Region.wanted
 cases hg:o.guard with
 |none=>rfl
 |some p=>
  obtain⟨j,b⟩:=p
  simp only[hg]at h
  obtain⟨s,hs,hr⟩:=h
  have hv:=ha.slot s
  rw[hr]at hv
  have hv:=hv.raw_inv
  have hlt:s < a.tmps.size:=by rw[ha.size];exact hN j b s hg hs
  simp[yielded,hs,hlt]at hv ⊢
  simp[hv]
theorem Q9 {all:Array Oper} {o:Oper} {base:Nat} {a:Act} {g:Gh} (h:mU all o ρ) (ha:VC base g N a ρ):Region.wanted o (yielded all a.tmps)=false:=by
 unfold mU at h
 unfold Region.wanted
 cases hg:o.guard with
 |none=>simp only[hg]at h
 |some p=>
  obtain⟨j,b⟩:=p
  simp only[hg]at h
  obtain⟨s,v,hs,hr,hne⟩:=h
  have hv:=ha.slot s
  rw[hr]at hv
  have hv:=hv.raw_inv
  simp only[yielded,hs,GW]
  rcases B9 s a.tmps.size with hlt|hge
  ·have e:a.tmps[s]? =some v:=by simp[hlt]at hv ⊢;exact hv
   rw[e]
   cases v<;>simp_all
  ·rw[Bo hge];rfl
def MH (all:Array Oper) (N:Nat):Bool:=all.all fun o=>match o.guard with
 |none=>true
 |some (j,_)=>match (all[j]?).bind (·.dst)with|some s=>decide (s < N)|none=>true
theorem PN {all:Array Oper} (h:MH all N=true) {o:Oper} (ho:o∈all): ∀ j b s,o.guard=some (j,b)→(all[j]?).bind (·.dst)=some s→s < N:=by
 intro j b s hg hs
 have:=(H7.1 h) o ho
 simp only[hg,hs,AB]at this
 exact this
theorem Sw {ro:Option Nat} {base:Nat} {all:Array Oper} {K:Env→List Res→Prop} {w₀:World} {g₀:Gh} {L₀:List Res} (hK: ∀ ρ L,K ρ L→Q .normal ρ L) (hG:MH all N=true):
  ∀ (l:List Oper) (fl:List Bool) (ρ:Env) (L:List Res) (a:Act) (w:World) (g:Gh),(∀ o∈l,o∈all)→VC base g N a ρ→Dt w g L→Ec (Al L₀) w₀ g₀ w g→Db w₀ L₀ L→
    AV P N all K fl l ρ L→ ∀ k,(∀ j,l[j]? =all[k+j]?)→wpOpsIn (aZ ro) 0 P all (SD base N w₀ g₀ L₀ Q) (List.range' k l.length) a w:=by
 intro l
 induction l with
 |nil=>
  intro fl ρ L a w g _ ha hi hs hw h k _
  exact⟨ρ,g,L,ha,hi,hs,hw,hK _ _ h⟩
 |cons o l ih=>
  intro fl ρ L a w g hall ha hi hs hw h k hk
  obtain⟨hd,h⟩:=h
  have h0:all[k]? =some o:=by simpa using (hk 0).symm
  have hl: ∀ j,l[j]? =all[k+1+j]?:=fun j=>by have:=hk (j+1);simpa [E7,Jn 1 j]using this
  have hmem: ∀ o'∈l,o'∈all:=fun o' ho'=>hall o' (AH _ ho')
  rw[AN,List.range'_succ]
  simp only[wpOpsIn,h0]
  rcases h with ⟨hno,h⟩|⟨hyes,h⟩
  ·rw[if_neg (by rw[Q9 hno ha];simp)]
   exact⟨fun _ _=>trivial,ih fl.tail _ L _ w g hmem (ha.put hd (.raw undef)) hi hs hw h (k+1) hl⟩
  ·rw[if_pos (PA hyes ha (PN hG (hall o (AG))))]
   have hop:Fc P o ρ L (fun x L'=>AV P N all K fl.tail l (updo ρ o.dst x) L'):=by
    rcases h with ⟨x,hq,h⟩|⟨_,h⟩
    ·exact hq.mono fun x' L' ⟨e1,e2⟩=>by subst e1;subst e2;exact h
    ·exact h
   refine Oper.wq.wpIn ro ((hop a w g (ha.args o) hi).mono ?_)
   rintro a' w' ⟨v,x,g',L',rfl,hv,hi',hs',hw',hp⟩
   exact ih fl.tail _ L' _ w' g' hmem ((ha.mono hs'.le).put hd hv) hi' (hs.trans hw hs') (hw.trans hs.size hw') hp (k+1) hl
theorem CQ {id:Nat} {l:List Oper} (hG:MH l.toArray N=true) (h:AV P N l.toArray (Q .normal) [] l ρ L):ER P N (.region id l.toArray false) Q ρ L:=fun ro base a w g hst=>
 wpIn_region (by
  have:=Sw (ro:=ro) (base:=base) (Q:=Q) (w₀:=w) (g₀:=g) (L₀:=L) (fun _ _ h=>h) hG l [] ρ L a w g (by simp) hst.agr hst.inv (.refl _ _ _) (.refl _ _) h 0 (by simp)
  rw[List.range_eq_range'];simpa using this)
end
section
variable {P:Program} {N:Nat} {Q:PPost} {all:Array Oper} {K:Env→List Res→Prop}
theorem ch.congr {g:Gh} {a:Act} {ρ ρ':Env} {o:Oper} (h: ∀ x∈o.op.operands,ρ.ev x=ρ'.ev x) (ha:ch g a ρ o):ch g a ρ' o:=fun x hx=>h x hx ▸ ha x hx
theorem Fc.congr {o:Oper} {ρ ρ':Env} {L:List Res} {Ψ:PV→List Res→Prop} (h: ∀ x∈o.op.operands,ρ.ev x=ρ'.ev x) (hq:Fc P o ρ L Ψ):Fc P o ρ' L Ψ:=
 fun a w g ha hi=>hq a w g (ha.congr fun x hx=>(h x hx).symm) hi
theorem OT {ρ:Env} {dst:Option Nat} {v:PV} {s:Nat} (h: ∀ d,dst=some d→s≠d):updo ρ dst v s=ρ s:=by
 cases dst with
 |none=>rfl
 |some d=>exact Gv _ _ (h d rfl)
theorem RH (ρ:Env) {x y:Option Nat} (v u:PV) (h: ∀ d,x=some d→y≠some d):updo (updo ρ x v) y u=updo (updo ρ y u) x v:=by
 cases x with
 |none=>rfl
 |some d=>
  cases y with
  |none=>rfl
  |some e=>
   have hne:d≠e:=fun he=>h d rfl (he ▸ rfl)
   funext i
   show CV (CV ρ d v) e u i=CV (CV ρ e u) d v i
   by_cases h1:i=e
   ·subst h1;rw[Cz,Gv _ _ (Ne.symm hne),Cz]
   ·by_cases h2:i=d
    ·subst h2;rw[Gv _ _ h1,Cz,Cz]
    ·rw[Gv _ _ h1,Gv _ _ h2,Gv _ _ h2,Gv _ _ h1]
theorem R9.congr {o:Oper} {ρ ρ':Env} (h: ∀ s,s∈o.looksAt all→ρ s=ρ' s) (hy:R9 all o ρ):R9 all o ρ':=by
 unfold R9 at*
 cases hg:o.guard with
 |none=>trivial
 |some p=>
  obtain⟨j,b⟩:=p
  simp only[hg]at hy ⊢
  obtain⟨s,hs,hr⟩:=hy
  exact⟨s,hs,by rw[←h s (by simp[Oper.looksAt,hg,hs])];exact hr⟩
theorem mU.congr {o:Oper} {ρ ρ':Env} (h: ∀ s,s∈o.looksAt all→ρ s=ρ' s) (hy:mU all o ρ):mU all o ρ':=by
 unfold mU at*
 cases hg:o.guard with
 |none=>simp only[hg]at hy
 |some p=>
  obtain⟨j,b⟩:=p
  simp only[hg]at hy ⊢
  obtain⟨s,v,hs,hr,hn⟩:=hy
  exact⟨s,v,hs,by rw[←h s (by simp[Oper.looksAt,hg,hs])];exact hr,hn⟩
theorem SS {o:Oper} {ρ ρ':Env} (h: ∀ s,s∈o.looksAt all→ρ s=ρ' s): ∀ x∈o.op.operands,ρ.ev x=ρ'.ev x:=by
 intro x hx
 cases x with
 |tmp t=>exact h t (Dc _ (Bw.2 ⟨.tmp t,by simpa using hx,rfl⟩))
 |_=>rfl
def YQ (P:Program) (all:Array Oper) (o:Oper) (ρ:Env) (L:List Res) (x:PV):Prop:=
 (mU all o ρ∧x= .raw undef)∨(R9 all o ρ∧iE P o ρ L x)
theorem YQ.congr {o:Oper} {ρ ρ':Env} {L:List Res} {x:PV} (h: ∀ s,s∈o.looksAt all→ρ s=ρ' s) (hy:YQ P all o ρ L x):YQ P all o ρ' L x:=by
 rcases hy with ⟨h1,h2⟩|⟨h1,h2⟩
 ·exact .inl ⟨h1.congr h,h2⟩
 ·exact .inr ⟨h1.congr h,Fc.congr (SS h) h2⟩
def Z6 (P:Program) (N:Nat) (all:Array Oper) (bar:Nat→Bool) (i:Nat) (K:Env→List Res→Prop) (ρ:Env) (L:List Res):Prop:=
 match all[i]? with
 |none=>K ρ L
 |some o=>(∀ d,o.dst=some d→d < N)∧((∃ x,YQ P all o ρ L x∧K (updo ρ o.dst x) L)∨(bar i=true∧R9 all o ρ∧Fc P o ρ L (fun x L'=>K (updo ρ o.dst x) L')))
theorem Z1 {bar:Nat→Bool} {i:Nat} {K K':Env→List Res→Prop} {ρ:Env} {L:List Res} (h: ∀ ρ L,K ρ L→K' ρ L) (hh:Z6 P N all bar i K ρ L):Z6 P N all bar i K' ρ L:=by
 unfold Z6 at*
 split
 ·rename_i h0;simp only[h0]at hh;exact h _ _ hh
 ·rename_i o h0
  simp only[h0]at hh
  obtain⟨hd,hh⟩:=hh
  refine⟨hd,?_⟩
  rcases hh with ⟨x,hy,hk⟩|⟨hb,hy,ho⟩
  ·exact .inl ⟨x,hy,h _ _ hk⟩
  ·exact .inr ⟨hb,hy,ho.mono fun x L'=>h _ _⟩
def Gw (P:Program) (N:Nat) (all:Array Oper) (bar:Nat→Bool) (K:Env→List Res→Prop):Nat→Array Bool→Env→List Res→Prop
 |0,listed,ρ,L=>Region.ready .any all listed= []∧K ρ L
 |fuel+1,listed,ρ,L=>
  (Region.ready .any all listed= []→K ρ L)∧ ∀ i∈Region.ready .any all listed,Z6 P N all bar i (Gw P N all bar K fuel (listed.setIfInBounds i true)) ρ L
theorem P9 {ro:Option Nat} {base:Nat} {bar:Nat→Bool} {w₀:World} {g₀:Gh} {L₀:List Res} (hK: ∀ ρ L,K ρ L→Q .normal ρ L) (hG:MH all N=true):
  ∀ (fuel:Nat) (listed:Array Bool) (ρ:Env) (L:List Res) (a:Act) (w:World) (g:Gh),VC base g N a ρ→Dt w g L→Ec (Al L₀) w₀ g₀ w g→Db w₀ L₀ L→
    Gw P N all bar K fuel listed ρ L→wpAnyIn (aZ ro) 0 P .any all (SD base N w₀ g₀ L₀ Q) fuel listed a w:=by
 intro fuel
 induction fuel with
 |zero=>intro listed ρ L a w g ha hi hs hw h;exact⟨h.1,ρ,g,L,ha,hi,hs,hw,hK _ _ h.2⟩
 |succ fuel ih=>
  intro listed ρ L a w g ha hi hs hw h
  refine⟨fun h0=>⟨ρ,g,L,ha,hi,hs,hw,hK _ _ (h.1 h0)⟩,fun i hr=>?_⟩
  have hp:=h.2 i hr
  unfold Z6 at hp
  unfold wpOpIn
  split
  ·rename_i h0;simp only[h0]at hp;exact ih _ ρ L a w g ha hi hs hw hp
  ·rename_i o h0
   simp only[h0]at hp
   obtain⟨hd,hp⟩:=hp
   have run:R9 all o ρ→Fc P o ρ L (fun x L'=>Gw P N all bar K fuel (listed.setIfInBounds i true) (updo ρ o.dst x) L')→
     (if Region.wanted o (yielded all a.tmps)=true then o.wpIn (aZ ro) 0 P a w (wpAnyIn (aZ ro) 0 P .any all (SD base N w₀ g₀ L₀ Q) fuel (listed.setIfInBounds i true)) (SD base N w₀ g₀ L₀ Q)
      else(∀ f,o.about P w a.eval=some f→(aZ ro).fn f)∧wpAnyIn (aZ ro) 0 P .any all (SD base N w₀ g₀ L₀ Q) fuel (listed.setIfInBounds i true) (a.put o.dst undef) w):=by
    intro hyes hop
    rw[if_pos (PA hyes ha (PN hG (A0T h0)))]
    refine Oper.wq.wpIn ro ((hop a w g (ha.args o) hi).mono ?_)
    rintro a' w' ⟨v,x,g',L',rfl,hv,hi',hs',hw',hp⟩
    exact ih _ _ L' _ w' g' ((ha.mono hs'.le).put hd hv) hi' (hs.trans hw hs') (hw.trans hs.size hw') hp
   rcases hp with ⟨x,hy,hk⟩|⟨_,hy,ho⟩
   ·rcases hy with ⟨hno,rfl⟩|⟨hyes,hq⟩
    ·rw[if_neg (by rw[Q9 hno ha];simp)]
     exact⟨fun _ _=>trivial,ih _ _ L _ w g (ha.put hd (.raw undef)) hi hs hw hk⟩
    ·exact run hyes (hq.mono fun x' L' ⟨e1,e2⟩=>by subst e1;subst e2;exact hk)
   ·exact run hy ho
theorem od {bar:Nat→Bool} {j:Nat} {oi oj:Oper} {x:PV} (hj:all[j]? =some oj) (hbar:bar j=false) (hap:oi.apart all oj=true) {K:Env→List Res→Prop} {ρ:Env} {L:List Res}
  (hy:YQ P all oi ρ L x) (h:Z6 P N all bar j K (updo ρ oi.dst x) L):Z6 P N all bar j (fun ρ' L'=>L'=L∧YQ P all oi ρ' L x∧K (updo ρ' oi.dst x) L) ρ L:=by
 obtain⟨h1,h2,h3⟩:=Oper.apart_spec hap
 unfold Z6 at*
 simp only[hj]at*
 obtain⟨hd,h⟩:=h
 refine⟨hd,.inl ?_⟩
 rcases h with ⟨u,hu,hk⟩|⟨hb,_⟩
 ·refine⟨u,hu.congr fun s hs=>OT fun d hd e=>h1 d hd (e ▸ hs),by trivial,hy.congr fun s hs=>(OT fun d hd e=>h3 d hd (e ▸ hs)).symm,?_⟩
  rw[RH ρ u x (fun d hd e=>h2 d e hd)];exact hk
 ·rw[hbar]at hb;cases hb
structure Ko (all:Array Oper) (listed:Array Bool):Prop where
 size:listed.size=all.size
 closed: ∀ j oj,all[j]? =some oj→listed.getD j false=true→ ∀ e∈oj.after,Region.binds .any e=true→listed.getD e.on false=true
theorem Ko.set {listed:Array Bool} {i:Nat} (h:Ko all listed) (hi:i∈Region.ready .any all listed):Ko all (listed.setIfInBounds i true):=by
 obtain⟨_,oi,hoi,hall⟩:=mem_ready.1 hi
 refine⟨by simp[h.size],fun j oj hj hl e he hb=>?_⟩
 by_cases hij:i=j
 ·subst hij
  have:oj=oi:=CN (hj.symm.trans hoi)
  subst this
  exact getD_set_true (hall e he hb)
 ·rw[getD_set_ne false hij]at hl
  exact getD_set_true (h.closed j oj hj hl e he hb)
def qm (all:Array Oper) (j i:Nat):Bool:=
 match all[j]? with
 |some oj=>oj.after.any fun e=>Region.binds .any e&&e.on==i
 |none=>false
def jC (all:Array Oper) (n:Nat):Bool:=(List.range n).all fun i=>(List.range (n+1)).any fun j=>decide (i < j)&&qm all j i
theorem U2 {listed:Array Bool} {n:Nat} (hs:jC all n=true) (hc:Ko all listed) (hr:n∈Region.ready .any all listed): ∀ d i,n - i=d→i < n→listed.getD i false=true:=by
 intro d
 induction d using Nat.strongRecOn with
 |_ d ih=>
  intro i hd hi
  obtain⟨_,on,hon,hall⟩:=mem_ready.1 hr
  have h1:=Bg.1 hs i (Br.2 hi)
  obtain⟨j,hj,hj2⟩:=Bu.1 h1
  simp only[BW,AB]at hj2
  have hjle:j≤n:=by have:=Br.1 hj;omega
  have hw:=hj2.2
  unfold qm at hw
  split at hw
  ·rename_i oj hoj
   obtain⟨e,he,hb⟩:=Array.any_eq_true'.1 hw
   simp only[BW,beq_iff_eq]at hb
   by_cases hjn:j=n
   ·subst hjn
    have:oj=on:=CN (hoj.symm.trans hon)
    subst this
    have:=hall e he hb.1
    rwa [hb.2]at this
   ·have hl:=ih (n - j) (by omega) j rfl (by omega)
    have:=hc.closed j oj hoj hl e he hb.1
    rwa [hb.2]at this
  ·cases hw
theorem bX {bar:Nat→Bool} {i:Nat} {oi:Oper} {x:PV} (hi:all[i]? =some oi) (hdi: ∀ d,oi.dst=some d→d < N) (hbar: ∀ j oj,all[j]? =some oj→j≠i→bar j=true→i < j→jC all j=true):
  ∀ (fuel:Nat) (listed:Array Bool) (ρ:Env) (L:List Res),Ko all listed→(∀ j,j < i→listed.getD j true=true)→
    (∀ j oj,all[j]? =some oj→j≠i→listed.getD j true=false→(∀ e∈oj.after,Region.binds .any e=true→e.on≠i)→oi.apart all oj=true)→
    i∈Region.ready .any all listed→YQ P all oi ρ L x→
    Gw P N all bar K fuel (listed.setIfInBounds i true) (updo ρ oi.dst x) L→Gw P N all bar K (fuel+1) listed ρ L:=by
 intro fuel
 have Ik: ∀ (listed:Array Bool) (ρ:Env) (L:List Res) (n:Nat),YQ P all oi ρ L x→Gw P N all bar K n (listed.setIfInBounds i true) (updo ρ oi.dst x) L→
   Z6 P N all bar i (Gw P N all bar K n (listed.setIfInBounds i true)) ρ L:=fun listed ρ L n hy H=>by
  unfold Z6;simp only[hi];exact⟨hdi,.inl ⟨x,hy,H⟩⟩
 induction fuel with
 |zero=>
  intro listed ρ L hc hlow _ hr hy H
  refine⟨fun h=>(by rw[h]at hr;cases hr),fun j hj=>?_⟩
  by_cases hji:j=i
  ·subst hji;exact Ik _ _ _ _ hy H
  ·have:=ready_mono hj hji
   rw[H.1]at this
   cases this
 |succ fuel ih=>
  intro listed ρ L hc hlow hfree hr hy H
  refine⟨fun h=>(by rw[h]at hr;cases hr),fun j hj=>?_⟩
  by_cases hji:j=i
  ·subst hji;exact Ik _ _ _ _ hy H
  ·have h1:=H.2 j (ready_mono hj hji)
   obtain⟨hjun,oj,hoj,hall⟩:=mem_ready.1 hj
   have hiun:=(mem_ready.1 hr).1
   have hlt:i < j:=by
    rcases RB i j with h|h|h
    ·exact h
    ·exact absurd h.symm hji
    ·have:=hlow j h;rw[hjun]at this;cases this
   have hjb:bar j=false:=by
    cases hb:bar j with
    |false=>rfl
    |true=>
     have h3:=U2 (hbar j oj hoj hji hb hlt) hc hj _ i rfl hlt
     rcases B9 i listed.size with h'|h'
     ·simp[h']at h3 hiun;rw[h3]at hiun;cases hiun
     ·simp[Bo h']at h3
   have hnot: ∀ e∈oj.after,Region.binds .any e=true→e.on≠i:=fun e he hb heq=>by
    have h1:=hall e he hb
    rw[heq]at h1
    rcases B9 i listed.size with h'|h'
    ·simp[h']at hiun h1;rw[hiun]at h1;cases h1
    ·simp[Bo h']at h1
   have h2:=od hoj hjb (hfree j oj hoj hji hjun hnot) hy h1
   have hfree': ∀ k ok,all[k]? =some ok→k≠i→(listed.setIfInBounds j true).getD k true=false→
     (∀ e∈ok.after,Region.binds .any e=true→e.on≠i)→oi.apart all ok=true:=fun k ok hk hki hun hno=>by
    refine hfree k ok hk hki ?_ hno
    by_cases hjk:j=k
    ·subst hjk;exact hjun
    ·rw[getD_set_ne true hjk]at hun;exact hun
   refine Z1 (fun ρ' L' h3=>?_) h2
   obtain⟨rfl,h4,h5⟩:=h3
   refine ih (listed.setIfInBounds j true) ρ' L' (hc.set hj) (fun k hk=>?_) hfree' (ready_mono hr (Ne.symm hji)) h4 ?_
   ·rw[getD_set_ne true (by omega)];exact hlow k hk
   ·rw[yS _ _ hji]
    exact h5
def U4 (all:Array Oper) (bar:Nat→Bool):Nat→Nat→Array Bool→Bool
 |0,_,listed=>(Region.ready .any all listed).isEmpty
 |fuel+1,k,listed=>(if bar k then Region.ready .any all listed== [k]&&jC all k else(Region.ready .any all listed).contains k&&Region.free .any all listed k)&&U4 all bar fuel (k+1) (listed.setIfInBounds k true)
theorem Z8 {bar:Nat→Bool}: ∀ (l:List Oper) (fl:List Bool) (k:Nat) (listed:Array Bool) (ρ:Env) (L:List Res),(∀ j,l[j]? =all[k+j]?)→(∀ j,fl.getD j true=bar (k+j))→Ko all listed→(∀ j,j < k→listed.getD j true=true)→
  (∀ j,k≤j→j < k+l.length→bar j=true→jC all j=true)→(∀ j,k+l.length≤j→all[j]? =none)→
  U4 all bar l.length k listed=true→AV P N all K fl l ρ L→Gw P N all bar K l.length listed ρ L
 | [],_,_,_,_,_,_,_,_,_,_,_,hB,h=>⟨by simpa [U4]using hB,h⟩
 |o::l,fl,k,listed,ρ,L,hl,hfl,hc,hlow,hsk,hend,hB,h=>by
  have h0:all[k]? =some o:=by simpa using (hl 0).symm
  have hl': ∀ j,l[j]? =all[k+1+j]?:=fun j=>by have:=hl (j+1);simpa [E7,Jn 1 j]using this
  have hfl': ∀ j,fl.tail.getD j true=bar (k+1+j):=fun j=>by
   have:=hfl (j+1)
   rw[show k+1+j=k+(j+1) by omega,←this]
   cases fl<;>simp
  simp only[AN,U4,BW]at hB
  obtain⟨hr,hB'⟩:=hB
  obtain⟨hd,h⟩:=h
  have hbk:fl.headD true=bar k:=by have:=hfl 0;simp at this;rw[←this];cases fl<;>simp
  have hready:k∈Region.ready .any all listed:=by
   cases hb:bar k with
   |true=>rw[hb]at hr;simp only[if_true,BW,beq_iff_eq]at hr;rw[hr.1];simp
   |false=>rw[hb]at hr;simp at hr;exact hr.1
  have hc':=hc.set hready
  have hlow': ∀ j,j < k+1→(listed.setIfInBounds k true).getD j true=true:=fun j hj=>by
   by_cases hjk:k=j
   ·subst hjk
    have hks:k < listed.size:=by rw[hc.size];exact(BF.1 h0).1
    simp[hks]
   ·rw[getD_set_ne true hjk];exact hlow j (by omega)
  have rec': ∀ ρ' L',AV P N all K fl.tail l ρ' L'→Gw P N all bar K l.length (listed.setIfInBounds k true) ρ' L':=fun ρ' L' hp=>
   Z8 l fl.tail (k+1) _ ρ' L' hl' hfl' hc' hlow' (fun j h1 h2=>hsk j (by omega) (by simp;omega)) (fun j hj=>hend j (by simp;omega)) hB' hp
  cases hb:bar k with
  |false=>
   rw[hb]at hr
   simp only[BT,if_false,BW]at hr
   have: ∃ x,YQ P all o ρ L x∧AV P N all K fl.tail l (updo ρ o.dst x) L:=by
    rcases h with ⟨hno,h⟩|⟨hyes,h⟩
    ·exact⟨_,.inl ⟨hno,rfl⟩,h⟩
    ·rcases h with ⟨x,hq,h⟩|⟨hf,_⟩
     ·exact⟨x,.inr ⟨hyes,hq⟩,h⟩
     ·rw[hbk,hb]at hf;cases hf
   obtain⟨x,hy,hp⟩:=this
   refine bX h0 hd (fun j oj hoj _ hbj hlt=>?_) l.length listed ρ L hc hlow (Region.free_spec h0 hr.2) hready hy (rec' _ _ hp)
   rcases B9 j (k+(o::l).length)with h'|h'
   ·exact hsk j (by omega) h' hbj
   ·rw[hend j h']at hoj;cases hoj
  |true=>
   rw[hb]at hr
   simp only[if_true,BW,beq_iff_eq]at hr
   refine⟨fun h'=>(by rw[hr.1]at h';cases h'),fun i hi'=>?_⟩
   rw[hr.1]at hi'
   have:i=k:=by simpa using hi'
   subst this
   unfold Z6
   simp only[h0]
   refine⟨hd,?_⟩
   rcases h with ⟨hno,h⟩|⟨hyes,h⟩
   ·exact .inl ⟨_,.inl ⟨hno,rfl⟩,rec' _ _ h⟩
   ·rcases h with ⟨x,hq,h⟩|⟨_,h⟩
    ·exact .inl ⟨x,.inr ⟨hyes,hq⟩,rec' _ _ h⟩
    ·exact .inr ⟨hb,hyes,h.mono fun x L' hp=>rec' _ _ hp⟩
def Xm (N:Nat) (l:List Oper) (fl:List Bool):Bool:=
 MH l.toArray N&&U4 l.toArray (fun k=>fl.getD k true) l.length 0 (Array.replicate l.length false)&&(List.range l.length).all fun j=>!(fl.getD j true)||jC l.toArray j
class mH (P:Program):Prop where
 out:P.follows .mixedOrders=true
theorem QU {id:Nat} {l:List Oper} {ρ:Env} {L:List Res} (fl:List Bool) [hm:mH P] (hB:Xm N l fl=true)
  (h:AV P N l.toArray (Q .normal) fl l ρ L):ER P N (.region id l.toArray true) Q ρ L:=fun ro base a w g hst=>by
 simp only[Xm,BW]at hB
 obtain⟨⟨hG,hB⟩,hS⟩:=hB
 refine wpIn_region_any hm.out ?_
 have hi:=hst.inv
 have hst0:Ec (Al L) w g { w with drawn:=w.drawn+1 } g:=⟨rfl,rfl,⟨rfl,RE _⟩,Ah _,fun _ _ _=>rfl,.refl g,fun _ _ _=>⟨fun _=>rfl,rfl⟩⟩
 have hi':Dt { w with drawn:=w.drawn+1 } g L:=⟨hi.sat,fun b z hz=>(hi.satM b z hz).congr rfl,fun r hr=>by have:=hi.res r hr;cases r<;>first|exact this|(rename_i t _ _;cases t<;>exact this),hi.nodup,hi.glob⟩
 have:=Z8 (P:=P) (N:=N) (all:=l.toArray) (K:=Q .normal) (bar:=fun k=>fl.getD k true) l fl 0 (Array.replicate l.length false) ρ L (by simp) (by simp)
  ⟨by simp,fun j oj _ hl=>by
   have:(Array.replicate l.length false).getD j false=false:=by
    rcases B9 j l.length with h|h<;>simp[h]
   rw[this]at hl;cases hl⟩ (fun j hj=>absurd hj (DK _))
  (fun j _ hj hb=>by
   have:=Bg.1 hS j (Br.2 (by simpa using hj))
   simp only[hb,ae,GU]at this;exact this)
  (fun j hj=>by simp at hj ⊢;exact hj) hB h
 have k:=P9 (ro:=ro) (base:=base) (Q:=Q) (w₀:=w) (g₀:=g) (L₀:=L) (fun _ _ h=>h) hG _ _ ρ L a _ g hst.agr hi' hst0 (.refl _ _) this
 simpa using k
theorem GK {id:Nat} {l:List Oper} {ρ:Env} {L:List Res} [hm:mH P] (hB:Xm N l (List.replicate l.length false)=true)
  (h:AV P N l.toArray (Q .normal) (List.replicate l.length false) l ρ L):ER P N (.region id l.toArray true) Q ρ L:=QU _ hB h
theorem Bj {id:Nat} {l:List Oper} {ρ:Env} {L:List Res} (n:Nat) [hm:mH P] (hB:Xm N l (List.replicate n false)=true)
  (h:AV P N l.toArray (Q .normal) (List.replicate n false) l ρ L):ER P N (.region id l.toArray true) Q ρ L:=QU _ hB h
end
def BA (P:Program) (f:FuncId) (args:List PV) (L:List Res) (R:PV→List Res→Prop):Prop:=
 ∀ (vs:List Value) (w:World) (g:Gh) (LF:List Res),EB g vs args→Dt w g (L++LF)→
   Calls P f vs.toArray w (fun e w'=> ∃ v x g' L',e= .returned v∧VR g' v x∧Dt w' g' (L'++LF)∧Ec (Al (L++LF)) w g w' g'∧Db w (L++LF) (L'++LF)∧R x L')
theorem BA.mono {P:Program} {f:FuncId} {args:List PV} {L:List Res} {R R':PV→List Res→Prop} (h:BA P f args L R) (hr: ∀ x L',R x L'→R' x L'):BA P f args L R':=
 fun vs w g LF hv hi=>(h vs w g LF hv hi).mono fun _ _ ⟨v,x,g',L',h1,h2,h3,h4,h5,h6⟩=>⟨v,x,g',L',h1,h2,h3,h4,h5,hr _ _ h6⟩
@[reducible] def yn (args:List PV):Env:=fun i=>args.getD i (.raw undef)
def iJ (P:Program) (T:TypeId) (n:Nat):Prop:=((∃ fs,P.underlying T=some (.struct fs))∨(∃ m e,P.underlying T=some (.array m e)))∧ ∃ i,P.info? T=some i∧i.size=n
def WI (P:Program) (T:TypeId):Prop:= ∃ d,P.underlying T=some d∧(∀ fs,d≠ .struct fs)∧(∀ m e,d≠ .array m e)
inductive mM (P:Program) (ρ:Env) (L:List Res):ResultVar→PV→Prop
 |tmp (t:Nat):mM P ρ L (.tmp t) (ρ t)
 |cell (a T:Nat) {b T' n:Nat} {cs:List PV} (h:ρ a= .raw (.pointer (some ⟨b,0,none⟩))) (hm:Res.box b T' cs∈L) (ht:iJ P T n) (hn:cs.length=n):mM P ρ L (.cell a T) (.agg cs)
 |cell1 (a T:Nat) {b T':Nat} {c:PV} (h:ρ a= .raw (.pointer (some ⟨b,0,none⟩))) (hm:Res.box b T' [c]∈L) (ht:WI P T):mM P ρ L (.cell a T) c
inductive WJ (P:Program) (ρ:Env) (L:List Res):List ResultVar→List PV→Prop
 |nil:WJ P ρ L [] []
 |cons {r:ResultVar} {rs:List ResultVar} {x:PV} {xs:List PV} (h:mM P ρ L r x) (hs:WJ P ρ L rs xs):WJ P ρ L (r::rs) (x::xs)
@[reducible] def rZ:List PV→PV
 | [x]=>x
 |xs=> .tuple xs
@[reducible] def qW (P:Program) (rs:List ResultVar) (R:PV→List Res→Prop) (LF:List Res):PPost:=
 fun e ρ L=>(match e with| .normal=>True| .ret=>True|_=>False)∧ ∃ xs L',WJ P ρ L rs xs∧(L'++LF).Sublist L∧R (rZ xs) L'
theorem GP {L L':List Res} (h:L'.Sublist L):(Al L').Sublist (Al L):=h.filterMap _
theorem Dt.sub {w:World} {g:Gh} {L L':List Res} (h:Dt w g L) (hs:L'.Sublist L):Dt w g L':=
 ⟨h.sat,h.satM,fun r hr=>h.res r (hs.subset hr),h.nodup.sublist (GP hs),h.glob⟩
theorem Dt.perm {w:World} {g:Gh} {L L':List Res} (h:Dt w g L) (hp:L.Perm L'):Dt w g L':=
 ⟨h.sat,h.satM,fun r hr=>h.res r (hp.symm.subset hr),(hp.filterMap _).nodup_iff.1 h.nodup,h.glob⟩
theorem Db.sub {w:World} {L L₁ L₂:List Res} (h:Db w L L₁) (hs:L₂.Sublist L₁):Db w L L₂:=fun b hb hl=>h b ((GP hs).subset hb) hl
theorem Ot {P:Program} {T n:Nat} (h:iJ P T n) (w:World):(isAgg T).run P w= .ok true w∧(sizeOf T).run P w= .ok n w:=by
 obtain⟨h1,i,h2,h3⟩:=h
 constructor
 ·unfold isAgg underlying
  rcases h1 with ⟨fs,h1⟩|⟨m,e,h1⟩<;>simp[h1]
 ·unfold sizeOf typeInfo
  simp[h2,h3]
theorem N9 {P:Program} {T:Nat} (h:WI P T) (w:World):(isAgg T).run P w= .ok false w:=by
 obtain⟨d,h1,h2,h3⟩:=h
 unfold isAgg underlying
 simp only[Sem.run_bind,run_program,Result.andThen_ok,h1,Sem.run_pure]
theorem Dp (b o i:Nat):Addr.add ⟨b,o,none⟩ i=⟨b,o+i,none⟩:=by
 unfold Addr.add
 split
 ·rename_i h;subst h;rfl
 ·rfl
theorem Qg {P:Program} {w:World} {b o:Nat} {vs:List Value} (h: ∀ j (hj:j < vs.length),w.cell? ⟨b,o+j,none⟩=some vs[j]):
  ∀ (n i:Nat) (acc:Array Value),i+n=vs.length→(loadCellsFrom ⟨b,o,none⟩ i n acc).run P w= .ok (acc++(vs.drop i).toArray) w:=by
 intro n
 induction n with
 |zero=>intro i acc hi;simp[loadCellsFrom,DH (by omega:vs.length≤i)]
 |succ n ih=>
  intro i acc hi
  have hlt:i < vs.length:=by omega
  have hc:=h i hlt
  have hl:(load (Addr.add ⟨b,o,none⟩ i)).run P w= .ok vs[i] w:=by
   rw[Dp,run_load,hc]
  unfold loadCellsFrom
  rw[Sem.run_bind,hl]
  simp only[Result.andThen]
  rw[ih (i+1) _ (by omega)]
  congr 1
  rw[CH hlt]
  simp
theorem FQ {P:Program} {w:World} {b o:Nat} {vs:List Value} (h: ∀ j (hj:j < vs.length),w.cell? ⟨b,o+j,none⟩=some vs[j]):
  (loadCells ⟨b,o,none⟩ vs.length).run P w= .ok vs.toArray w:=by
 unfold loadCells
 rw[Qg h vs.length 0 #[] (by omega)];simp
theorem L8 {P:Program} {T n:Nat} (ht:iJ P T n) {w:World} {b o:Nat} {vs:List Value} (hn:vs.length=n) (h: ∀ j (hj:j < vs.length),w.cell? ⟨b,o+j,none⟩=some vs[j]):
  (loadVar T ⟨b,o,none⟩).run P w= .ok (.agg vs.toArray) w:=by
 obtain⟨h1,h2⟩:=Ot ht w
 unfold loadVar
 subst hn
 simp only[Sem.run_bind,h1,Result.andThen,if_true,h2,FQ h,Sem.run_pure]
theorem N4 {P:Program} {T:Nat} (ht:WI P T) {w:World} {b o:Nat} {v:Value} (h:w.cell? ⟨b,o,none⟩=some v):
  (loadVar T ⟨b,o,none⟩).run P w= .ok v w:=by
 unfold loadVar
 rw[Sem.run_bind,N9 ht w]
 simp[Result.andThen,load,Sem.run,h]
theorem HJ {w:World} {b T:Nat} {vs:List Value} {fr:Nat × Nat} (h:w.heap[b]? =some (.cells vs.toArray T fr)) (j:Nat) (hj:j < vs.length):w.cell? ⟨b,j,none⟩=some vs[j]:=by
 simp[World.cell?,h,hj]
def TN (tmps:Array Value):ResultVar→Sem Value
 | .tmp t=>pure (tmps.getD t undef)
 | .cell a t=>do loadVar t (←asAddr (tmps.getD a undef))
theorem bK (fn:Func) (tmps:Array Value):results fn tmps=(do let vs ←fn.results.mapM (TN tmps);pure (if h:vs.size=1 then vs[0]else .tuple vs)):=by
 unfold results
 congr 2
structure ed (g:Gh) (a:Act) (ρ:Env):Prop where
 slot: ∀ i,VR g (a.tmps.getD i undef) (ρ i)
theorem js {P:Program} {ρ:Env} {L:List Res} {a:Act} {w:World} {g:Gh} (ha:ed g a ρ) (hi:Dt w g L) {r:ResultVar} {x:PV} (h:mM P ρ L r x):
  ∃ v,VR g v x∧(TN a.tmps r).run P w= .ok v w:=by
 cases h with
 |tmp t=>exact⟨_,ha.slot t,rfl⟩
 |cell s T h hm ht hn=>
  rename_i b _ _ _
  have hs:=ha.slot s
  rw[h]at hs
  have hs:=hs.raw_inv
  have hr:=hi.res _ hm
  obtain⟨vs,h1,h2,_,_⟩:=hr
  refine⟨_,h2.agg,?_⟩
  have:=L8 ht (w:=w) (b:=b) (o:=0) (vs:=vs) (by rw[h2.len,hn]) (fun j hj=>by rw[BG];exact HJ h1 j hj)
  simp only[TN,hs,asAddr,Sem.run_bind,Sem.run_pure,Result.andThen,this]
 |cell1 s T h hm ht=>
  rename_i b T'
  have hs:=ha.slot s
  rw[h]at hs
  have hs:=hs.raw_inv
  obtain⟨vs,h1,h2,_,_⟩:=hi.res _ hm
  match vs,h2 with
  | [v],h2=>
    refine⟨v,h2.uncons.1,?_⟩
    have:=N4 ht (w:=w) (b:=b) (o:=0) (v:=v) (HJ h1 0 (by simp))
    simp only[TN,hs,asAddr,Sem.run_bind,Sem.run_pure,Result.andThen,this]
  | [],h2=>have:=h2.len;simp at this
  |_::_::_,h2=>have:=h2.len;simp at this
theorem Va {P:Program} {ρ:Env} {L:List Res} {a:Act} {w:World} {g:Gh} (ha:ed g a ρ) (hi:Dt w g L): ∀ {rs:List ResultVar} {xs:List PV},WJ P ρ L rs xs→
  ∃ vs:List Value,EB g vs xs∧(rs.mapM (TN a.tmps)).run P w= .ok vs w
 |_,_,.nil=>⟨[],.nil g,rfl⟩
 |_,_,.cons h hs=>by
  obtain⟨v,hv,hr⟩:=js ha hi h
  obtain⟨vs,hvs,hrs⟩:=Va ha hi hs
  refine⟨v::vs,.cons hv hvs,?_⟩
  rw[List.mapM_cons]
  simp only[Sem.run_bind,hr,hrs,Result.andThen,Sem.run_pure]
theorem Yg {P:Program} {ρ:Env} {L:List Res} {a:Act} {w:World} {g:Gh} (ha:ed g a ρ) (hi:Dt w g L) {fn:Func} {rs:List ResultVar} (hf:fn.results=rs.toArray) {xs:List PV} (h:WJ P ρ L rs xs):
  ∃ v,VR g v (rZ xs)∧(results fn a.tmps).run P w= .ok v w:=by
 obtain⟨vs,hvs,hr⟩:=Va ha hi h
 rw[bK,hf]
 simp only[List.mapM_toArray,Sem.run_bind,Sem.run_map,hr,Result.andThen,Sem.run_pure]
 match vs,xs,hvs with
 | [],[],_=>exact⟨_,EB.tuple (EB.nil g),by simp⟩
 | [v],[x],hvs=>exact⟨v,hvs.uncons.1,by simp⟩
 |v::u::us,x::y::ys,hvs=>exact⟨_,EB.tuple hvs,by simp⟩
 | [],_::_,hvs=>have:=hvs.len;simp at this
 |_::_,[],hvs=>have:=hvs.len;simp at this
 | [_],_::_::_,hvs=>have:=hvs.len;simp at this
 |_::_::_,[_],hvs=>have:=hvs.len;simp at this
theorem qT {g:Gh} {vs:List Value} {args:List PV} (h:EB g vs args) {N:Nat} (hN:args.length≤N) (base:Nat):VC base g N { tmps:=vs.toArray++Array.replicate (N - vs.toArray.size) undef,defers:= [] } (yn args):=by
 refine⟨by have:=h.len;simp;omega,.nil _ _,fun i=>?_⟩
 show VR g _ (args.getD i (.raw undef))
 rcases B9 i vs.length with hi|hi
 ·have hi':i < args.length:=by rw[←h.len];exact hi
  have:=h.at_ i hi hi'
  simpa [hi,hi',A0U,List.getD]using this
 ·have hi':args.length≤i:=by rw[←h.len];exact hi
  have e:args.getD i (PV.raw undef)= .raw undef:=by simp[List.getD,FS hi']
  rw[e]
  have:(vs.toArray++Array.replicate (N - vs.toArray.size) undef).getD i undef=undef:=by
   simp[A0U,Nat.not_lt.2 hi,Array.getElem?_replicate]
   split<;>rfl
  rw[this]
  exact .raw _
def Gh.unmark (g:Gh) (D:Nat):Gh:={ g with M:=fun b=>if b=D then none else g.M b }
theorem VR.unmark {g:Gh} {D:Nat} (hD:g.M D=some .mark) {v:Value} {x:PV} (h:VR g v x):VR (g.unmark D) v x:=by
 induction h with
 |raw v=>exact .raw v
 |junk v=>exact .junk v
 |str h=>exact .str h
 |agg hl _ ih=>exact .agg hl ih
 |tuple hl _ ih=>exact .tuple hl ih
 |nilN o ho=>exact .nilN o ho
 |nilR=>exact .nilR
 |slice sz f hl hc hm hs hH _ ht hn ih=>exact .slice sz f hl hc hm hs hH ih ht hn
 |pt f hH _ ih=>exact .pt f hH ih
 |fmap hM hl _ _ ik iv=>
  rename_i b es c kvs _ _
  refine .fmap (es:=es) (clock:=c) ?_ hl ik iv
  have hne:b≠D:=fun e=>by subst e;rw[hD]at hM;cases hM
  show(if b=D then none else g.M b)=_
  rw[if_neg hne];exact hM
 |nilM=>exact .nilM
 |clo f hl _ ih=>exact .clo f hl ih
 |ifc t _ ih=>exact .ifc t ih
theorem EB.unmark {g:Gh} {D:Nat} (hD:g.M D=some .mark) {vs:List Value} {xs:List PV} (h:EB g vs xs):EB (g.unmark D) vs xs:=⟨h.len,fun i h1 h2=>(h.at_ i h1 h2).unmark hD⟩
theorem Dt.unmark {w:World} {g:Gh} {L:List Res} {D:Nat} (hi:Dt w g L) (hD:g.M D=some .mark):Dt (w.putObj D (.deferred none)) (g.unmark D) L:=by
 have hat:w.heap[D]? =some (.deferred (some [])):=hi.satM D _ hD
 have hk: ∀ k,k≠D→(w.putObj D (.deferred none)).heap[k]? =w.heap[k]?:=fun k hk=>World.putObj_heap_other hk
 have hM: ∀ b,g.M b=none→(g.unmark D).M b=none:=fun b h=>by
  show(if b=D then none else g.M b)=none
  split
  ·rfl
  ·exact h
 have hne: ∀ b,g.M b=none→b≠D:=fun b h e=>by subst e;rw[hD]at h;cases h
 refine⟨fun b o v h=>?_,fun b z h=>?_,fun r hr=>?_,hi.nodup,⟨by
  have hne:globAt≠D:=fun e=>by
   have:=hi.glob.tab
   rw[e,hD]at this;cases this
  show(if globAt=D then none else g.M globAt)=_
  rw[if_neg hne];exact hi.glob.tab⟩⟩
 ·have h0:=hi.sat b o v h
  have:b≠D:=fun e=>by subst e;simp[World.cell?,hat]at h0
  simp only[World.cell?]at h0 ⊢
  rw[hk b this];exact h0
 ·change (if b=D then none else g.M b)=some z at h
  split at h
  ·cases h
  ·rename_i hb
   exact(hi.satM b z h).congr (hk b hb)
 ·have h0:=hi.res r hr
  cases r with
  |box b T cs=>obtain⟨vs,h1,h2,h3,h4⟩:=h0;exact⟨vs,by rw[hk b (hne b h4)];exact h1,h2.unmark hD,h3,hM b h4⟩
  |tok t n sz=>cases t with
   |own b cap=>obtain⟨vs,T,fr,h1,h2,h3,h4,h5,h6⟩:=h0;exact⟨vs,T,fr,by rw[hk b (hne b h5)];exact h1,h2,h3,h4,hM b h5,h6⟩
   |nil=>exact h0
   |ro=>exact h0
  |map b kvs=>obtain⟨es,c,h1,h2,h3,h4,h5⟩:=h0;exact⟨es,c,by rw[hk b (hne b h4)];exact h1,⟨h2.len,fun i a b=>(h2.key i a b).unmark hD,fun i a b=>(h2.val i a b).unmark hD⟩,h3,hM b h4,h5⟩
  |iter b kvs dn=>
   obtain⟨m,es,c,h1,hr,h2,h3,h4,h5⟩:=h0
   refine⟨m,es,c,by rw[hk b (hne b h4)];exact h1,?_,⟨h2.len,fun i a b=>(h2.key i a b).unmark hD,fun i a b=>(h2.val i a b).unmark hD⟩,h3,hM b h4,h5⟩
   rcases hr with hr|⟨b2,hr1,hr2⟩
   ·exact .inl hr
   ·refine .inr ⟨b2,hr1,?_⟩
    show(if b2=D then none else g.M b2)=_
    rw[if_neg (fun e=>by subst e;rw[hD]at hr2;cases hr2)];exact hr2
  |raw b o=>obtain⟨h1,h2,h3⟩:=h0;exact⟨by rw[hk b (hne b h3)];exact h1,h2,hM b h3⟩
  |know vs xs=>exact EB.unmark hD h0
theorem Uq {P:Program} {f:FuncId} {fn:Func} {c:Code} {rs:List ResultVar} {N:Nat} {args:List PV} {L:List Res} {R:PV→List Res→Prop}
  (hf:P.funcs[f]? =some fn) (hb:fn.body=some c) (hn:fn.ntmps=N) (hr:fn.results=rs.toArray) (hN:args.length≤N)
  (h: ∀ LF,ER P N c (qW P rs R LF) (yn args) (L++LF)):BA P f args L R:=by
 intro vs w g LF hv hi
 refine(callsIn_wide (n:=0)).1 (callsIn_of_wp_marks hf hb trivial ?_)
 rw[hn]
 refine wpIn_mono (h LF none w.heap.size _ w g ⟨by simp,Ah _,qT hv hN _,hi⟩) ?_
 rintro e a' w' ⟨ρ',g',L',ha,hi',hs,hw,he,xs,L'',hx,hsub,hR⟩
 obtain⟨Ds,hd,hnd,hD⟩:=ha.defers.out
 have key: ∀ (Ds:List Nat) (w₁:World) (g₁:Gh),Ds.Nodup→(∀ D∈Ds,w.heap.size≤D∧g₁.M D=some .mark)→Dt w₁ g₁ L'→Ec (Al (L++LF)) w g w₁ g₁→Db w (L++LF) L'→ed g₁ a' ρ'→
   LeavesInM Fence.wide 0 P fn a'.tmps (fun e w'=> ∃ v x g' L',e= .returned v∧VR g' v x∧Dt w' g' (L'++LF)∧Ec (Al (L++LF)) w g w' g'∧Db w (L++LF) (L'++LF)∧R x L') (Ds.map XJ) .returning w₁:=by
  intro Ds
  induction Ds with
  |nil=>
   intro w₁ g₁ _ _ hi₁ hs₁ hw₁ ha₁
   obtain⟨v,hv',hrun⟩:=Yg ha₁ hi₁ hr hx
   exact⟨v,hrun,v,_,g₁,L'',rfl,hv',hi₁.sub hsub,hs₁,hw₁.sub hsub,hR⟩
  |cons D Ds ih=>
   intro w₁ g₁ hnd hDs hi₁ hs₁ hw₁ ha₁
   obtain⟨hDb,hDm⟩:=hDs D (AG)
   obtain⟨hn1,hn2⟩:=Bf.1 hnd
   have hat:w₁.heap[D]? =some (.deferred (some [])):=hi₁.satM D _ hDm
   have hk: ∀ k,k≠D→(w₁.putObj D (.deferred none)).heap[k]? =w₁.heap[k]?:=fun k hk=>World.putObj_heap_other hk
   refine⟨by simp,.inl ⟨D,w₁.putObj D (.deferred none),rfl,run_takeDeferred hat,?_⟩⟩
   refine ih _ (g₁.unmark D) hn2 (fun D' hD'=>?_) (hi₁.unmark hDm) ⟨hs₁.os,hs₁.tape,hs₁.output,?_,?_,⟨hs₁.le.H,?_⟩,?_⟩ hw₁ ⟨fun i=>(ha₁.slot i).unmark hDm⟩
   ·have hne:D'≠D:=fun e=>hn1 (e ▸ hD')
    obtain⟨q1,q2⟩:=hDs D' (AH _ hD')
    exact⟨q1,by show(if D'=D then none else g₁.M D')=_;rw[if_neg hne];exact q2⟩
   ·refine CZ hs₁.size ?_
    exact EG (by simp[World.putObj])
   ·intro k hlt hnot
    rw[hk k (by omega)];exact hs₁.keep k hlt hnot
   ·intro b z hz
    have hlt:=(hi.satM b z hz).lt
    show(if b=D then none else g₁.M b)=_
    rw[if_neg (by omega)];exact hs₁.le.M b z hz
   ·intro k hlt hnot
    obtain⟨q1,q2⟩:=hs₁.new k hlt hnot
    refine⟨q1,?_⟩
    show(if k=D then none else g₁.M k)=_
    rw[if_neg (by omega)];exact q2
 have fin:=key Ds w' g' hnd hD hi' hs hw ⟨ha.slot⟩
 rw[←hd]at fin
 cases e with
 |normal=>exact fin
 |ret=>exact fin
 |_=>exact he.elim
theorem kU {P:Program} {dst:Option Nat} {f:FuncId} {xs:List Operand} {ats:Array TypeId} {ty:TypeId} {pos:String} {after:Array Edge} {gd:Option (Nat × Bool)} {ρ:Env} {L₁ LF:List Res} {Ψ:PV→List Res→Prop} {args:List PV}
  (hent: ∀ vs w,(callFunc f vs).run P w= .ok (.enter f vs) w) (hargs:xs.map ρ.ev=args) (hc:BA P f args L₁ (fun x L'=>Ψ x (L'++LF))):
  Fc P ⟨dst,.call { callee:= .value (.func f),args:=xs.toArray,argTypes:=ats },ty,pos,after,gd⟩ ρ (L₁++LF) Ψ:=by
 intro a w g ha hi
 have hvs:EB g (xs.map a.eval) args:=by
  subst hargs
  refine⟨by simp,fun i h1 h2=>?_⟩
  simp only[BN]
  exact ha _ (by simp[Op.operands,Call.operands])
 have he:execOp a.eval ⟨dst,.call { callee:= .value (.func f),args:=xs.toArray,argTypes:=ats },ty,pos,after,gd⟩=callFunc f (#[]++xs.toArray.map a.eval++ #[]):=rfl
 refine Oper.wq_of_run (n:= .enter f (xs.map a.eval).toArray) (w':=w) (by rw[he,hent];simp) ?_
 refine(hc _ w g LF hvs hi).mono ?_
 rintro e w' ⟨v,x,g',L',rfl,h2,h3,h4,h5,h6⟩
 exact⟨v,x,g',L'++LF,rfl,h2,h3,h4,h5,h6⟩
theorem AK {P:Program} {f:FuncId} {fn:Func} {c:Code} (hf:P.funcs[f]? =some fn) (hb:fn.body=some c) (hn:(fn.name== "runtime.NumGoroutine")=false) (vs:Array Value) (w:World):(callFunc f vs).run P w= .ok (.enter f vs) w:=by
 unfold callFunc
 simp[hf,hb]
 simpa using hn
class FF (P:Program) (T:Nat) (n:outParam Nat):Prop where
 out:iJ P T n
class DR (P:Program) (T:Nat):Prop where
 out:WI P T
class EZ (P:Program) (E:Nat) (sz bytes:outParam Nat):Prop where
 out: ∃ i,P.info? E=some i∧i.size=sz∧i.bytes=bytes
class MO (P:Program) (T:Nat) (E:outParam Nat):Prop where
 out:P.underlying T=some (.slice E)
class VA (P:Program) (T:Nat) (n E:outParam Nat):Prop where
 out:P.underlying T=some (.array n E)
class SA (P:Program) (T:Nat):Prop where
 out:P.underlying T=some .string
class NH (P:Program) (T:Nat) (k:outParam IntKind):Prop where
 out:P.underlying T=some (.int k)
class A0M (P:Program) (T:Nat) (z:outParam Value):Prop where
 out: ∃ i,P.info? T=some i∧i.zero=some z
class CX (P:Program) (S k:Nat) (off:outParam Nat):Prop where
 out: ∃ fs f i,P.underlying S=some (.struct fs)∧fs[k]? =some f∧f.offset=off∧P.info? f.type=some i∧i.size≠0
class Az (P:Program) (f:Nat):Prop where
 out: ∀ vs w,(callFunc f vs).run P w= .ok (.enter f vs) w
theorem EZ.run {P:Program} {E sz bytes:Nat} (h:EZ P E sz bytes) (w:World):(sizeOf E).run P w= .ok sz w:=by
 obtain⟨i,h1,h2,_⟩:=h.out
 unfold sizeOf typeInfo
 simp[h1,h2]
theorem IC {P:Program} {T:Nat} {d:TypeDesc} (h:P.underlying T=some d) (w:World):(underlying T).run P w= .ok d w:=by
 unfold underlying;simp[h]
section
variable {P:Program} {N:Nat} {all:Array Oper} {K:Env→List Res→Prop} {fl:List Bool} {os:List Oper} {ρ:Env} {L:List Res}
variable {d:Nat} {ty:TypeId} {pos:String} {af:Array Edge}
theorem tb {o:Oper} {x:PV} (hg:o.guard=none) (hd: ∀ d,o.dst=some d→d < N) (hq:iE P o ρ L x) (k:AV P N all K fl.tail os (updo ρ o.dst x) L):AV P N all K fl (o::os) ρ L:=
 ⟨hd,.inr ⟨by unfold R9;rw[hg];trivial,.inl ⟨x,hq,k⟩⟩⟩
theorem Da {o:Oper} (hg:o.guard=none) (hd: ∀ d,o.dst=some d→d < N) (hf:fl.headD true=true) (hq:Fc P o ρ L (fun x L'=>AV P N all K fl.tail os (updo ρ o.dst x) L')):AV P N all K fl (o::os) ρ L:=
 ⟨hd,.inr ⟨by unfold R9;rw[hg];trivial,.inr ⟨hf,hq⟩⟩⟩
theorem AD (h:K ρ L):AV P N all K fl [] ρ L:=h
theorem Yw {dst:Option Nat} {op:Op} {j:Nat} {b:Bool} {s:Nat} (hs:(all[j]?).bind (·.dst)=some s) (h:ρ s= .raw (.bool b)) (k:AV P N all K fl (⟨dst,op,ty,pos,af,none⟩::os) ρ L):
  AV P N all K fl (⟨dst,op,ty,pos,af,some (j,b)⟩::os) ρ L:=by
 obtain⟨hd,k⟩:=k
 refine⟨hd,.inr ⟨⟨s,hs,h⟩,?_⟩⟩
 rcases k with ⟨hno,_⟩|⟨_,k⟩
 ·exact hno.elim
 ·exact k
theorem XB {dst:Option Nat} {op:Op} {j:Nat} {b:Bool} {s:Nat} {v:Value} (hs:(all[j]?).bind (·.dst)=some s) (h:ρ s= .raw v) (hv:v≠ .bool b) (hd: ∀ d,dst=some d→d < N) (k:AV P N all K fl.tail os (updo ρ dst (.raw undef)) L):
  AV P N all K fl (⟨dst,op,ty,pos,af,some (j,b)⟩::os) ρ L:=⟨hd,.inl ⟨⟨s,v,hs,h,hv⟩,k⟩⟩
theorem PO {d N:Nat} (h:Nat.blt d N=true): ∀ d',some d=some d'→d' < N:=fun d' e=>by cases e;exact Gg h
theorem Bh {op:Op} {x:PV} (hd:Nat.blt d N=true) (hq:iE P ⟨some d,op,ty,pos,af,none⟩ ρ L x) (k:AV P N all K fl.tail os (CV ρ d x) L):AV P N all K fl (⟨some d,op,ty,pos,af,none⟩::os) ρ L:=
 tb rfl (PO hd) hq k
theorem Ll {x:Operand} (k:AV P N all K fl.tail os (CV ρ d (ρ.ev x)) L) (hd:Nat.blt d N=true:=by rfl):AV P N all K fl (⟨some d,.assign x,ty,pos,af,none⟩::os) ρ L:=
 Bh hd (B7 fun a w g ha hi=>⟨a.eval x,rfl,ha x (by simp[Op.operands])⟩) k
theorem Cd {g:Gh} {a:Act} {o:Oper} (ha:ch g a ρ o) {x:Operand} (hm:x∈o.op.operands) {v:Value} (h:ρ.ev x= .raw v):a.eval x=v:=by
 have:=ha x hm;rw[h]at this;exact this.raw_inv
theorem np {c x y:Operand} (hc:ρ.ev c= .raw (.bool true)) (k:AV P N all K fl.tail os (CV ρ d (ρ.ev x)) L) (hd:Nat.blt d N=true:=by rfl):AV P N all K fl (⟨some d,.pick c x y,ty,pos,af,none⟩::os) ρ L:=
 Bh hd (B7 fun a w g ha hi=>⟨a.eval x,by
  have:=Cd ha (x:=c) (by simp[Op.operands]) hc
  simp[execOp,this,asBool],ha x (by simp[Op.operands])⟩) k
theorem nq {c x y:Operand} (hc:ρ.ev c= .raw (.bool false)) (k:AV P N all K fl.tail os (CV ρ d (ρ.ev y)) L) (hd:Nat.blt d N=true:=by rfl):AV P N all K fl (⟨some d,.pick c x y,ty,pos,af,none⟩::os) ρ L:=
 Bh hd (B7 fun a w g ha hi=>⟨a.eval y,by
  have:=Cd ha (x:=c) (by simp[Op.operands]) hc
  simp[execOp,this,asBool],ha y (by simp[Op.operands])⟩) k
theorem Gi {op:BinOp} {T T':TypeId} {x y:Operand} {k₁ k₂:IntKind} {m n:Int} {v:Value} (hx:ρ.ev x= .raw (.int k₁ m)) (hy:ρ.ev y= .raw (.int k₂ n))
  (hr: ∀ w,(binOp op T (.int k₁ m) (.int k₂ n)).run P w= .ok v w) (k:AV P N all K fl.tail os (CV ρ d (.raw v)) L) (hd:Nat.blt d N=true:=by rfl):
  AV P N all K fl (⟨some d,.binOp op T x y T',ty,pos,af,none⟩::os) ρ L:=
 Bh hd (B7 fun a w g ha hi=>⟨v,by
  have h1:=Cd ha (x:=x) (by simp[Op.operands]) hx
  have h2:=Cd ha (x:=y) (by simp[Op.operands]) hy
  have hg:(eqGuard op T x y (.int k₁ m) (.int k₂ n)).run P w= .ok () w:=by unfold eqGuard;cases op<;>rfl
  simp only[execOp,h1,h2,Sem.run_bind,hg,Result.andThen_ok,hr,Sem.run_pure],.raw v⟩) k
theorem rB {T T':TypeId} {x y:Operand} {k₁:IntKind} {m n:Int} (hx:ρ.ev x= .raw (.int k₁ m)) (hy:ρ.ev y= .raw (.int k₁ n)) (k:AV P N all K fl.tail os (CV ρ d (.raw (.bool (decide (m < n))))) L) (hd:Nat.blt d N=true:=by rfl):
  AV P N all K fl (⟨some d,.binOp .lss T x y T',ty,pos,af,none⟩::os) ρ L:=Gi hx hy (fun w=>by simp[binOp,Op.intCmp]) k hd
theorem rE {T T':TypeId} {x y:Operand} {k₁:IntKind} {m n:Int} (hx:ρ.ev x= .raw (.int k₁ m)) (hy:ρ.ev y= .raw (.int k₁ n)) (k:AV P N all K fl.tail os (CV ρ d (.raw (.bool (decide (m≤n))))) L) (hd:Nat.blt d N=true:=by rfl):
  AV P N all K fl (⟨some d,.binOp .leq T x y T',ty,pos,af,none⟩::os) ρ L:=Gi hx hy (fun w=>by simp[binOp,Op.intCmp]) k hd
theorem wh {T T':TypeId} {x y:Operand} {k₁:IntKind} {m n:Int} (hx:ρ.ev x= .raw (.int k₁ m)) (hy:ρ.ev y= .raw (.int k₁ n)) (k:AV P N all K fl.tail os (CV ρ d (.raw (.bool (decide (n < m))))) L) (hd:Nat.blt d N=true:=by rfl):
  AV P N all K fl (⟨some d,.binOp .gtr T x y T',ty,pos,af,none⟩::os) ρ L:=Gi hx hy (fun w=>by simp[binOp,Op.intCmp]) k hd
theorem rF {T T':TypeId} {x y:Operand} {k₁:IntKind} {m n:Int} (hx:ρ.ev x= .raw (.int k₁ m)) (hy:ρ.ev y= .raw (.int k₁ n)) (k:AV P N all K fl.tail os (CV ρ d (.raw (.bool (decide (n≤m))))) L) (hd:Nat.blt d N=true:=by rfl):
  AV P N all K fl (⟨some d,.binOp .geq T x y T',ty,pos,af,none⟩::os) ρ L:=Gi hx hy (fun w=>by simp[binOp,Op.intCmp]) k hd
theorem wi {T T':TypeId} {x y:Operand} {k₁:IntKind} {m n:Int} (hx:ρ.ev x= .raw (.int k₁ m)) (hy:ρ.ev y= .raw (.int k₁ n)) (k:AV P N all K fl.tail os (CV ρ d (.raw (.bool (decide (m=n))))) L) (hd:Nat.blt d N=true:=by rfl):
  AV P N all K fl (⟨some d,.binOp .eql T x y T',ty,pos,af,none⟩::os) ρ L:=Gi hx hy (fun w=>by simp[binOp,Op.intCmp,BEq.beq]) k hd
theorem wb {T T':TypeId} {x y:Operand} {k₁:IntKind} {m n:Int} (hx:ρ.ev x= .raw (.int k₁ m)) (hy:ρ.ev y= .raw (.int k₁ n)) (k:AV P N all K fl.tail os (CV ρ d (.raw (.bool (!decide (m=n))))) L) (hd:Nat.blt d N=true:=by rfl):
  AV P N all K fl (⟨some d,.binOp .neq T x y T',ty,pos,af,none⟩::os) ρ L:=Gi hx hy (fun w=>by simp[binOp,Op.intCmp,bne,BEq.beq]) k hd
theorem rN {T T':TypeId} {x y:Operand} {m n:Int} (hx:ρ.ev x= .raw (.int .i64 m)) (hy:ρ.ev y= .raw (.int .i64 n)) (hb: -9223372036854775808≤m+n∧m+n≤9223372036854775807) (k:AV P N all K fl.tail os (CV ρ d (.raw (.int .i64 (m+n)))) L) (hd:Nat.blt d N=true:=by rfl):
  AV P N all K fl (⟨some d,.binOp .add T x y T',ty,pos,af,none⟩::os) ρ L:=Gi hx hy (fun w=>by simp[binOp,Op.intArith,IntWalk.i64_in _ hb]) k hd
theorem qz {T T':TypeId} {x y:Operand} {m n:Int} (hx:ρ.ev x= .raw (.int .i64 m)) (hy:ρ.ev y= .raw (.int .i64 n)) (hb: -9223372036854775808≤m - n∧m - n≤9223372036854775807) (k:AV P N all K fl.tail os (CV ρ d (.raw (.int .i64 (m - n)))) L) (hd:Nat.blt d N=true:=by rfl):
  AV P N all K fl (⟨some d,.binOp .sub T x y T',ty,pos,af,none⟩::os) ρ L:=Gi hx hy (fun w=>by simp[binOp,Op.intArith,IntWalk.i64_in _ hb]) k hd
theorem r7 {T:TypeId} {x:Operand} {b:Bool} (hx:ρ.ev x= .raw (.bool b)) (k:AV P N all K fl.tail os (CV ρ d (.raw (.bool (!b)))) L) (hd:Nat.blt d N=true:=by rfl):AV P N all K fl (⟨some d,.unOp .not T x,ty,pos,af,none⟩::os) ρ L:=
 Bh hd (B7 fun a w g ha hi=>⟨.bool (!b),by
  have h1:=Cd ha (x:=x) (by simp[Op.operands]) hx
  simp[execOp,h1,Op.unary],.raw _⟩) k
theorem jV {T:TypeId} {E:Nat} [hT:MO P T E] {x:Operand} {xs:List (List PV)} {t:CF} (hx:ρ.ev x= .slice xs t) (k:AV P N all K fl.tail os (CV ρ d (.raw (.int .i64 xs.length))) L) (hd:Nat.blt d N=true:=by rfl):
  AV P N all K fl (⟨some d,.call { callee:= .builtin .len,args:= #[x],argTypes:= #[T] },ty,pos,af,none⟩::os) ρ L:=
 Bh hd (B7 fun a w g ha hi=>⟨.int .i64 xs.length,by
  have h1:=ha x (by simp[Op.operands,Call.operands])
  rw[hx]at h1
  have hlen: ∃ o cap,a.eval x= .slice o xs.length cap:=by
   generalize a.eval x=v at h1
   cases h1 with
   |nilN=>exact⟨_,_,rfl⟩
   |nilR=>exact⟨_,_,rfl⟩
   |slice sz f hl hc hm hs hH hv ht hn=>subst hl;exact⟨_,_,rfl⟩
  obtain⟨o,cap,h2⟩:=hlen
  have he:execOp a.eval ⟨some d,.call { callee:= .builtin .len,args:= #[x],argTypes:= #[T] },ty,pos,af,none⟩=(do pure (.value (←Builtin.len_ #[T] ty (#[x].map a.eval)))):=rfl
  rw[he]
  simp[Builtin.len_,h2,IC hT.out,goInt],.raw _⟩) k
theorem dN {T:TypeId} {E sz by_:Nat} [hT:MO P T E] [hE:EZ P E sz by_] {x y:Operand} {xs:List (List PV)} {t:CF} {kk:IntKind} {n:Int} (hx:ρ.ev x= .slice xs t) (hy:ρ.ev y= .raw (.int kk n)) (h0:0≤n) (hn:n.toNat < xs.length)
  (hsz:(xs[n.toNat]).length=sz) (k:AV P N all K fl.tail os (CV ρ d (.pt xs[n.toNat] 0)) L) (hd:Nat.blt d N=true:=by rfl):
  AV P N all K fl (⟨some d,.indexAddr T x y,ty,pos,af,none⟩::os) ρ L:=
 Bh hd (B7 fun a w g ha hi=>by
  have h1:=ha x (by simp[Op.operands])
  rw[hx]at h1
  have h2:=Cd ha (x:=y) (by simp[Op.operands]) hy
  generalize hv:a.eval x=v at h1
  cases h1 with
  |nilN=>simp at hn
  |nilR=>simp at hn
  |slice sz' f hl hc hm hs hH hv' ht hnn=>
   rename_i b off len cap
   have hsz':sz'=sz:=by rw[←hsz];exact(hs _ (AF hn)).symm
   subst hsz'
   refine⟨.pointer (some ⟨b,off+n.toNat*sz',none⟩),?_,?_⟩
   ·simp only[execOp,Instr.indexAt,h2,hv,asIntOf,Sem.run_bind,Sem.run_pure,Result.andThen_ok,IC hT.out]
    simp only[Bool.and_false,BT,if_false]
    rw[if_pos ⟨h0,by omega⟩]
    simp[EZ.run hE,Dp]
   ·have:=VR.pt (g:=g) (b:=b) (o:=off+n.toNat*sz') (off:=0) (cs:=xs[n.toNat]) (fun j=>f (n.toNat*sz'+j)) (fun j hj=>by rw[←hH n.toNat j (by omega) (by rw[←hsz];exact hj)]) (fun j hj=>hv' n.toNat hn j hj)
    simpa using this) k
theorem nt {T n:Nat} [hT:FF P T n] {x:Operand} {cs:List PV} {off:Nat} (hx:ρ.ev x= .pt cs off) (hl:off+n≤cs.length) (k:AV P N all K fl.tail os (CV ρ d (.agg ((cs.drop off).take n))) L) (hd:Nat.blt d N=true:=by rfl):
  AV P N all K fl (⟨some d,.load T x,ty,pos,af,none⟩::os) ρ L:=
 Bh hd (B7 fun a w g ha hi=>by
  have h1:=ha x (by simp[Op.operands])
  rw[hx]at h1
  generalize hv:a.eval x=v at h1
  cases h1 with
  |pt f hH hv'=>
   rename_i b o
   have hcell: ∀ j (hj:j < ((List.range n).map fun j=>f (off+j)).length),w.cell? ⟨b,o+off+j,none⟩=some ((List.range n).map fun j=>f (off+j))[j]:=fun j hj=>by
    have hj':j < n:=by simpa using hj
    rw[E7,hi.sat _ _ _ (hH (off+j) (by omega))];simp
   refine⟨.agg ((List.range n).map fun j=>f (off+j)).toArray,?_,?_⟩
   ·have:=L8 hT.out (w:=w) (b:=b) (o:=o+off) (vs:=(List.range n).map fun j=>f (off+j)) (by simp) hcell
    simp only[execOp,Instr.loadAt,hv,Instr.sureAddr,Sem.run_bind,Sem.run_pure,Result.andThen_ok,this]
   ·refine EB.agg ⟨by simp;omega,fun j h1 h2=>?_⟩
    have hj:j < n:=by simpa using h1
    have:=hv' (off+j) (by omega)
    simpa using this) k
theorem dK {T:Nat} [hT:DR P T] {x:Operand} {cs:List PV} {off:Nat} {c:PV} (hx:ρ.ev x= .pt cs off) (hl:cs[off]? =some c) (k:AV P N all K fl.tail os (CV ρ d c) L) (hd:Nat.blt d N=true:=by rfl):
  AV P N all K fl (⟨some d,.load T x,ty,pos,af,none⟩::os) ρ L:=
 Bh hd (B7 fun a w g ha hi=>by
  have h1:=ha x (by simp[Op.operands])
  rw[hx]at h1
  generalize hv:a.eval x=v at h1
  obtain⟨hlt,hc⟩:=Bb.1 hl
  cases h1 with
  |pt f hH hv'=>
   rename_i b o
   refine⟨f off,?_,hc ▸ hv' off hlt⟩
   have:=N4 hT.out (P:=P) (w:=w) (b:=b) (o:=o+off) (hi.sat _ _ _ (hH off hlt))
   simp only[execOp,Instr.loadAt,hv,Instr.sureAddr,Sem.run_bind,Sem.run_pure,Result.andThen_ok,this]) k
theorem YY {T n:Nat} [hT:FF P T n] {x:Operand} {b off T':Nat} {cs:List PV} (hx:ρ.ev x= .raw (.pointer (some ⟨b,off,none⟩))) (hm:Res.box b T' cs∈L) (hl:off+n≤cs.length) (k:AV P N all K fl.tail os (CV ρ d (.agg ((cs.drop off).take n))) L) (hd:Nat.blt d N=true:=by rfl):
  AV P N all K fl (⟨some d,.load T x,ty,pos,af,none⟩::os) ρ L:=
 Bh hd (B7 fun a w g ha hi=>by
  have h1:=Cd ha (x:=x) (by simp[Op.operands]) hx
  obtain⟨vs,hb,hvs,_,_⟩:=hi.res _ hm
  have hlen:((vs.drop off).take n).length=n:=by have:=hvs.len;simp;omega
  refine⟨.agg ((vs.drop off).take n).toArray,?_,((hvs.drop off).take n).agg⟩
  have:=L8 hT.out (w:=w) (b:=b) (o:=off) (vs:=(vs.drop off).take n) hlen (fun j hj=>by
   rw[hlen]at hj
   rw[HJ hb (off+j) (by have:=hvs.len;omega)];simp)
  simp only[execOp,Instr.loadAt,h1,Instr.sureAddr,Sem.run_bind,Sem.run_pure,Result.andThen_ok,this]) k
theorem TL {T:Nat} [hT:DR P T] {x:Operand} {b off T':Nat} {cs:List PV} {c:PV} (hx:ρ.ev x= .raw (.pointer (some ⟨b,off,none⟩))) (hm:Res.box b T' cs∈L) (hl:cs[off]? =some c) (k:AV P N all K fl.tail os (CV ρ d c) L) (hd:Nat.blt d N=true:=by rfl):
  AV P N all K fl (⟨some d,.load T x,ty,pos,af,none⟩::os) ρ L:=
 Bh hd (B7 fun a w g ha hi=>by
  have h1:=Cd ha (x:=x) (by simp[Op.operands]) hx
  obtain⟨vs,hb,hvs,_,_⟩:=hi.res _ hm
  obtain⟨hlt,hc⟩:=Bb.1 hl
  have hlt':off < vs.length:=by rw[hvs.len];exact hlt
  refine⟨vs[off],?_,hc ▸ hvs.at_ off hlt' hlt⟩
  have:=N4 hT.out (P:=P) (w:=w) (b:=b) (o:=off) (HJ hb off hlt')
  simp only[execOp,Instr.loadAt,h1,Instr.sureAddr,Sem.run_bind,Sem.run_pure,Result.andThen_ok,this]) k
theorem tD {S f off':Nat} [hF:CX P S f off'] {x:Operand} {b off:Nat} (hx:ρ.ev x= .raw (.pointer (some ⟨b,off,none⟩))) (k:AV P N all K fl.tail os (CV ρ d (.raw (.pointer (some ⟨b,off+off',none⟩)))) L) (hd:Nat.blt d N=true:=by rfl):
  AV P N all K fl (⟨some d,.fieldAddr S x f,ty,pos,af,none⟩::os) ρ L:=
 Bh hd (B7 fun a w g ha hi=>by
  have h1:=Cd ha (x:=x) (by simp[Op.operands]) hx
  obtain⟨fs,fd,i,h2,h3,h4,h5,h6⟩:=hF.out
  refine⟨.pointer (some ⟨b,off+off',none⟩),?_,.raw _⟩
  simp[execOp,Instr.fieldAt,h1,IC h2,h3,Instr.sureAddr,fieldPlace,sizeOf,typeInfo,h5,h6,h4,Dp]) k
theorem fH {x:Operand} {i:Nat} {vs:List PV} {c:PV} (hx:ρ.ev x= .tuple vs) (hc:vs[i]? =some c) (k:AV P N all K fl.tail os (CV ρ d c) L) (hd:Nat.blt d N=true:=by rfl):
  AV P N all K fl (⟨some d,.extract x i,ty,pos,af,none⟩::os) ρ L:=
 Bh hd (B7 fun a w g ha hi=>by
  have h1:=ha x (by simp[Op.operands])
  rw[hx]at h1
  obtain⟨us,h2,h3⟩:=h1.tuple_inv
  obtain⟨hlt,hc'⟩:=Bb.1 hc
  have hlt':i < us.length:=by rw[h3.len];exact hlt
  refine⟨us[i],?_,hc' ▸ h3.at_ i hlt' hlt⟩
  simp[execOp,Instr.extract,h2,hlt']) k
theorem Dt.alloc {w:World} {g:Gh} (hi:Dt w g L) {vs:List Value} {cs:List PV} (hv:EB g vs cs) (T:TypeId):
  Dt { w with heap:=w.heap.push (.cells vs.toArray T (0,0)) } g (.box w.heap.size T cs::L)∧Ec (Al L) w g { w with heap:=w.heap.push (.cells vs.toArray T (0,0)) } g∧Db w L (.box w.heap.size T cs::L):=by
 have hlt: ∀ r∈L,∀ b,r.block=some b→b < w.heap.size:=fun r hr b hb=>by
  have:=hi.res r hr
  rcases B9 b w.heap.size with h|h
  ·exact h
  ·have hn:w.heap[b]? =none:=Bo h
   cases r with
   |box b' T' cs'=>obtain⟨_,h1,_⟩:=this;simp[Res.block]at hb;subst hb;rw[hn]at h1;cases h1
   |tok t n sz=>cases t with
    |own b' cap=>obtain⟨_,_,_,h1,_⟩:=this;simp[Res.block]at hb;subst hb;rw[hn]at h1;cases h1
    |_=>simp[Res.block]at hb
   |map b' kvs=>obtain⟨_,_,h1,_⟩:=this;simp[Res.block]at hb;subst hb;rw[hn]at h1;cases h1
   |raw b' o=>obtain⟨h1,_⟩:=this;simp[Res.block]at hb;subst hb;rw[hn]at h1;cases h1
   |know vs xs=>simp[Res.block]at hb
   |iter b' kvs dn=>obtain⟨_,_,_,h1,_⟩:=this;simp[Res.block]at hb;subst hb;rw[hn]at h1;cases h1
 have hH: ∀ o,g.H w.heap.size o=none:=fun o=>by
  cases h:g.H w.heap.size o with
  |none=>rfl
  |some v=>have:=hi.sat _ _ _ h;simp[World.cell?]at this
 have hM:g.M w.heap.size=none:=by
  cases h:g.M w.heap.size with
  |none=>rfl
  |some v=>exact absurd (hi.satM _ _ h).lt (Ff _)
 have hget: ∀ b,b < w.heap.size→(w.heap.push (Obj.cells vs.toArray T (0,0)))[b]? =w.heap[b]?:=fun b hb=>by
  rw[Hd,if_neg (by omega)]
 refine⟨⟨fun b o v h=>?_,fun b es h=>?_,fun r hr=>?_,?_,hi.glob⟩,⟨rfl,rfl,⟨rfl,Ah _⟩,by simp,fun k hk _=>hget k hk,.refl g,fun _ _ _=>⟨fun _=>rfl,rfl⟩⟩,fun b hb hl=>?_⟩
 ·have h1:=hi.sat b o v h
  have hb:b < w.heap.size:=by
   rcases B9 b w.heap.size with h'|h'
   ·exact h'
   ·simp[World.cell?,Bo h']at h1
  simp only[World.cell?]at h1 ⊢
  rw[hget b hb];exact h1
 ·exact(hi.satM b es h).congr (hget b (hi.satM b es h).lt)
 ·rcases AI.1 hr with rfl|hr
  ·exact⟨vs,by simp,hv,hH,hM⟩
  ·have h1:=hi.res r hr
   have h2:=hlt r hr
   cases r with
   |box b' T' cs'=>obtain⟨us,h3,h4⟩:=h1;exact⟨us,by rw[hget b' (h2 b' rfl)];exact h3,h4⟩
   |tok t n sz=>cases t with
    |own b' cap=>obtain⟨us,T',fr,h3,h4⟩:=h1;exact⟨us,T',fr,by rw[hget b' (h2 b' rfl)];exact h3,h4⟩
    |_=>exact h1
   |map b' kvs=>obtain⟨es,c,h3,h4⟩:=h1;exact⟨es,c,by rw[hget b' (h2 b' rfl)];exact h3,h4⟩
   |raw b' o=>obtain⟨h3,h4⟩:=h1;exact⟨by rw[hget b' (h2 b' rfl)];exact h3,h4⟩
   |know vs xs=>exact h1
   |iter b' kvs dn=>obtain⟨m,es,c,h3,h4⟩:=h1;exact⟨m,es,c,by rw[hget b' (h2 b' rfl)];exact h3,h4⟩
 ·show(Al (Res.box w.heap.size T cs::L)).Nodup
  simp only[Al,Ax,Res.block]
  refine Bf.2 ⟨fun hm=>?_,hi.nodup⟩
  obtain⟨r,hr,hb⟩:=Bw.1 hm
  exact absurd (hlt r hr _ hb) (Ff _)
 ·simp only[Al,Ax,Res.block,AI]at hb
  rcases hb with rfl|hb
  ·exact absurd hl (Ff _)
  ·exact hb
theorem Ye {T:TypeId} {x:Operand} {cs:List PV} (hx:ρ.ev x= .agg cs) (k: ∀ b,AV P N all K fl.tail os (CV ρ d (.raw (.pointer (some ⟨b,0,none⟩)))) (.box b T cs::L)) (hd:Nat.blt d N=true:=by rfl) (hf:fl.headD true=true:=by rfl):
  AV P N all K fl (⟨some d,.box T x,ty,pos,af,none⟩::os) ρ L:=
 Da rfl (PO hd) hf (fun a w g ha hi=>by
  have h1:=ha x (by simp[Op.operands])
  rw[hx]at h1
  obtain⟨vs,h2,h3⟩:=h1.agg_inv
  obtain⟨i1,i2,i3⟩:=hi.alloc h3 T
  have hr:(execOp a.eval ⟨some d,.box T x,ty,pos,af,none⟩).run P w= .ok (.value (.pointer (some ⟨w.heap.size,0,none⟩))) { w with heap:=w.heap.push (.cells vs.toArray T (0,0)) }:=by
   simp[execOp,Instr.box,newVar,newRow,h2,Value.cells]
  refine Oper.wq_of_run hr ?_
  exact⟨_,_,g,_,rfl,.raw _,i1,i2,i3,k _⟩)
end
end Go.Q
