/- Contracts of the program: slices.Compact on a row of digests. -/
import Derived.Test.YtjmpmjmobbofgaaGreatDoorUal
import Derived.Test.YtjmpmjmobbofgaaGreatDoorUag
import Derived.Shelf.SlSortCmp.NoneTotal
import Derived.Test.YtjmpmjmobbofgaaGreatDoorUai
import Derived.Test.YtjmpmjmobbofgaaGreatDoorUaj
import Derived.Shelf.SlGeneric
import Derived.Ground.SlsfProg
import Derived.Test.YtjmpmjmobbofgaaGreatDoorUad
set_option linter.unusedSimpArgs false
set_option linter.unusedVariables false
namespace Go.Proofs
open Go Go.Q
attribute [local irreducible] pwp pops PCalls OpN
def dStep (acc:List Dig) (x:Dig):List Dig:=if acc.getLast? =some x then acc else acc++ [x]
def ded (l:List Dig):List Dig:=l.foldl dStep []
theorem ded_snoc (l:List Dig) (x:Dig):ded (l++ [x])=if(ded l).getLast? =some x then ded l else ded l++ [x]:=by rw[ded,List.foldl_append];rfl
theorem ded_last (l:List Dig):(ded l).getLast? =l.getLast?:=by
 rcases List.eq_nil_or_concat l with rfl|⟨m,x,rfl⟩
 ·rfl
 ·rw[List.concat_eq_append,ded_snoc]
  split
  ·rename_i h;rw[h];simp
  ·simp
theorem ded_take {l:List Dig} {j:Nat} (h0:0 < j) (h:j < l.length):ded (l.take (j+1))=if l[j]=l[j - 1]then ded (l.take j)else ded (l.take j)++ [l[j]]:=by
 rw[List.take_succ_eq_append_getElem h,ded_snoc,ded_last]
 have:(l.take j).getLast? =some l[j - 1]:=by
  rw[List.getLast?_eq_getElem?,List.length_take,Nat.min_eq_left (by omega),List.getElem?_take,if_pos (by omega)]
  simp
 rw[this]
 by_cases e:l[j]=l[j - 1]
 ·rw[if_pos (by rw[e]),if_pos e]
 ·rw[if_neg (fun h=>e (by injection h with h;exact h.symm)),if_neg e]
theorem vDig_len (d:Dig):(vDig d).length=32:=by
 have:(eDig d).length=32:=by simp
 rw[(inferInstance:RawE eDig vDig).out]at this
 simpa using this
theorem zero37: ∀ i z,Tryz.prog.info? 29=some i→i.zero=some z→ ∀ x∈z.cells,x.oneCell'=true:=by
 have h:(Tryz.prog.info? 29).map (fun i=>(i.zero.getD undef).cells.all (·.oneCell'))=some true:=by kernel_rfl
 intro i z hi hz x hx
 rw[hi]at h
 simp only[Option.map_some,hz,Option.getD_some,Option.some.injEq,Array.all_eq_true_iff_forall_mem]at h
 exact h x hx
theorem take_rows (l:List Dig) (k:Nat) (h:k≤l.length) (rest:List Value):(l.flatMap vDig++rest).take (k*32)=(l.take k).flatMap vDig:=by
 have e:(l.flatMap vDig++rest)=(l.take k).flatMap vDig++((l.drop k).flatMap vDig++rest):=by
  rw[←List.append_assoc,←List.flatMap_append,List.take_append_drop]
 rw[e]
 refine List.take_left' ?_
 rw[len_raws (f:=eDig) (sz:=32),List.length_take,Nat.min_eq_left h]
set_option maxHeartbeats 2000000 in
theorem compact_fn (l:List Dig) (v:Value) (R:List Res) (hv:DRow v l R) (hl:l.length≤1000000):PCalls Tryz.prog 61 [.raw v] R (fun r L'=>r= .slice ((ded l).map eDig) .ro∧L'= []):=by
 refine pcalls_bd Tryz.func61 rfl Tryz.ntmps61 (rs:= [.tmp 2]) rfl rfl fun hb LF=>?_
 have hmx: ∀ m:List Dig,m.length≤l.length→m.length≤maxN∧m.length*32≤maxN:=fun m h=>by
  have:maxN=140737488355328:=rfl
  omega
 obtain⟨o,c,rfl⟩:=hv.slice
 refine wf ?_
 refine s_lenR rfl ?_
 refine wf ?_
 refine pwp_condD (fun h1=>?_) (fun h1=>?_)
 ·refine pwp_seq ?_
  refine pwp_region (by kernel_rfl) ?_
  refine s_moveN (by(conv=>lhs;whnf);done) ?_
  refine s_assign ?_
  refine pops_nil ?_
  have e:ded l=l:=by
   match l,h1 with
   | [],_=>rfl
   | [x],_=>rfl
   |_::_::_,h=>simp at h;omega
  refine pwp_freezeRow (f:=eDig) 2 hv (hmx l (Nat.le_refl _)) (.refl _) rfl ?_
  refine wf ?_
  exact⟨trivial,_,[],.cons (.tmp 2) .nil,.refl _,by rw[e];exact⟨rfl,rfl⟩⟩
 have hne:l≠ []:=fun e=>by subst e;exact h1 (by simp)
 obtain⟨_,r,cur,rest,rfl,rfl,hcur,hsz,hlc⟩:=hv.inv hne
 refine wf ?_
 refine pwp_loopS (σ:=Nat) (fun k=>1≤k∧k≤l.length∧ded (l.take k)=l.take k) (fun k=>l.length - k) (fun k=> [(0,.raw (.slice (some ⟨r,0,none⟩) l.length c)),(3,.raw (.int .i64 (k:Int)))]) (fun _=> [.raw r (.cells cur 29 (0,0))]++LF) 1 ⟨by omega,by omega,?_⟩ ⟨rfl,rfl⟩ (.refl _) ?_
 ·match l,h1 with
  | [],_=>rfl
  |x::_,_=>rfl
 rintro k ⟨hk1,hk,he⟩
 refine wf ?_
 refine s_lenR rfl ?_
 refine wf ?_
 refine pwp_condD (fun hc=>?_) (fun hc=>?_)
 ·have hlt:k < l.length:=by omega
  refine wn ?_
  refine pwp_drawN 10 ?_ ?_
  ·decide+kernel
  refine wf ?_
  refine s_ixRow (k:=k) rfl rfl hlt ?_
  refine s_ldRow (f:=eDig) (a0:=l[k]) rfl List.mem_cons_self (by rw[hcur,Nat.zero_add];exact row_at vDig_len l k hlt rest) (by omega) ?_
  refine wf ?_
  refine s_ixRow (k:=k - 1) rfl (by show PV.raw (Value.int .i64 ((k:Int) - 1))=PV.raw (Value.int .i64 ((k - 1:Nat):Int));congr 2;omega) (by omega) ?_
  refine s_ldRow (f:=eDig) (a0:=l[k - 1]) rfl List.mem_cons_self (by rw[hcur,Nat.zero_add];exact row_at vDig_len l (k - 1) (by omega) rest) (by omega) ?_
  refine wf ?_
  have hd:=ded_take (l:=l) (j:=k) (by omega) hlt
  refine pwp_condD (fun h2=>?_) (fun h2=>?_)
  ·rw[if_pos h2]at hd
   refine pwp_seq ?_
   refine pwp_region (by kernel_rfl) ?_
   refine s_moveN (by(conv=>lhs;whnf);done) ?_
   refine s_moveN (by(conv=>lhs;whnf);done) ?_
   refine s_cutRow k l.length rfl (by omega) (Nat.le_refl _) (by omega) hlc (fun o e=>by cases e;exact⟨_,rfl⟩) (by simp) (by simp) (fun _=>rfl) ?_
   refine wf ?_
   refine pwp_loopS (σ:=Nat × Nat × List Dig × Array Value) (fun j=>1≤j.1∧k+j.1≤l.length∧1≤j.2.1∧j.2.1+1≤k+j.1∧j.2.2.1.length=l.length∧j.2.2.1.take j.2.1=ded (l.take (k+j.1))∧(∀ i,k+j.1≤i+1→j.2.2.1[i]? =l[i]?)∧j.2.2.2.toList=j.2.2.1.flatMap vDig++rest∧j.2.2.2.size=c*32) (fun j=>l.length - k - j.1) (fun j=> [(0,.raw (.slice (some ⟨r,0,none⟩) l.length c)),(3,.raw (.int .i64 (j.2.1:Int))),(4,.raw (.slice (some ⟨r,0+k*32,none⟩) (l.length - k) (c - k))),(5,.raw (.int .i64 (j.1:Int)))]) (fun j=> [.raw r (.cells j.2.2.2 29 (0,0))]++LF) (1,k,l,cur) ⟨by omega,by dsimp only;omega,by dsimp only;omega,by dsimp only;omega,rfl,by dsimp only;rw[hd,he],fun _ _=>rfl,hcur,hsz⟩ ⟨rfl,rfl,rfl,rfl⟩ (.refl _) ?_
   rintro⟨k2,kk,l1,cur1⟩ ⟨i1,i2,i3,i4,i5,i6,i7,i8,i9⟩
   dsimp only at i1 i2 i3 i4 i5 i6 i7 i8 i9 ⊢
   refine wf ?_
   refine s_lenR rfl ?_
   refine wf ?_
   refine pwp_condD (fun hc2=>?_) (fun hc2=>?_)
   ·have hlt2:k+k2 < l.length:=by omega
    have g1:l1[k+k2]'(by omega)=l[k+k2]:=by
     have:=i7 (k+k2) (by omega)
     rw[List.getElem?_eq_getElem (by omega),List.getElem?_eq_getElem hlt2]at this
     exact Option.some.inj this
    have g2:l1[k+(k2 - 1)]'(by omega)=l[k+k2 - 1]:=by
     have:=i7 (k+(k2 - 1)) (by omega)
     rw[List.getElem?_eq_getElem (by omega),List.getElem?_eq_getElem (by omega)]at this
     have e:=Option.some.inj this
     rw[e]
     congr 1
     omega
    have hd2:=ded_take (l:=l) (j:=k+k2) (by omega) hlt2
    refine wn ?_
    refine pwp_drawN 10 ?_ ?_
    ·decide+kernel
    refine wf ?_
    refine s_ixRow (k:=k2) rfl rfl (by omega) ?_
    refine s_ldRow (f:=eDig) (a0:=l[k+k2]) rfl List.mem_cons_self (by rw[i8,show 0+k*32+k2*32=(k+k2)*32 by omega,row_at vDig_len l1 (k+k2) (by omega) rest,g1]) (by omega) ?_
    refine wf ?_
    refine s_ixRow (k:=k2 - 1) rfl (by show PV.raw (Value.int .i64 ((k2:Int) - 1))=PV.raw (Value.int .i64 ((k2 - 1:Nat):Int));congr 2;omega) (by omega) ?_
    refine s_ldRow (f:=eDig) (a0:=l[k+k2 - 1]) rfl List.mem_cons_self (by rw[i8,show 0+k*32+(k2 - 1)*32=(k+(k2 - 1))*32 by omega,row_at vDig_len l1 (k+(k2 - 1)) (by omega) rest,g2]) (by omega) ?_
    refine wf ?_
    refine pwp_condN (fun h3=>?_) (fun h3=>?_)
    ·rw[if_neg h3]at hd2
     refine wf ?_
     refine s_ixRow (k:=k2) rfl rfl (by omega) ?_
     refine s_ldRow (f:=eDig) (a0:=l[k+k2]) rfl List.mem_cons_self (by rw[i8,show 0+k*32+k2*32=(k+k2)*32 by omega,row_at vDig_len l1 (k+k2) (by omega) rest,g1]) (by omega) ?_
     refine wf ?_
     refine s_ixRow (k:=kk) rfl rfl (by omega) ?_
     refine s_stRow (f:=eDig) (a0:=l[k+k2]) (E:=29) (cur:=cur1) (L':=LF) (fun x=> [x]++LF) rfl rfl (vDig_len _) (by omega) (.refl _) (fun _=> .refl _) ?_
     refine wf ?_
     refine wf ?_
     have hset:(l1.set kk l[k+k2]).take (kk+1)=l1.take kk++ [l[k+k2]]:=by
      rw[List.take_succ_eq_append_getElem (by simp;omega)]
      congr 1
      ·rw[List.take_set_of_le (by omega)]
      ·simp
     have hcl:(cur1.toList.take (0+kk*32)++vDig l[k+k2]++cur1.toList.drop (0+kk*32+32))=(l1.set kk l[k+k2]).flatMap vDig++rest:=by
      rw[i8,Nat.zero_add];exact flat_set vDig_len l1 kk (by omega) _ rest
     refine⟨(k2+1,kk+1,l1.set kk l[k+k2],(cur1.toList.take (0+kk*32)++vDig l[k+k2]++cur1.toList.drop (0+kk*32+32)).toArray),⟨by dsimp only;omega,by dsimp only;omega,by dsimp only;omega,by dsimp only;omega,by dsimp only;rw[List.length_set];exact i5,by dsimp only;rw[hset,i6,←Nat.add_assoc,hd2],fun i hi=>?_,hcl,?_⟩,by dsimp only;omega,⟨rfl,rfl,rfl,rfl⟩,.refl _⟩
     ·dsimp only at hi ⊢
      rw[List.getElem?_set_ne (by omega)]
      exact i7 i (by omega)
     ·dsimp only
      have hv32:=vDig_len l[k+k2]
      simp only[List.size_toArray,List.length_append,List.length_take,List.length_drop,Array.length_toList,hv32]
      omega
    ·rw[if_pos h3]at hd2
     refine wf ?_
     refine⟨(k2+1,kk,l1,cur1),⟨by dsimp only;omega,by dsimp only;omega,i3,by dsimp only;omega,i5,by dsimp only;rw[i6,←Nat.add_assoc,hd2],fun i hi=>i7 i (by dsimp only at hi;omega),i8,i9⟩,by dsimp only;omega,⟨rfl,rfl,rfl,rfl⟩,.refl _⟩
   have hkk:k+k2=l.length:=by omega
   rw[hkk,List.take_of_length_le (Nat.le_refl _)]at i6
   refine wf ?_
   refine s_cutRow kk l.length rfl (by omega) (Nat.le_refl _) (by omega) hlc (fun o e=>by cases e;exact⟨_,rfl⟩) (by simp) (by simp) (fun _=>rfl) ?_
   refine s_clearRow (E:=29) (cur:=cur1) (L':=LF) zero37 (fun x=> [x]++LF) rfl (by omega) (by omega) (.refl _) (fun _=> .refl _) fun zs hzs=>?_
   refine pops_nil ?_
   refine pwp_seq ?_
   refine pwp_region (by kernel_rfl) ?_
   refine s_moveN (by(conv=>lhs;whnf);done) ?_
   refine s_moveN (by(conv=>lhs;whnf);done) ?_
   refine s_cutRow 0 kk rfl (by omega) (by omega) (by omega) hlc (by simp) (fun _=>rfl) (fun o e=>by cases e;exact⟨_,rfl⟩) (by simp) ?_
   refine s_assign ?_
   refine pops_nil ?_
   have hlk:(l1.take kk).length=kk:=by rw[List.length_take,Nat.min_eq_left (by omega)]
   have hrow:RowL vDig 29 32 (.slice (some ⟨r,0,none⟩) (l1.take kk).length c) (l1.take kk) [.raw r (.cells (cur1.toList.take (0+kk*32)++zs++cur1.toList.drop (0+kk*32+(l.length - kk)*32)).toArray 29 (0,0))]:=by
    refine RowL.mk (rest:=zs++cur1.toList.drop (0+kk*32+(l.length - kk)*32)) vDig_len ?_ ?_ (by rw[hlk];omega)
    ·simp only[List.append_assoc]
     rw[Nat.zero_add,i8,take_rows l1 kk (by omega)]
    ·simp only[List.size_toArray,List.length_append,List.length_take,List.length_drop,Array.length_toList,hzs]
     omega
   refine pwp_freezeRow (f:=eDig) 2 hrow (hmx _ (by rw[hlk];omega)) (.refl _) (by
    show PV.raw (Value.slice (some ⟨r,0+0*32,none⟩) (kk - 0) (c - 0))=_
    rw[hlk];simp) ?_
   refine wf ?_
   exact⟨trivial,_,[],.cons (.tmp 2) .nil,.refl _,by rw[←i6];exact⟨rfl,rfl⟩⟩
  ·rw[if_neg h2]at hd
   refine wf ?_
   refine⟨k+1,⟨by omega,by omega,?_⟩,by dsimp only;omega,⟨rfl,rfl⟩,.refl _⟩
   rw[hd,he,←List.take_succ_eq_append_getElem hlt]
 have hkk:k=l.length:=by omega
 rw[List.take_of_length_le (by omega)]at he
 refine pwp_exit ?_
 refine pwp_seq ?_
 refine pwp_region (by kernel_rfl) ?_
 refine s_moveN (by(conv=>lhs;whnf);done) ?_
 refine s_assign ?_
 refine pops_nil ?_
 refine pwp_freezeRow (f:=eDig) 2 hv (hmx l (Nat.le_refl _)) (.refl _) rfl ?_
 refine wf ?_
 exact⟨trivial,_,[],.cons (.tmp 2) .nil,.refl _,by rw[he];exact⟨rfl,rfl⟩⟩
end Go.Proofs
namespace Go.Q
open Go Go.Proofs Go.Sort
theorem flatMap_at {α:Type} {k:Nat} (hk0:0 < k) {enc:α→List Value} (hk: ∀ x,(enc x).length=k): ∀ (l:List α) (t:Nat),(l.flatMap enc)[t]? =(l[t / k]?).bind fun x=>(enc x)[t % k]?
 | [],t=>by simp
 |x::l,t=>by
  rw[List.flatMap_cons]
  by_cases h:t < k
  ·rw[List.getElem?_append_left (by rw[hk];exact h),Nat.div_eq_of_lt h,Nat.mod_eq_of_lt h]
   simp
  ·rw[List.getElem?_append_right (by rw[hk];omega),hk,flatMap_at hk0 hk l (t - k)]
   have e1:t / k=(t - k) / k+1:=by
    rw[Nat.div_eq_sub_div hk0 (by omega)]
   have e2:t % k=(t - k) % k:=Nat.mod_eq_sub_mod (by omega)
   rw[e1,e2]
   simp
theorem flatK_eq {α:Type} [Inhabited α] {k:Nat} (hk0:0 < k) {enc:α→List Value} (hk: ∀ x,(enc x).length=k) (l:List α):(flatK enc k l.toArray).toList=l.flatMap enc:=by
 refine List.ext_getElem? fun t=>?_
 rw[flatMap_at hk0 hk]
 by_cases h:t < l.length*k
 ·have h1:t / k < l.length:=Nat.div_lt_of_lt_mul (by rw[Nat.mul_comm];exact h)
  have h2:t % k < k:=Nat.mod_lt _ hk0
  have h3:t < (flatK enc k l.toArray).toList.length:=by simpa using h
  rw[List.getElem?_eq_getElem h3,List.getElem?_eq_getElem h1]
  simp only[Option.bind_some]
  rw[List.getElem?_eq_getElem (by rw[hk];exact h2)]
  congr 1
  have:=get_flatK enc k l.toArray t (by simpa using h)
  simp only[Array.getElem_toList]
  rw[getElem!_pos _ t (by simpa using h)]at this
  rw[this]
  simp[h1,getElem!_pos,hk,h2]
 ·rw[List.getElem?_eq_none (by simpa using h)]
  have: ¬t / k < l.length:=fun h'=>h (by
   have:=Nat.lt_mul_of_div_lt h' hk0
   first|exact this|(rw[Nat.mul_comm];exact this))
  rw[List.getElem?_eq_none (by omega)]
  rfl
section
variable {α:Type} [Inhabited α] {enc:α→List Value} {k:Nat} {w:World} {r:Nat} {cur:Array Value} {E:Nat}
theorem sortWorld_row (h:w.heap[r]? =some (.cells cur E (0,0))) (m:Nat) (dk:Array α) (os:Array Obj):(sortWorldK enc k w r 0 m dk os).heap[r]? =some (.cells (putCells id 0 (flatK enc k dk) cur) E (0,0)):=by
 have hlt:=(Array.getElem?_eq_some_iff.1 h).1
 show((w.heap.modify r (onCells (putCells id 0 (flatK enc k dk))))++os)[r]? =_
 rw[Array.getElem?_append_left (by simpa using hlt),Array.getElem?_modify,if_pos rfl,h]
 rfl
theorem sortWorld_other (m:Nat) (dk:Array α) (os:Array Obj): ∀ b,b < w.heap.size→b≠r→(sortWorldK enc k w r 0 m dk os).heap[b]? =w.heap[b]?:=fun b hb hn=>by
 show((w.heap.modify r (onCells (putCells id 0 (flatK enc k dk))))++os)[b]? =_
 rw[Array.getElem?_append_left (by simpa using hb),Array.getElem?_modify,if_neg (Ne.symm hn)]
theorem sortWorld_size (m:Nat) (dk:Array α) (os:Array Obj):w.heap.size≤(sortWorldK enc k w r 0 m dk os).heap.size:=by
 show _≤((w.heap.modify r (onCells (putCells id 0 (flatK enc k dk))))++os).size
 simp
theorem putCells_take (F:Array Value) (h:F.size≤cur.size):(putCells id 0 F cur).toList.take F.size=F.toList:=by
 refine List.ext_getElem (by simp[putCells];omega) fun j h1 h2=>?_
 have hj:j < F.size:=by simpa using h2
 simp[putCells,hj]
end
theorem Inv.laterBut {w w':World} {g:Gh} {L:List Res} {r:Nat} (hi:Inv w g L) (hH: ∀ o,g.H r o=none) (hM:g.M r=none) (hr:r∉blocks L) (hk: ∀ k,k < w.heap.size→k≠r→w'.heap[k]? =w.heap[k]?):Inv w' g L:=by
 refine⟨fun b i v h=>?_,fun b z h=>(hi.satM b z h).congr (hk b (hi.satM b z h).lt (fun e=>by rw[e,hM]at h;cases h)),fun r' hr'=>?_,hi.nodup,hi.glob⟩
 ·have h0:=hi.sat b i v h
  have hb:b < w.heap.size:=by
   rcases Nat.lt_or_ge b w.heap.size with h'|h'
   ·exact h'
   ·simp[World.cell?,Array.getElem?_eq_none h']at h0
  simp only[World.cell?]at h0 ⊢
  rw[hk b hb (fun e=>by rw[e,hH]at h;cases h)];exact h0
 ·exact Res.holds_kept (.refl g) (hi.res r' hr') fun b hb=>⟨hk b (hi.lt (List.mem_filterMap.2 ⟨r',hr',hb⟩)) (fun e=>hr (List.mem_filterMap.2 ⟨r',hr',by rw[hb,e]⟩)),fun _=>rfl,rfl⟩
theorem grown_eq {w w':World} (h1:w'.os=w.os) (h2:w'.tape=w.tape) (h3:w'.output=w.output) (h4:w.drawn≤w'.drawn) (h5:w.heap.size≤w'.heap.size) (hk: ∀ k,k < w.heap.size→w'.heap[k]? =w.heap[k]?): ∃ q os,w'=grow (w.drewN q) os:=by
 refine⟨w'.drawn - w.drawn,w'.heap.extract w.heap.size w'.heap.size,?_⟩
 have hh:w'.heap=w.heap++w'.heap.extract w.heap.size w'.heap.size:=by
  refine Array.ext_getElem? fun i=>?_
  by_cases hi:i < w.heap.size
  ·rw[Array.getElem?_append_left hi,hk i hi]
  ·rw[Array.getElem?_append_right (by omega)]
   by_cases h6:i < w'.heap.size
   ·rw[Array.getElem?_eq_getElem h6,Array.getElem?_eq_getElem (by simp;omega)]
    simp
    congr 1
    omega
   ·rw[Array.getElem?_eq_none (by omega),Array.getElem?_eq_none (by simp;omega)]
 have hd:w'.drawn=w.drawn+(w'.drawn - w.drawn):=by omega
 obtain⟨⟩:=w'
 obtain⟨⟩:=w
 simp only at h1 h2 h3 hh hd
 subst h1 h2 h3
 simp only[grow,World.drewN]
 rw[←hh,←hd]
end Go.Q
namespace Go.Proofs
open Go Go.Q Go.Shelf Go.Sort
attribute [local irreducible] pwp pops OpN
instance :Inhabited Dig:=⟨Dig.zero⟩
theorem swoD:SWO (ltOf cmpD) where
 irrefl x:=by
  unfold ltOf
  exact decide_eq_false (fun h=>Dig.lt_irrefl x h)
 trans x y z h1 h2:=by
  unfold ltOf at*
  exact decide_eq_true (Dig.lt_trans (of_decide_eq_true h1) (of_decide_eq_true h2))
 ntrans x y z h1 h2:=by
  unfold ltOf at*
  refine decide_eq_false fun h=>?_
  have h1:=of_decide_eq_false h1
  have h2:=of_decide_eq_false h2
  rcases Dig.tri x y with h'|h'|h'
  ·exact h1 h'
  ·subst h';exact h2 h
  ·rcases Dig.tri y z with h3|h3|h3
   ·exact h2 h3
   ·subst h3;exact h1 h
   ·exact Dig.lt_irrefl x (Dig.lt_trans h (Dig.lt_trans h3 h'))
def sortD (l:List Dig):List Dig:=l.mergeSort fun x y=>!(ltOf cmpD) y x
theorem cmp_lays {w:World} {g:Gh} {r n E:Nat} {cur:Array Value} (hi:Inv w g []) (h1:w.heap[r]? =some (.cells cur E (0,0))) (h2: ∀ o,g.H r o=none) (h3:g.M r=none):CmpLays Tryz.prog 60 #[] vDig 32 cmpD r 0 n w:=by
 intro m os dk hdk x y
 have hI:Inv (sortWorldK vDig 32 w r 0 m dk os) g []:=hi.laterBut h2 h3 (by simp[blocks]) (fun k hk hn=>sortWorld_other m dk os k hk hn)
 have hv:VRl g [.agg (vDig x).toArray,.agg (vDig y).toArray] [.agg (eDig x),.agg (eDig y)]:=by
  have e: ∀ d:Dig,VR g (.agg (vDig d).toArray) (.agg (eDig d)):=fun d=>by
   rw[(inferInstance:RawE eDig vDig).out]
   have:VRl g (vDig d) ((vDig d).map PV.raw):=⟨by simp,fun i h1 h2=>by simp;exact .raw _⟩
   exact this.agg
  exact .cons (e x) (.cons (e y) (.nil g))
 have:=(pCompare_ct x y).out _ (sortWorldK vDig 32 w r 0 m dk os) g [] hv hI
 refine Calls.mono this ?_
 rintro e w' ⟨v,x',g',L',rfl,k1,k2,k3,k4,rfl,rfl⟩
 refine⟨by rw[k1.raw_inv],?_⟩
 exact grown_eq k3.os k3.tape k3.output.1 k3.output.2 k3.size (fun k hk=>k3.keep k hk (by simp[blocks]))
theorem sort_fn (l:List Dig) (v:Value) (R:List Res) (hv:DRow v l R) (hl:l.length≤1000000):PCalls Tryz.prog 59 [.raw v,.raw (.func (.func 60) #[] #[])] R (fun _ L'=> ∃ v',v'=v∧DRow v' (sortD l) L'):=fun vs w g LF hvs hi=>by
 obtain⟨v1,v2,rfl⟩: ∃ a b,vs= [a,b]:=by
  have:=hvs.len
  match vs,this with
  | [a,b],_=>exact⟨a,b,rfl⟩
 rw[hvs.uncons.1.raw_inv,hvs.uncons.2.uncons.1.raw_inv]
 obtain⟨o,c,rfl⟩:=hv.slice
 by_cases hne:l= []
 ·subst hne
  refine(AnyF.slices_SortFunc_none Tryz.sortD o c _ w).mono ?_
  rintro e w' ⟨rfl,rfl⟩
  exact⟨_,.raw (.tuple #[]),g,R,rfl,.raw _,hi,.refl _ _ _,.refl _ _,_,rfl,by simpa [sortD]using hv⟩
 obtain⟨_,r,cur,rest,rfl,rfl,hcur,hsz,hlc⟩:=hv.inv hne
 obtain⟨k1,k2,k3,k4,k5⟩:=hi.rawHead
 have hlt:r < w.heap.size:=(Array.getElem?_eq_some_iff.1 k1).1
 have hF:(flatK vDig 32 l.toArray).toList=l.flatMap vDig:=flatK_eq (by decide) vDig_len l
 have hH:HoldsK vDig 32 w r 0 l.toArray:=fun j hj=>by
  have hj2:j < l.length*32:=by simpa using hj
  refine⟨?_,by simp[World.frozen?,k1]⟩
  have hj3:j < cur.size:=by omega
  simp only[World.cell?,k1,Option.isSome_none,Bool.false_eq_true,if_false,Nat.zero_add]
  rw[getElem!_pos _ j hj]
  have e1:cur.toList[j]? =(flatK vDig 32 l.toArray).toList[j]?:=by
   rw[hcur,hF,List.getElem?_append_left (by rw[len_raws (f:=eDig) (sz:=32)];exact hj2)]
  rw[Array.getElem?_toList,Array.getElem?_toList,Array.getElem?_eq_getElem hj]at e1
  exact e1
 refine(AnyQ.slices_SortFunc_total Tryz.sortD 32 (fun w=>?_) (fun w=>TSz.run (inferInstance:TSz Tryz.prog 29 32 32) w) vDig vDig_len (fun x v h=>(inferInstance:RawE eDig vDig).one x v h) cmpD swoD 60 #[] r 0 c l.toArray w (fun args w=>(inferInstance:TFun Tryz.prog 60).out args w) (cmp_lays (hi.sub (List.nil_sublist _)) k1 k2 k3) hH hlt (by simp;omega) ?_).mono ?_
 ·have hu:Tryz.prog.underlying 29=some (.array 32 5):=by kernel_rfl
  show(isAgg 29).run Tryz.prog w=_
  simp[isAgg,run_underlying hu]
 ·intro x y h1 h2
  unfold ltOf at h1 h2
  have h1:=of_decide_eq_false h1
  have h2:=of_decide_eq_false h2
  rcases Dig.tri x y with h'|h'|h'
  ·exact absurd h' h1
  ·exact h'
  ·exact absurd h' h2
 ·rintro e w' ⟨rfl,n,os,rfl⟩
  have hlen:(sortD l).length=l.length:=List.length_mergeSort _
  have hFs:(flatK vDig 32 (sortD l).toArray).toList=(sortD l).flatMap vDig:=flatK_eq (by decide) vDig_len (sortD l)
  have hFz:(flatK vDig 32 (sortD l).toArray).size=l.length*32:=by simp[hlen]
  have htk:=putCells_take (cur:=cur) (flatK vDig 32 (sortD l).toArray) (by omega)
  have hrow:RowL vDig 29 32 (.slice (some ⟨r,0,none⟩) (sortD l).length c) (sortD l) [.raw r (.cells (putCells id 0 (flatK vDig 32 (sortD l).toArray) cur) 29 (0,0))]:=by
   refine RowL.mk (rest:=(putCells id 0 (flatK vDig 32 (sortD l).toArray) cur).toList.drop (l.length*32)) vDig_len ?_ (by simp[putCells,hsz]) (by omega)
   rw[←hFs,←htk,hFz,List.take_append_drop]
  rw[hlen]at hrow
  refine⟨_,.raw (.tuple #[]),g,[.raw r (.cells (putCells id 0 (flatK vDig 32 (sortD l).toArray) cur) 29 (0,0))],rfl,.raw _,?_,⟨rfl,rfl,⟨rfl,Nat.le_add_right _ _⟩,sortWorld_size n _ os,fun b hb hn=>sortWorld_other n _ os b hb (fun e=>hn (by rw[e];simp[blocks,Res.block])),.refl g,fun _ _ _=>⟨fun _=>rfl,rfl⟩⟩,fun b hb _=>by simpa [blocks,Res.block]using hb,_,rfl,hrow⟩
  exact(k5.laterBut k2 k3 k4 (fun k hk hn=>sortWorld_other n _ os k hk hn)).addRaw (sortWorld_row k1 n _ os) k2 k3 k4
end Go.Proofs
namespace Go.Proofs
open Go Go.Q
attribute [local irreducible] pwp pops PCalls OpN
def fgn (rs:List Rfc):List Dig:=(rs.filter fun r=>!decide (r.id.patch=Dig.zero)).map (·.id.patch)
theorem fgn_append (a b:List Rfc):fgn (a++b)=fgn a++fgn b:=by simp[fgn]
theorem fgn_take {rs:List Rfc} {j:Nat} (h:j < rs.length):fgn (rs.take (j+1))=fgn (rs.take j)++(if rs[j].id.patch=Dig.zero then []else [rs[j].id.patch]):=by
 rw[List.take_succ_eq_append_getElem h,fgn_append]
 congr 1
 unfold fgn
 by_cases e:rs[j].id.patch=Dig.zero<;>simp[e]
def nList (p:Pat):List Dig:=p.deps++p.changes.flatMap fun c=>fgn (refsP c)
def nP (p:Pat):List Dig:=if(rEncodeP p).2≠0 then []else ded (sortD (nList p))
set_option maxHeartbeats 1000000 in
theorem needsP_fn (p:Pat) [hs:Small (rBig p=false)]:FnC Tryz.prog 18 [.agg (ePat p)] (.slice ((nP p).map eDig) .ro):=⟨by
 obtain⟨hg1,hg2,hg3,hg4,hg5⟩:=big_facts hs.out
 refine fn_of Tryz.func18 Tryz.ntmps18 rfl (rs:= [.tmp 2]) rfl rfl fun hb LF=>?_
 refine wf ?_
 refine pwp_condN (fun h1=>?_) (fun h1=>?_)
 ·refine wf ?_
  refine end1 (.ros ?_)
  rw[nP,if_pos h1];rfl
 refine wf ?_
 refine s_callR (xs:= [.tmp 12]) [] LF (f:=21) (cs:= []) (le_func _) rfl rfl (.refl _) _ (cloneD_fn p.deps .ro (by omega)) fun r L1 ⟨v0,hr,hv0⟩=>?_
 subst hr
 refine wf ?_
 refine wf ?_
 refine pwp_loopS (σ:=Nat × Value × List Dig × List Res) (fun k=>k.1≤p.changes.length∧k.2.2.1.length≤200+k.1*404∧k.2.2.1=p.deps++(p.changes.take k.1).flatMap (fun c=>fgn (refsP c))∧DRow k.2.1 k.2.2.1 k.2.2.2) (fun k=>p.changes.length - k.1) (fun k=> [(3,.raw k.2.1),(15,.slice (p.changes.map eChg) .ro),(16,.raw (.int .i64 p.changes.length)),(17,.raw (.int .i64 k.1))]) (fun k=>k.2.2.2++LF) (0,v0,p.deps,L1) ⟨by simp,by simpa using hg3,by simp,hv0⟩ ⟨rfl,rfl,rfl,rfl⟩ (.refl _) ?_
 rintro⟨k,v,l,R⟩ ⟨hk,hlen,hl,hv⟩
 dsimp only at hk hlen hl hv
 refine wf ?_
 refine pwp_condD (fun hc=>?_) (fun hc=>?_)
 ·have hlt:k < p.changes.length:=by omega
  have hov:=(hg5 _ (List.getElem_mem hlt)).over
  have i1:Small (p.changes[k].over.length≤400):=⟨by omega⟩
  have hrl:=refsP_len (c:=p.changes[k]) (by omega)
  refine wz fun b5=>?_
  refine pwp_freezeD 5 ?_
  refine wf ?_
  refine pwp_loopS (σ:=Nat × Value × List Dig × List Res) (fun j=>j.1≤(refsP p.changes[k]).length∧j.2.2.1.length≤200+k*404+j.1∧j.2.2.1=l++fgn ((refsP p.changes[k]).take j.1)∧DRow j.2.1 j.2.2.1 j.2.2.2) (fun j=>(refsP p.changes[k]).length - j.1) (fun j=> [(3,.raw j.2.1),(15,.slice (p.changes.map eChg) .ro),(16,.raw (.int .i64 p.changes.length)),(17,.raw (.int .i64 k)),(22,.slice ((refsP p.changes[k]).map eRfc) .ro),(23,.raw (.int .i64 (refsP p.changes[k]).length)),(24,.raw (.int .i64 j.1))]) (fun j=>j.2.2.2++LF) (0,v,l,R) ⟨by simp,by simpa using hlen,by simp[fgn],hv⟩ ⟨rfl,rfl,rfl,rfl,rfl,rfl,rfl⟩ (.refl _) ?_
  rintro⟨j,v1,l1,R1⟩ ⟨hj,hlen1,hl1,hv1⟩
  dsimp only at hj hlen1 hl1 hv1
  refine wf ?_
  refine pwp_condD (fun hd=>?_) (fun hd=>?_)
  ·have hjt:j < (refsP p.changes[k]).length:=by omega
   have ht:=fgn_take hjt
   refine wz fun b7=>?_
   refine pwp_freezeD 7 ?_
   refine wf ?_
   refine pwp_condN (fun h2=>?_) (fun h2=>?_)
   ·rw[if_neg h2]at ht
    refine wf ?_
    refine s_appRow (f:=eDig) (m:= [(refsP p.changes[k])[j].id.patch]) (R:=R1) (LF:=LF) (fun R'=>R'++LF) rfl rfl hv1 (.refl _) (fun R'=> .refl _) (by simp only[List.length_cons,List.length_nil];omega) (by simp only[List.length_cons,List.length_nil];omega) fun v2 R2 hv2=>?_
    refine wf ?_
    refine wf ?_
    refine⟨(j+1,v2,l1++ [(refsP p.changes[k])[j].id.patch],R2),⟨by dsimp only;omega,by simp only[List.length_append,List.length_cons,List.length_nil];omega,?_,hv2⟩,by dsimp only;omega,⟨rfl,rfl,rfl,rfl,rfl,rfl,rfl⟩,.refl _⟩
    dsimp only
    rw[ht,←List.append_assoc,hl1]
   ·rw[if_pos h2,List.append_nil]at ht
    refine wf ?_
    refine⟨(j+1,v1,l1,R1),⟨by dsimp only;omega,by dsimp only;omega,?_,hv1⟩,by dsimp only;omega,⟨rfl,rfl,rfl,rfl,rfl,rfl,rfl⟩,.refl _⟩
    dsimp only
    rw[ht,hl1]
  ·rw[List.take_of_length_le (by omega)]at hl1
   refine wf ?_
   refine⟨(k+1,v1,l1,R1),⟨by dsimp only;omega,by dsimp only;omega,?_,hv1⟩,by dsimp only;omega,⟨rfl,rfl,rfl,rfl⟩,.refl _⟩
   dsimp only
   rw[hl1,hl,List.take_succ_eq_append_getElem hlt,List.flatMap_append,List.append_assoc]
   simp
 rw[List.take_of_length_le (by omega)]at hl
 have hl':l=nList p:=hl
 have hsl:(sortD l).length=l.length:=List.length_mergeSort _
 refine wf ?_
 refine s_callR (xs:= [.tmp 40,.func 60]) R LF (f:=59) (cs:= []) (le_func _) rfl rfl (.refl _) _ (sort_fn l v R hv (by omega)) fun r L2 ⟨v2,e2,hv2⟩=>?_
 subst e2
 refine wf ?_
 refine wf ?_
 refine s_callR (xs:= [.tmp 42]) L2 LF (f:=61) (cs:= []) (le_func _) rfl rfl (.refl _) _ (compact_fn (sortD l) v2 L2 hv2 (by omega)) fun r L3 ⟨hr,hL3⟩=>?_
 subst hr
 subst hL3
 refine wf ?_
 refine wf ?_
 refine end1 (.ros ?_)
 rw[nP,if_neg (by simp[h1]),←hl']⟩
end Go.Proofs
namespace Go.Proofs
open Go Go.Q Go.Sort
theorem sortD_sorted (l:List Dig):(sortD l).Pairwise fun x y=> ¬Dig.lt y x:=by
 have h:=List.pairwise_mergeSort (le:=fun x y=>!(ltOf cmpD) y x) (fun a b c h1 h2=>by
  simp only[Bool.not_eq_true',ltOf,decide_eq_false_iff_not]at h1 h2 ⊢
  intro h3
  have h1: ¬Dig.lt b a:=h1
  have h2: ¬Dig.lt c b:=h2
  have h3:Dig.lt c a:=h3
  rcases Dig.tri a b with h|h|h
  ·exact h2 (Dig.lt_trans h3 h)
  ·subst h;exact h2 h3
  ·exact h1 h) (fun a b=>by
  simp only[Bool.or_eq_true,Bool.not_eq_true',ltOf,decide_eq_false_iff_not]
  by_cases h:Dig.lt b a
  ·exact .inr (Dig.lt_asymm h)
  ·exact .inl h) l
 refine h.imp fun {a b} hab=>?_
 simp only[Bool.not_eq_true',ltOf,decide_eq_false_iff_not]at hab
 exact hab
theorem ded_facts {l:List Dig} (h:l.Pairwise fun x y=> ¬Dig.lt y x): ∀ j,j≤l.length→Asc (ded (l.take j))∧ ∀ d,d∈ded (l.take j)↔d∈l.take j:=by
 intro j
 induction j with
 |zero=>intro _;exact⟨Asc.nil,fun d=>by simp[ded]⟩
 |succ j ih=>
  intro hj
  obtain⟨i1,i2⟩:=ih (by omega)
  have hlt:j < l.length:=by omega
  by_cases h0:j=0
  ·subst h0
   have e:l.take 1= [l[0]]:=by
    rw[List.take_succ_eq_append_getElem hlt];rfl
   rw[e]
   exact⟨List.pairwise_singleton _ _,fun d=>Iff.rfl⟩
  rw[ded_take (by omega) hlt]
  by_cases e:l[j]=l[j - 1]
  ·rw[if_pos e]
   refine⟨i1,fun d=>?_⟩
   rw[i2,List.take_succ_eq_append_getElem hlt]
   simp only[List.mem_append,List.mem_singleton]
   refine⟨.inl,fun h=>h.elim id fun h=>?_⟩
   rw[h,e]
   exact List.mem_take_iff_getElem.2 ⟨j - 1,by omega,rfl⟩
  ·rw[if_neg e]
   refine⟨?_,fun d=>?_⟩
   ·refine List.pairwise_append.2 ⟨i1,List.pairwise_singleton _ _,fun a ha b hb=>?_⟩
    rw[List.mem_singleton.1 hb]
    obtain⟨i,hi,rfl⟩:=List.mem_take_iff_getElem.1 ((i2 a).1 ha)
    have hp:=List.pairwise_iff_getElem.1 h
    have h3: ¬Dig.lt l[j] l[j - 1]:=hp (j - 1) j (by omega) hlt (by omega)
    have h4:Dig.lt l[j - 1] l[j]:=by
     rcases Dig.tri l[j - 1] l[j]with h'|h'|h'
     ·exact h'
     ·exact absurd h'.symm e
     ·exact absurd h' h3
    by_cases h5:i=j - 1
    ·subst h5;exact h4
    ·have h6: ¬Dig.lt l[j - 1] l[i]:=hp i (j - 1) (by omega) (by omega) (by omega)
     rcases Dig.tri l[i] l[j - 1]with h'|h'|h'
     ·exact Dig.lt_trans h' h4
     ·rw[h'];exact h4
     ·exact absurd h' h6
   ·rw[List.take_succ_eq_append_getElem hlt]
    simp only[List.mem_append,i2]
theorem nS_asc (l:List Dig):Asc (ded (sortD l)):=by
 have:=(ded_facts (sortD_sorted l) (sortD l).length (Nat.le_refl _)).1
 rwa [List.take_length]at this
theorem nS_mem (l:List Dig) (d:Dig):d∈ded (sortD l)↔d∈l:=by
 have:=(ded_facts (sortD_sorted l) (sortD l).length (Nat.le_refl _)).2 d
 rw[List.take_length]at this
 rw[this]
 exact List.mem_mergeSort
theorem mem_rForeign {l:List Ident} {d:Dig}:d∈rForeign l↔ ∃ x∈l,x.patch≠Dig.zero∧x.patch=d:=by
 unfold rForeign
 simp only[List.mem_map,List.mem_filter,Bool.not_eq_true',decide_eq_false_iff_not]
 constructor
 ·rintro⟨x,⟨h1,h2⟩,h3⟩;exact⟨x,h1,h2,h3⟩
 ·rintro⟨x,h1,h2,h3⟩;exact⟨x,⟨h1,h2⟩,h3⟩
theorem fgn_eq (rs:List Rfc):fgn rs=rForeign (rs.map Rfc.id):=by
 unfold fgn rForeign
 rw[List.filter_map,List.map_map]
 rfl
theorem unused {c:Chg} (h:rFields c=0):(¬(2≤c.kind∧c.kind≤6)→c.file=Ident.zero)∧(c.kind≠2→c.parent=Ident.zero)∧(¬(c.kind=5∨c.kind=6)→c.after=Ident.zero∧c.before=Ident.zero):=by
 unfold rFields at h
 split at h
 ·omega
 split at h
 ·omega
 rename_i h2
 simp only[Bool.not_eq_false,rEmpty,Bool.and_eq_true,decide_eq_true_eq]at h2
 obtain⟨⟨⟨⟨⟨⟨⟨⟨⟨a1,_⟩,a2⟩,_⟩,_⟩,_⟩,a3⟩,a4⟩,_⟩,_⟩:=h2
 refine⟨fun h=>?_,fun h=>?_,fun h=>⟨?_,?_⟩⟩
 ·have a:(if 2≤c.kind∧c.kind≤6 then Ident.zero else c.file)=Ident.zero:=a1
  rwa [if_neg h]at a
 ·have a:(if c.kind=2 then Ident.zero else c.parent)=Ident.zero:=a2
  rwa [if_neg h]at a
 ·have a:(if c.kind=5∨c.kind=6 then Ident.zero else c.after)=Ident.zero:=a3
  rwa [if_neg h]at a
 ·have a:(if c.kind=5∨c.kind=6 then Ident.zero else c.before)=Ident.zero:=a4
  rwa [if_neg h]at a
theorem refs_mem {c:Chg} (h:rFields c=0) (d:Dig):d∈fgn (refsP c)↔d∈rForeign (rIds c):=by
 obtain⟨u1,u2,u3⟩:=unused h
 have hz:Ident.zero.patch=Dig.zero:=rfl
 rw[fgn_eq,mem_rForeign,mem_rForeign]
 have key: ∀ x:Ident,x.patch≠Dig.zero→(x∈(refsP c).map Rfc.id↔x∈rIds c):=fun x hx=>by
  have hk:=rFields_kind h
  have e4: ∀ l:List Ident,(refs4 c l).map Rfc.id=l:=fun l=>by
   rw[refs4,List.map_map]
   show l.map (fun x=>x)=l
   simp
  unfold refsP rIds
  simp only[List.map_append,e4,List.mem_append,List.mem_cons,List.not_mem_nil,or_false]
  have n1:x=Ident.zero→False:=fun e=>hx (by rw[e];rfl)
  have n2:x=⟨Dig.zero,-1⟩→False:=fun e=>hx (by rw[e])
  rcases kinds hk with k|k|k|k|k|k|k<;>simp only[refs1,refs2,refs3,k]at u1 u2 u3 ⊢ <;>simp<;>grind
 constructor
 ·rintro⟨x,h1,h2,h3⟩;exact⟨x,(key x h2).1 h1,h2,h3⟩
 ·rintro⟨x,h1,h2,h3⟩;exact⟨x,(key x h2).2 h1,h2,h3⟩
theorem rChanges_fields: ∀ (l:List Chg) (own:List Atm),(rChanges l own).2=0→ ∀ c∈l,rFields c=0
 | [],_,_,c,hc=>by cases hc
 |x::l,own,h,c,hc=>by
  rw[rChanges]at h
  split at h
  ·rename_i h1;exact absurd h h1
  rename_i h1
  split at h
  ·rename_i h2;exact absurd h h2
  rcases List.mem_cons.1 hc with rfl|hc
  ·simpa using h1
  ·exact rChanges_fields l _ h c hc
theorem needs_mem: ∀ (cs:List Chg) (m:List Dig) (d:Dig),d∈cs.foldl rNeedsC m↔d∈m∨ ∃ c∈cs,d∈rForeign (rIds c)
 | [],m,d=>by simp
 |c::cs,m,d=>by
  rw[List.foldl_cons,needs_mem cs,rNeedsC,mem_withAll]
  simp only[List.mem_cons,exists_eq_or_imp,or_assoc]
theorem needs_asc: ∀ (cs:List Chg) (m:List Dig),Asc m→Asc (cs.foldl rNeedsC m)
 | [],m,h=>h
 |c::cs,m,h=>needs_asc cs _ (withAll_asc h)
theorem nP_eq (p:Pat):nP p=rNeeds p:=by
 unfold nP rNeeds
 by_cases h:(rEncodeP p).2≠0
 ·rw[if_pos h,if_pos h]
 rw[if_neg h,if_neg h]
 have h0:(rCheckP p).2=0:=by
  by_cases h1:(rCheckP p).2≠0
  ·rw[rEncodeP,if_pos h1]at h;exact absurd h1 h
  ·simpa using h1
 have hF: ∀ c∈p.changes,rFields c=0:=by
  rw[checkP_head]at h0
  split at h0
  ·rename_i h1;exact absurd h0 h1
  ·exact rChanges_fields _ _ h0
 refine Asc.ext (nS_asc _) (needs_asc _ _ (withAll_asc Asc.nil)) fun d=>?_
 rw[nS_mem,needs_mem,mem_withAll,nList]
 simp only[List.mem_append,List.mem_flatMap,List.not_mem_nil,false_or]
 constructor
 ·rintro(h|⟨c,hc,h⟩)
  ·exact .inl h
  ·exact .inr ⟨c,hc,(refs_mem (hF c hc) d).1 h⟩
 ·rintro(h|⟨c,hc,h⟩)
  ·exact .inl h
  ·exact .inr ⟨c,hc,(refs_mem (hF c hc) d).2 h⟩
instance NeedsP_ct (p:Pat) [hs:Small (rBig p=false)]:FnC Tryz.prog 18 [.agg (ePat p)] (.slice ((rNeeds p).map eDig) .ro):=nP_eq p ▸ needsP_fn p
end Go.Proofs
namespace Go.Proofs
open Go Go.Q
attribute [local irreducible] pwp pops PCalls OpN
def gr (s:List Sto):List (Dig × List Dig):=s.foldl (fun m x=>mSet x.id (rNeeds x.patch) m) []
theorem gr_take {s:List Sto} {k:Nat} (h:k < s.length):gr (s.take (k+1))=mSet s[k].id (rNeeds s[k].patch) (gr (s.take k)):=by
 rw[List.take_succ_eq_append_getElem h,gr,List.foldl_append];rfl
instance graphOf_ct (s:List Sto) (t:Tag) [hs:Small (goodS s)]:FnC Tryz.prog 50 [.slice (s.map eSto) t] (.fmap (eMap kDig (vSl eDig) (gr s))):=⟨by
 have hs:=hs.out
 refine fn_of Tryz.func50 Tryz.ntmps50 rfl (rs:= [.tmp 2]) rfl rfl fun hb LF=>?_
 refine wfm fun b=>?_
 refine pwp_loopS (σ:=Nat) (fun k=>k≤s.length) (fun k=>s.length - k) (fun k=> [(3,.raw (.map (some b))),(7,.slice (s.map eSto) t),(8,.raw (.int .i64 s.length)),(9,.raw (.int .i64 k))]) (fun k=> .map b (eMap kDig (vSl eDig) (gr (s.take k)))::LF) 0 (by simp) ⟨rfl,rfl,rfl,rfl⟩ (.refl _) ?_
 intro k hk
 refine wf ?_
 refine pwp_condD (fun hc=>?_) (fun hc=>?_)
 ·have hlt:k < s.length:=by omega
  have h8:=hs.1
  have:Small (rBig s[k].patch=false):=⟨hs.2 _ (List.getElem_mem hlt)⟩
  refine wz fun b5=>?_
  refine pwp_freezeD 5 ?_
  refine wn ?_
  refine pwp_drawN 6 ?_ ?_
  ·decide+kernel
  refine wf ?_
  refine⟨k+1,by omega,by dsimp only;omega,⟨rfl,rfl,rfl,rfl⟩,?_⟩
  dsimp only
  rw[gr_take hlt]
  exact .refl _
 ·refine pwp_exit ?_
  rw[List.take_of_length_le (by omega)]
  refine pwp_freezeM [(3,.fmap (eMap kDig (vSl eDig) (gr s)))] (.inr ⟨rfl,rfl⟩) (.refl _) ?_
  refine wf ?_
  exact end1 (.refl _)⟩
end Go.Proofs
namespace Go.Proofs
open Go Go.Q
attribute [local irreducible] pwp pops PCalls OpN
def addO (out l:List Dig):List Dig:=l.foldl (fun o d=>if d∈o then o else o++ [d]) out
theorem addO_take {out l:List Dig} {k:Nat} (h:k < l.length):addO out (l.take (k+1))=if l[k]∈addO out (l.take k)then addO out (l.take k)else addO out (l.take k)++ [l[k]]:=by
 rw[List.take_succ_eq_append_getElem h,addO,List.foldl_append];rfl
theorem addO_len (out:List Dig): ∀ l:List Dig,(addO out l).length≤out.length+l.length:=by
 intro l
 induction l generalizing out with
 |nil=>simp[addO]
 |cons x l ih=>
  have:=ih (if x∈out then out else out++ [x])
  rw[addO,List.foldl_cons]
  refine Nat.le_trans this ?_
  split<;>simp<;>omega
def MetOk (met:List (Dig × Bool)) (out:List Dig):Prop:= ∀ d,(mGet d met).getD false=decide (d∈out)
theorem MetOk.add {met:List (Dig × Bool)} {out:List Dig} (h:MetOk met out) (d:Dig):MetOk (mSet d true met) (out++ [d]):=fun x=>by
 rw[mGet_mSet]
 by_cases e:x=d
 ·subst e;simp
 ·rw[if_neg e,h x];simp[e]
def Coll (b6 m b7:Nat) (out:List Dig) (L:List Res):Prop:= ∃ met v R,MetOk met out∧DRow v out R∧L= .box b6 84 [.raw (.map (some m))]:: .map m (eMap kDig vBool met):: .box b7 24 [.raw v]::R
theorem perm_three {a b c:Res} {L LF:List Res}:(a::b::c::(L++LF)).Perm (L++(a::b::c::LF)):=((List.perm_middle (l₁:=L)).trans (.cons a ((List.perm_middle (l₁:=L)).trans (.cons b List.perm_middle)))).symm
def allG (G:List (Dig × List Dig)) (l:List Dig):Bool:=l.all fun d=>(mGet d G).isSome
set_option maxHeartbeats 400000 in
theorem coll_fn (G:List (Dig × List Dig)) (l:List Dig) (t:Tag) (b6 m b7:Nat) (out:List Dig) (L:List Res) (hL:Coll b6 m b7 out L) (hb:out.length+l.length≤1000):
  PCalls Tryz.prog 110 [.slice (l.map eDig) t,.pt [.fmap (eMap kDig (vSl eDig) G)] 0,.raw (.pointer (some ⟨b6,0,none⟩)),.raw (.pointer (some ⟨b7,0,none⟩))] L (fun r L'=>r= .raw (.bool (allG G l))∧ ∃ out',Coll b6 m b7 out' L'∧(allG G l=true→out'=addO out l)):=by
 refine pcalls_bd Tryz.func110 rfl Tryz.ntmps110 (rs:= [.tmp 5]) rfl rfl fun hbd LF=>?_
 refine wf ?_
 refine pwp_loopS (σ:=Nat × List Res) (fun k=>k.1≤l.length∧(∀ i (h:i < l.length),i < k.1→(mGet l[i] G).isSome=true)∧Coll b6 m b7 (addO out (l.take k.1)) k.2) (fun k=>l.length - k.1) (fun k=> [(1,.pt [.fmap (eMap kDig (vSl eDig) G)] 0),(2,.raw (.pointer (some ⟨b6,0,none⟩))),(3,.raw (.pointer (some ⟨b7,0,none⟩))),(10,.slice (l.map eDig) t),(11,.raw (.int .i64 l.length)),(12,.raw (.int .i64 k.1))]) (fun k=>k.2++LF) (0,L) ⟨by simp,by simp,hL⟩ ⟨rfl,rfl,rfl,rfl,rfl,rfl⟩ (.refl _) ?_
 rintro⟨k,L1⟩ ⟨hk,hall,met,v,R,hm,hv,rfl⟩
 dsimp only at hk hall hm hv ⊢
 refine wf ?_
 refine pwp_condD (fun hc=>?_) (fun hc=>?_)
 ·have hlt:k < l.length:=by omega
  refine wz fun b=>?_
  refine pwp_freezeD 7 ?_
  refine wf ?_
  refine pwp_condB (fun h=>?_) (fun h=>?_)
  ·have h0:(mGet l[k] G).isSome=false:=by simpa using h
   have hA:allG G l=false:=by
    unfold allG
    exact List.all_eq_false.2 ⟨l[k],List.getElem_mem hlt,by simp[h0]⟩
   refine wf ?_
   exact⟨trivial,_,_,.cons (.tmp 5) .nil,.refl _,by rw[hA];exact rfl,_,⟨met,v,R,hm,hv,rfl⟩,fun h=>by rw[hA]at h;cases h⟩
  have hi:(mGet l[k] G).isSome=true:=by simpa using h
  have hall': ∀ i (h:i < l.length),i < k+1→(mGet l[i] G).isSome=true:=fun i hi' hik=>by
   rcases Nat.lt_or_ge i k with h'|h'
   ·exact hall i hi' h'
   ·have e:i=k:=by omega
    subst e;exact hi
  refine wf ?_
  have hml:=hm l[k]
  have ht:=addO_take (out:=out) hlt
  refine pwp_condB (fun h=>?_) (fun h=>?_)
  ·have hno:l[k]∉addO out (l.take k):=by
    rw[hml]at h;simpa using h
   rw[if_neg hno]at ht
   have hol:=addO_len out (l.take k)
   rw[List.length_take]at hol
   refine wf ?_
   refine s_mapUpd (κ:=Dig) (ek:=kDig) (ev:=vBool) (k0:=l[k]) (x0:=true) (L':= .box b6 84 [.raw (.map (some m))]:: .box b7 24 [.raw v]::(R++LF)) rfl (.swap _ _ _) (.refl _) (.refl _) ?_
   refine pops_nil ?_
   refine pwp_perm (.swap _ _ _) ?_
   refine wf ?_
   refine s_appRow (f:=eDig) (m:= [l[k]]) (R:=R) (LF:= .box b6 84 [.raw (.map (some m))]:: .map m (eMap kDig vBool (mSet l[k] true met)):: .box b7 24 [.raw v]::LF) (fun R'=> .box b6 84 [.raw (.map (some m))]:: .map m (eMap kDig vBool (mSet l[k] true met)):: .box b7 24 [.raw v]::(R'++LF)) rfl rfl hv perm_three (fun R'=>perm_three.symm) (by simp only[List.length_cons,List.length_nil];omega) (by simp only[List.length_cons,List.length_nil];omega) fun v2 R2 hv2=>?_
   refine wf ?_
   refine s_storeV [.raw v2] rfl rfl hv2.one rfl (by simp) ?_
   refine wf ?_
   refine wf ?_
   refine⟨(k+1,_),⟨by dsimp only;omega,hall',mSet l[k] true met,v2,R2,?_,?_,rfl⟩,by dsimp only;omega,⟨rfl,rfl,rfl,rfl,rfl,rfl⟩,.refl _⟩
   ·dsimp only;rw[ht];exact hm.add _
   ·dsimp only;rw[ht];exact hv2
  ·have hyes:l[k]∈addO out (l.take k):=by
    rw[hml]at h;simpa using h
   rw[if_pos hyes]at ht
   refine wf ?_
   exact⟨(k+1,_),⟨by dsimp only;omega,hall',met,v,R,by dsimp only;rw[ht];exact hm,by dsimp only;rw[ht];exact hv,rfl⟩,by dsimp only;omega,⟨rfl,rfl,rfl,rfl,rfl,rfl⟩,.refl _⟩
 ·have hA:allG G l=true:=by
   unfold allG
   refine List.all_eq_true.2 fun d hd=>?_
   obtain⟨i,hi,rfl⟩:=List.mem_iff_getElem.1 hd
   exact hall i hi (by omega)
  refine wf ?_
  rw[List.take_of_length_le (by omega)]at hm hv
  exact⟨trivial,_,_,.cons (.tmp 5) .nil,.refl _,by rw[hA];exact rfl,_,⟨met,v,R,hm,hv,rfl⟩,fun _=>rfl⟩
end Go.Proofs
namespace Go.Proofs
open Go Go.Q
def ndG (G:List (Dig × List Dig)) (d:Dig):List Dig:=(mGet d G).getD []
theorem addO_cons (out:List Dig) (x:Dig) (l:List Dig):addO out (x::l)=addO (if x∈out then out else out++ [x]) l:=rfl
theorem mem_addO: ∀ {l out:List Dig} {d:Dig},d∈addO out l↔d∈out∨d∈l
 | [],out,d=>by simp[addO]
 |x::l,out,d=>by
  rw[addO_cons,mem_addO]
  split
  ·rename_i h
   constructor
   ·rintro(h1|h1)
    ·exact .inl h1
    ·exact .inr (List.mem_cons_of_mem _ h1)
   ·rintro(h1|h1)
    ·exact .inl h1
    ·rcases List.mem_cons.1 h1 with rfl|h1
     ·exact .inl h
     ·exact .inr h1
  ·simp[or_assoc]
theorem addO_nodup: ∀ {l out:List Dig},out.Nodup→(addO out l).Nodup
 | [],_,h=>h
 |x::l,out,h=>by
  rw[addO_cons]
  refine addO_nodup ?_
  split
  ·exact h
  ·rename_i hx
   refine List.pairwise_append.2 ⟨h,List.pairwise_singleton _ _,fun a ha b hb=>?_⟩
   rw[List.mem_singleton.1 hb]
   rintro rfl
   exact hx ha
theorem addO_prefix: ∀ {l out:List Dig},out <+:addO out l
 | [],_=>List.prefix_refl _
 |x::l,out=>by
  rw[addO_cons]
  refine List.IsPrefix.trans ?_ addO_prefix
  split
  ·exact List.prefix_refl _
  ·exact List.prefix_append _ _
structure ClI (nd:Dig→List Dig) (l out:List Dig) (i:Nat):Prop where
 nodup:out.Nodup
 sub: ∀ d∈l,d∈out
 reach: ∀ d∈out,Q.Reach nd l d
 done: ∀ j (h:j < out.length),j < i→ ∀ d∈nd out[j],d∈out
theorem ClI.start (nd:Dig→List Dig) (l:List Dig):ClI nd l (addO [] l) 0:=
 ⟨addO_nodup .nil,fun d hd=>mem_addO.2 (.inr hd),fun d hd=> .base ((mem_addO.1 hd).elim (fun h=>absurd h (by simp)) id),fun _ _ h=>absurd h (by omega)⟩
theorem ClI.step {nd:Dig→List Dig} {l out:List Dig} {i:Nat} (h:ClI nd l out i) (hi:i < out.length):ClI nd l (addO out (nd out[i])) (i+1):=by
 refine⟨addO_nodup h.nodup,fun d hd=>mem_addO.2 (.inl (h.sub d hd)),fun d hd=>?_,fun j hj hji d hd=>?_⟩
 ·rcases mem_addO.1 hd with h1|h1
  ·exact h.reach d h1
  ·exact .step (h.reach _ (List.getElem_mem hi)) h1
 ·have hjo:j < out.length:=by omega
  have e:(addO out (nd out[i]))[j]=out[j]:=(addO_prefix.getElem hjo).symm
  rw[e]at hd
  by_cases hj2:j < i
  ·exact mem_addO.2 (.inl (h.done j hjo hj2 d hd))
  ·have hje:j=i:=by omega
   subst hje
   exact mem_addO.2 (.inr hd)
theorem ClI.fin {nd:Dig→List Dig} {l out:List Dig} {i:Nat} (h:ClI nd l out i) (hi:out.length≤i) (d:Dig):d∈out↔Q.Reach nd l d:=by
 refine⟨h.reach d,fun hr=>?_⟩
 induction hr with
 |base hd=>exact h.sub _ hd
 |step _ hd ih=>
  obtain⟨j,hj,rfl⟩:=List.mem_iff_getElem.1 ih
  exact h.done j hj (by omega) _ hd
theorem ClI.len {nd:Dig→List Dig} {l out U:List Dig} {i:Nat} (h:ClI nd l out i) (hU: ∀ x∈U,∀ d∈nd x,d∈U) (hl: ∀ d∈l,d∈U):out.length≤U.length:=
 nodup_len h.nodup fun d hd=>(h.reach d hd).in_ hU hl
theorem sortD_asc {l:List Dig} (h:l.Nodup):Asc (sortD l):=by
 have h2:(sortD l).Nodup:=(List.mergeSort_perm l _).nodup_iff.2 h
 refine List.pairwise_iff_getElem.2 fun i j hi hj hij=>?_
 have a:=List.pairwise_iff_getElem.1 (sortD_sorted l) i j hi hj hij
 have b:=List.pairwise_iff_getElem.1 h2 i j hi hj hij
 rcases Dig.tri (sortD l)[i] (sortD l)[j]with h'|h'|h'
 ·exact h'
 ·exact absurd h' b
 ·exact absurd h' a
theorem sortD_mem {l:List Dig} {d:Dig}:d∈sortD l↔d∈l:=List.mem_mergeSort
theorem gr_is: ∀ (s:List Sto) (m:List (Dig × List Dig)) (d:Dig),(mGet d (s.foldl (fun m x=>mSet x.id (rNeeds x.patch) m) m)).isSome=(decide (d∈ids s)||(mGet d m).isSome)
 | [],m,d=>by simp[ids]
 |x::s,m,d=>by
  rw[List.foldl_cons,gr_is s,mGet_mSet]
  by_cases e:d=x.id<;>simp[ids,e]
theorem gr_val: ∀ (s:List Sto) (m:List (Dig × List Dig)) (d:Dig) (r:List Dig),mGet d (s.foldl (fun m x=>mSet x.id (rNeeds x.patch) m) m)=some r→(∃ x∈s,x.id=d∧r=rNeeds x.patch)∨mGet d m=some r
 | [],m,d,r,h=> .inr h
 |x::s,m,d,r,h=>by
  rw[List.foldl_cons]at h
  rcases gr_val s _ d r h with ⟨y,hy,h1,h2⟩|h1
  ·exact .inl ⟨y,List.mem_cons_of_mem _ hy,h1,h2⟩
  ·rw[mGet_mSet]at h1
   split at h1
   ·rename_i e
    exact .inl ⟨x,List.mem_cons_self,e.symm,(Option.some.inj h1).symm⟩
   ·exact .inr h1
theorem gr_some (s:List Sto) (d:Dig):(mGet d (gr s)).isSome=decide (d∈ids s):=by
 rw[gr,gr_is];simp[mGet]
theorem Valid.ndG {s:List Sto} (v:Valid s):Go.Proofs.ndG (gr s)=Go.Proofs.ndS s:=by
 funext d
 have h1:=gr_some s d
 unfold Go.Proofs.ndG
 cases hg:mGet d (gr s)with
 |none=>
  rw[hg]at h1
  have hd: ¬d∈ids s:=by simpa using h1
  have hn:Go.Proofs.getS s d=none:=by
   cases hs:Go.Proofs.getS s d with
   |none=>rfl
   |some p=>
    obtain⟨x,hx,e,_⟩:=getS_mem hs
    exact absurd (List.mem_map.2 ⟨x,hx,e⟩) hd
  rw[Go.Proofs.ndS,hn,Option.getD_none,Option.getD_none,needs_zero]
 |some r=>
  rcases gr_val s [] d r hg with ⟨x,hx,e,rfl⟩|h2
  ·subst e
   rw[v.ndS hx];rfl
  ·simp[mGet]at h2
end Go.Proofs
namespace Go.Proofs
open Go Go.Q
attribute [local irreducible] pwp pops PCalls OpN
def clG (G:List (Dig × List Dig)) (U l:List Dig):List Dig × Bool:=if allG G l=false then([],false)else(iterC (ndG G) U.length (withAll [] l),true)
structure GrOk (G:List (Dig × List Dig)) (U:List Dig):Prop where
 is: ∀ d,(mGet d G).isSome=decide (d∈U)
 len:U.length≤100
 cl: ∀ x∈U,∀ d∈ndG G x,d∈U
 nd: ∀ x,(ndG G x).length≤400
theorem GrOk.all {G:List (Dig × List Dig)} {U l:List Dig} (h:GrOk G U):allG G l=true↔ ∀ d∈l,d∈U:=by
 unfold allG
 rw[List.all_eq_true]
 exact⟨fun k d hd=>by have:=k d hd;rw[h.is]at this;exact of_decide_eq_true this,fun k d hd=>by rw[h.is];exact decide_eq_true (k d hd)⟩
theorem zeroRow:ZeroE Tryz.prog 24 [.raw (.slice none 0 0)]:=zero1 (v:= .slice none 0 0) (by kernel_rfl) rfl fun _=> .raw _
set_option maxHeartbeats 1000000 in
theorem reached_fn (G:List (Dig × List Dig)) (U:List Dig) (hG:GrOk G U) (l:List Dig) (t:Tag) (hl:l.length≤400):FnC Tryz.prog 62 [.fmap (eMap kDig (vSl eDig) G),.slice (l.map eDig) t] (.tuple [.slice ((clG G U l).1.map eDig) .ro,.raw (.bool (clG G U l).2)]):=⟨by
 refine fn_of Tryz.func62 Tryz.ntmps62 rfl (rs:= [.tmp 4,.tmp 5]) rfl rfl fun hb LF=>?_
 refine wf ?_
 refine j_makeMap fun m=>?_
 refine s_alloc fun b6=>?_
 refine wf ?_
 refine s_alloc (hZ:=zeroRow) fun b7=>?_
 refine wf ?_
 refine s_callR (xs:= [.tmp 13]) [.box b6 84 [.raw (.map (some m))],.map m (eMap kDig vBool []),.box b7 24 [.raw (.slice none 0 0)]] LF (f:=110) (cs:= [.pt [.fmap (eMap kDig (vSl eDig) G)] 0,.raw (.pointer (some ⟨b6,0,none⟩)),.raw (.pointer (some ⟨b7,0,none⟩))]) (.refl _) rfl rfl (List.perm_middle (l₁:= [_,_])).symm _ (coll_fn G l t b6 m b7 [] _ ⟨[],.slice none 0 0,[],fun d=>by simp[mGet],.nil none (by simp),rfl⟩ (by simp;omega)) fun r L1 ⟨hr,out0,hC,ho⟩=>?_
 subst hr
 refine wf ?_
 refine pwp_condB (fun h=>?_) (fun h=>?_)
 ·have h0:allG G l=false:=by simpa using h
  refine wf ?_
  refine end2 (hs:=List.sublist_append_right _ _) ?_
  rw[clG,if_pos h0]
  exact .tuple2 (.ro _ _) (.refl _)
 have h1:allG G l=true:=by simpa using h
 have hlU:=hG.all.1 h1
 rw[clG,if_neg (by simp[h1])]
 have ho:=ho h1
 subst ho
 refine wf ?_
 refine pwp_loopS (σ:=Nat × List Dig × List Res) (fun k=>k.1≤k.2.1.length∧ClI (ndG G) l k.2.1 k.1∧Coll b6 m b7 k.2.1 k.2.2) (fun k=>U.length - k.1) (fun k=> [(2,.pt [.fmap (eMap kDig (vSl eDig) G)] 0),(7,.raw (.pointer (some ⟨b7,0,none⟩))),(8,.clo 110 [.pt [.fmap (eMap kDig (vSl eDig) G)] 0,.raw (.pointer (some ⟨b6,0,none⟩)),.raw (.pointer (some ⟨b7,0,none⟩))]),(9,.raw (.int .i64 k.1))]) (fun k=>k.2.2++LF) (0,addO [] l,L1) ⟨by simp,ClI.start _ _,hC⟩ ⟨rfl,rfl,rfl,rfl⟩ (.refl _) ?_
 rintro⟨k,out,L2⟩ ⟨hk,hI,met,v,R,hm,hv,rfl⟩
 dsimp only at hk hI hm hv ⊢
 have hol:=hI.len hG.cl hlU
 have hUl:=hG.len
 obtain⟨o,c,rfl⟩:=hv.slice
 refine wf ?_
 refine s_lenR rfl ?_
 refine wf ?_
 refine pwp_condD (fun hc=>?_) (fun hc=>?_)
 ·have hlt:k < out.length:=by omega
  have hne:out≠ []:=fun e=>by subst e;simp at hlt
  obtain⟨_,r,cur,rest,rfl,rfl,hcur,hsz,hlc⟩:=hv.inv hne
  refine wn ?_
  refine pwp_drawN 7 ?_ ?_
  ·decide+kernel
  refine wf ?_
  refine s_ixRow (k:=k) rfl rfl hlt ?_
  refine s_ldRow (f:=eDig) (a0:=out[k]) rfl (List.mem_append_left _ (List.mem_cons_of_mem _ (List.mem_cons_of_mem _ (List.mem_cons_of_mem _ List.mem_cons_self)))) (by rw[hcur,Nat.zero_add];exact row_at vDig_len out k hlt rest) (by omega) ?_
  refine wf ?_
  have hin:out[k]∈U:=(hI.reach _ (List.getElem_mem hlt)).in_ hG.cl hlU
  have hA:allG G (ndG G out[k])=true:=hG.all.2 (hG.cl _ hin)
  have hnd:=hG.nd out[k]
  refine s_callR (xs:= [.tmp 28]) (.box b6 84 [.raw (.map (some m))]:: .map m (eMap kDig vBool met):: .box b7 24 [.raw (.slice (some ⟨r,0,none⟩) out.length c)]:: [.raw r (.cells cur 29 (0,0))]) LF (f:=110) (cs:= [.pt [.fmap (eMap kDig (vSl eDig) G)] 0,.raw (.pointer (some ⟨b6,0,none⟩)),.raw (.pointer (some ⟨b7,0,none⟩))]) (.refl _) rfl rfl (.refl _) _ (coll_fn G (ndG G out[k]) .ro b6 m b7 out _ ⟨met,_,_,hm,hv,rfl⟩ (by omega)) fun r L3 ⟨hr,out1,hC1,ho1⟩=>?_
  have ho1:=ho1 hA
  subst ho1
  refine wf ?_
  refine wf ?_
  have hpl:=(addO_prefix (out:=out) (l:=ndG G out[k])).length_le
  exact⟨(k+1,addO out (ndG G out[k]),L3),⟨by dsimp only;omega,hI.step hlt,hC1⟩,by dsimp only;omega,⟨rfl,rfl,rfl,rfl⟩,.refl _⟩
 have hfin:=hI.fin (by omega)
 have hmx:(sortD out).length≤maxN∧(sortD out).length*32≤maxN:=by
  have:maxN=140737488355328:=rfl
  have h2:(sortD out).length=out.length:=List.length_mergeSort _
  omega
 refine wf ?_
 refine s_callR (xs:= [.tmp 30,.func 60]) R (.box b6 84 [.raw (.map (some m))]:: .map m (eMap kDig vBool met):: .box b7 24 [.raw (.slice o out.length c)]::LF) (f:=59) (cs:= []) (le_func _) rfl rfl perm_three _ (sort_fn out _ R hv (by omega)) fun r L3 ⟨v2,e2,hv2⟩=>?_
 subst e2
 refine pops_nil ?_
 refine pwp_perm perm_three.symm ?_
 refine pwp_seq ?_
 refine pwp_region (by kernel_rfl) ?_
 refine wo ?_
 refine pops_nil ?_
 refine pwp_freezeRow (f:=eDig) 4 hv2 hmx perm_three rfl ?_
 refine wf ?_
 refine end2 ?_
 have e:sortD out=iterC (ndG G) U.length (withAll [] l):=by
  refine Asc.ext (sortD_asc hI.nodup) (iterC_asc (withAll_asc .nil)) fun d=>?_
  rw[sortD_mem,hfin]
  exact(mem_iterC hG.cl hlU (Nat.le_refl _)).symm
 rw[e]
 exact .refl _⟩
theorem rNeeds_asc (p:Pat):Asc (rNeeds p):=by
 unfold rNeeds
 split
 ·exact .nil
 ·exact needs_asc _ _ (withAll_asc .nil)
theorem ndS_asc (s:List Sto) (d:Dig):Asc (ndS s d):=rNeeds_asc _
theorem Valid.grOk {s:List Sto} (v:Valid s):GrOk (gr s) (ids s):=by
 have h8:=v.close.1.1
 refine⟨gr_some s,by rw[ids_len];omega,fun x _ d hd=>?_,fun x=>?_⟩
 ·rw[v.ndG]at hd
  exact v.close.nd x d hd
 ·rw[v.ndG]
  have:=v.close.small (ndS_asc s x) (v.close.nd x)
  omega
theorem Valid.clG {s:List Sto} (v:Valid s) (l:List Dig):(Go.Proofs.clG (gr s) (ids s) l).1=(rClosure s l).1∧(rClosure s l).2=if(Go.Proofs.clG (gr s) (ids s) l).2=false then 7 else 0:=by
 have h1:allG (gr s) l=allIn (ids s) l:=by
  unfold allG allIn
  congr 1
  funext d
  exact gr_some s d
 unfold Go.Proofs.clG rClosure
 rw[h1,v.ndG,ids_len]
 split<;>simp
instance ClosureP_ct (s:List Sto) (l:List Dig) (t u:Tag) [hs:Small (Valid s)] [hl:Small (l.length≤400)]:FnC Tryz.prog 19 [.slice (s.map eSto) t,.slice (l.map eDig) u] (.tuple [.slice ((rClosure s l).1.map eDig) .ro,.raw (.int .i64 (rClosure s l).2)]):=⟨by
 have v:=hs.out
 have i1:Small (goodS s):=⟨v.close.1⟩
 have i2:=fun t=>reached_fn (gr s) (ids s) v.grOk l t hl.out
 refine fn_of Tryz.func19 Tryz.ntmps19 rfl (rs:= [.tmp 4,.tmp 5]) rfl rfl fun hb LF=>?_
 obtain⟨e1,e2⟩:=v.clG l
 refine wf ?_
 refine pwp_condB (fun h=>?_) (fun h=>?_)
 ·have h0:(clG (gr s) (ids s) l).2=false:=by simpa using h
  rw[if_pos h0]at e2
  have e3:(rClosure s l).1= []:=by
   unfold rClosure at e2 ⊢
   split
   ·rfl
   ·rename_i h3
    rw[if_neg h3]at e2
    simp at e2
  refine wf ?_
  refine end2 ?_
  rw[e2,e3]
  exact .tuple2 (.ro _ _) (.refl _)
 ·have h0:(clG (gr s) (ids s) l).2=true:=by simpa using h
  rw[h0]at e2
  simp at e2
  refine wf ?_
  refine end2 ?_
  rw[e2,←e1]
  exact .refl _⟩
end Go.Proofs
namespace Go.Proofs
open Go Go.Q
attribute [local irreducible] pwp pops PCalls OpN
def cm (l:List Dig):List (Dig × Bool):=l.foldl (fun m x=>mSet x true m) []
def cM (s l:List Sto):List (Dig × List (Dig × Bool)):=l.foldl (fun m x=>mSet x.id (cm (cloS s x.id)) m) []
def eSea (s:List Sto):List PV:= [.slice (s.map eSto) .ro]++ [.fmap (eMap kDig (vMap kDig vBool) (cM s s))]
@[simp] theorem len_eSea (s:List Sto):(eSea s).length=2:=rfl
instance put2_0 {a b c:PV}:Put [a,b] 0 [c] [c,b]:=put_here (a:= [a]) (b:= [b]) (new:= [c]) rfl
instance put2_1 {a b c:PV}:Put [a,b] 1 [c] [a,c]:=put_skip (a:= [a]) (n:=1) (off:=0) rfl (put_last (a:= [b]) (new:= [c]) rfl)
instance {b:Option Nat}:CellsC (.raw (.map b)) [.raw (.map b)]:=⟨.one (Flat.out)⟩
end Go.Proofs
namespace Go.Proofs
open Go Go.Q
attribute [local irreducible] pwp pops PCalls OpN
end Go.Proofs
namespace Go.Proofs
open Go Go.Q
attribute [local irreducible] pwp pops PCalls OpN PYield
end Go.Proofs
namespace Go.Proofs
open Go Go.Q
attribute [local irreducible] pwp pops PCalls OpN
def idxD (l:List Dig) (d:Dig):Int:=if d∈l then(l.idxOf d:Int)else -1
theorem idxOf_first {l:List Dig} {d:Dig} {k:Nat} (hk:k < l.length) (hn:d∉l.take k) (e:d=l[k]):l.idxOf d=k:=by
 induction l generalizing k with
 |nil=>simp at hk
 |cons x l ih=>
  cases k with
  |zero=>simp at e;subst e;simp
  |succ k=>
   simp only[List.take_succ_cons,List.mem_cons,not_or]at hn
   have:=ih (k:=k) (by simpa using hk) hn.2 (by simpa using e)
   rw[List.idxOf_cons,beq_eq_false_iff_ne.2 (Ne.symm hn.1),cond_false,this]
instance IndexD_ct (l:List Dig) (d:Dig) (t:Tag):FnC Tryz.prog 45 [.slice (l.map eDig) t,.agg (eDig d)] (.raw (.int .i64 (idxD l d))):=⟨by
 refine fn_of Tryz.func45 Tryz.ntmps45 rfl (rs:= [.tmp 4]) rfl rfl fun hb LF=>?_
 have hlen:l.length≤140737488355328:=(hb (.slice (l.map eDig) t) (by simp)).slice_map
 refine wf ?_
 refine pwp_loopS (σ:=Nat) (fun k=>k≤l.length∧d∉l.take k) (fun k=>l.length - k) (fun k=> [(0,.slice (l.map eDig) t),(3,.pt (eDig d) 0),(7,.raw (.int .i64 l.length)),(8,.raw (.int .i64 k))]) (fun _=>LF) 0 ⟨by simp,by simp⟩ ⟨rfl,rfl,rfl,rfl⟩ (.refl _) ?_
 rintro k ⟨hk,hn⟩
 refine wf ?_
 refine pwp_condD (fun hc=>?_) (fun hc=>?_)
 ·have hlt:k < l.length:=by omega
  refine wf ?_
  refine pwp_condD (fun h=>?_) (fun h=>?_)
  ·refine wf ?_
   refine end1 (.of_eq ?_)
   rw[idxD,if_pos (h ▸ List.getElem_mem hlt),idxOf_first hlt hn h]
  ·refine wf ?_
   refine⟨k+1,⟨by omega,?_⟩,by dsimp only;omega,⟨rfl,rfl,rfl,rfl⟩,.refl _⟩
   rw[List.take_succ_eq_append_getElem hlt,List.mem_append,List.mem_singleton]
   rintro(h'|h')
   ·exact hn h'
   ·exact h h'
 ·refine wf ?_
  refine end1 (.of_eq ?_)
  rw[List.take_of_length_le (by omega)]at hn
  rw[idxD,if_neg hn]⟩
instance ContainsD_ct (l:List Dig) (d:Dig) (t:Tag):FnC Tryz.prog 17 [.slice (l.map eDig) t,.agg (eDig d)] (.raw (.bool (decide (d∈l)))):=⟨by
 refine fn_of Tryz.func17 Tryz.ntmps17 rfl (rs:= [.tmp 4]) rfl rfl fun hb LF=>?_
 refine wf ?_
 refine end1 (.of_eq ?_)
 by_cases h:d∈l<;>simp[idxD,h]⟩
instance EqualD_ct (l m:List Dig) (t u:Tag):FnC Tryz.prog 23 [.slice (l.map eDig) t,.slice (m.map eDig) u] (.raw (.bool (decide (l=m)))):=⟨by
 refine fn_of Tryz.func23 Tryz.ntmps23 rfl (rs:= [.tmp 4]) rfl rfl fun hb LF=>?_
 have hlen:l.length≤140737488355328:=(hb (.slice (l.map eDig) t) (by simp)).slice_map
 refine wf ?_
 refine pwp_condN (fun h=>?_) (fun h=>?_)
 ·refine wf ?_
  refine end1 (.of_eq ?_)
  have: ¬l=m:=fun e=>by subst e;exact h rfl
  simp[this]
 have hlm:l.length=m.length:=by omega
 refine wf ?_
 refine pwp_loopS (σ:=Nat) (fun k=>k≤l.length∧l.take k=m.take k) (fun k=>l.length - k) (fun k=> [(0,.slice (l.map eDig) t),(1,.slice (m.map eDig) u),(12,.raw (.int .i64 l.length)),(13,.raw (.int .i64 k))]) (fun _=>LF) 0 ⟨by simp,by simp⟩ ⟨rfl,rfl,rfl,rfl⟩ (.refl _) ?_
 rintro k ⟨hk,he⟩
 refine wf ?_
 refine pwp_condD (fun hc=>?_) (fun hc=>?_)
 ·have hlt:k < l.length:=by omega
  have hltm:k < m.length:=by omega
  refine wf ?_
  refine pwp_condN (fun h=>?_) (fun h=>?_)
  ·refine wf ?_
   refine end1 (.of_eq ?_)
   have: ¬l=m:=fun e=>by subst e;exact h rfl
   simp[this]
  ·refine wf ?_
   refine⟨k+1,⟨by omega,?_⟩,by dsimp only;omega,⟨rfl,rfl,rfl,rfl⟩,.refl _⟩
   rw[List.take_succ_eq_append_getElem hlt,List.take_succ_eq_append_getElem hltm,he,h]
 ·refine wf ?_
  refine end1 (.of_eq ?_)
  rw[List.take_of_length_le (by omega),List.take_of_length_le (by omega)]at he
  simp[he]⟩
instance KeepP_ct (s:List Sto) (l:List Dig) (t u:Tag) [hs:Small (s.length≤1000000)]:FnC Tryz.prog 24 [.slice (s.map eSto) t,.slice (l.map eDig) u] (.slice ((keepS s l).map eSto) .ro):=⟨by
 refine fn_of Tryz.func24 Tryz.ntmps24 rfl (rs:= [.tmp 4]) rfl rfl fun hb LF=>?_
 have hlen:s.length≤1000000:=hs.out
 refine wf ?_
 refine pwp_tok 37 ?_
 refine pwp_loopS (σ:=Nat × Tag) (fun k=>k.1≤s.length) (fun k=>s.length - k.1) (fun k=> [(1,.slice (l.map eDig) u),(5,.slice ((keepS (s.take k.1) l).map eSto) k.2),(8,.slice (s.map eSto) t),(9,.raw (.int .i64 s.length)),(10,.raw (.int .i64 k.1))]) (fun k=> .tok k.2 (keepS (s.take k.1) l).length 37::LF) (0,.nil) (by simp) ⟨rfl,rfl,rfl,rfl,rfl⟩ (.refl _) ?_
 rintro⟨k,v⟩ hk
 dsimp only at hk
 refine wf ?_
 refine pwp_condD (fun hc=>?_) (fun hc=>?_)
 ·have hl:(keepS (s.take k) l).length≤k:=Nat.le_trans (List.length_filter_le _ _) (by simp;omega)
  have e:keepS (s.take (k+1)) l=keepS (s.take k) l++keepS [s[k]] l:=by
   rw[List.take_succ_eq_append_getElem (by omega)];simp only[keepS,List.filter_append]
  refine wz fun b7=>?_
  refine pwp_freezeD 7 ?_
  refine wf ?_
  refine pwp_condD (fun h=>?_) (fun h=>?_)
  ·refine wfa fun v'=>?_
   have e2:keepS [s[k]] l= [s[k]]:=by simp[keepS,h]
   rw[e2]at e
   refine⟨(k+1,v'),by dsimp only;omega,by dsimp only;omega,⟨rfl,by dsimp only;rw[e];rfl,rfl,rfl,rfl⟩,by dsimp only;rw[e];exact .refl _⟩
  ·refine wf ?_
   have e2:keepS [s[k]] l= []:=by simp[keepS,h]
   rw[e2,List.append_nil]at e
   refine⟨(k+1,v),by dsimp only;omega,by dsimp only;omega,⟨rfl,by dsimp only;rw[e];rfl,rfl,rfl,rfl⟩,by dsimp only;rw[e];exact .refl _⟩
 ·refine wf ?_
  refine end1 (.ros ?_)
  rw[List.take_of_length_le (by omega)]⟩
end Go.Proofs
namespace Go.Proofs
open Go Go.Q
end Go.Proofs
namespace Go.Proofs
open Go Go.Q
attribute [local irreducible] pwp pops PCalls OpN
end Go.Proofs
namespace Go.Proofs
open Go Go.Q
attribute [local irreducible] pwp pops PCalls OpN
def idxF {α:Type} (p:α→Bool) (l:List α):Int:=if l.any p=true then(l.findIdx p:Int)else -1
theorem findIdx_first {α:Type} {p:α→Bool} {l:List α} {k:Nat} (hk:k < l.length) (hn:(l.take k).any p=false) (e:p l[k]=true):l.findIdx p=k:=by
 refine List.findIdx_eq hk |>.2 ⟨e,fun j hj=>?_⟩
 have:=List.any_eq_false.1 hn (l[j]) (List.mem_take_iff_getElem.2 ⟨j,by omega,rfl⟩)
 simpa using this
theorem indexD_fn (F:Nat) (cs:List PV) (p:Dig→Bool) [hF:TFun Tryz.prog F] [hp: ∀ d,FnC Tryz.prog F (.agg (eDig d)::cs) (.raw (.bool (p d)))] (l:List Dig) (t:Tag):
  FnC Tryz.prog 63 [.slice (l.map eDig) t,.clo F cs] (.raw (.int .i64 (idxF p l))):=⟨by
 refine fn_of Tryz.func63 Tryz.ntmps63 rfl (rs:= [.tmp 4]) rfl rfl fun hb LF=>?_
 have hlen:l.length≤140737488355328:=(hb (.slice (l.map eDig) t) (by simp)).slice_map
 refine wf ?_
 refine pwp_loopS (σ:=Nat) (fun k=>k≤l.length∧(l.take k).any p=false) (fun k=>l.length - k) (fun k=> [(0,.slice (l.map eDig) t),(1,.clo F cs),(7,.raw (.int .i64 l.length)),(8,.raw (.int .i64 k))]) (fun _=>LF) 0 ⟨by simp,by simp⟩ ⟨rfl,rfl,rfl,rfl⟩ (.refl _) ?_
 rintro k ⟨hk,hn⟩
 refine wf ?_
 refine pwp_condD (fun hc=>?_) (fun hc=>?_)
 ·have hlt:k < l.length:=by omega
  refine wf ?_
  refine pwp_condB (fun h=>?_) (fun h=>?_)
  ·refine wf ?_
   refine end1 (.of_eq ?_)
   have e:l.any p=true:=List.any_eq_true.2 ⟨l[k],List.getElem_mem hlt,h⟩
   rw[idxF,if_pos e,findIdx_first hlt hn h]
  ·refine wf ?_
   refine⟨k+1,⟨by omega,?_⟩,by dsimp only;omega,⟨rfl,rfl,rfl,rfl⟩,.refl _⟩
   rw[List.take_succ_eq_append_getElem hlt,List.any_append,hn]
   simp[h]
 ·refine wf ?_
  refine end1 (.of_eq ?_)
  rw[List.take_of_length_le (by omega)]at hn
  rw[idxF,if_neg (by simp[hn])]⟩
theorem containsD_fn (F:Nat) (cs:List PV) (p:Dig→Bool) [hF:TFun Tryz.prog F] [hp: ∀ d,FnC Tryz.prog F (.agg (eDig d)::cs) (.raw (.bool (p d)))] (l:List Dig) (t:Tag):
  FnC Tryz.prog 53 [.slice (l.map eDig) t,.clo F cs] (.raw (.bool (l.any p))):=⟨by
 have i1: ∀ t,FnC Tryz.prog 63 [.slice (l.map eDig) t,.clo F cs] (.raw (.int .i64 (idxF p l))):=indexD_fn F cs p l
 refine fn_of Tryz.func53 Tryz.ntmps53 rfl (rs:= [.tmp 4]) rfl rfl fun hb LF=>?_
 refine wf ?_
 refine end1 (.of_eq ?_)
 cases h:l.any p<;>simp[idxF,h]⟩
theorem indexS_fn (F:Nat) (cs:List PV) (p:Sto→Bool) [hF:TFun Tryz.prog F] [hp: ∀ d,FnC Tryz.prog F (.agg (eSto d)::cs) (.raw (.bool (p d)))] (l:List Sto) (t:Tag):
  FnC Tryz.prog 51 [.slice (l.map eSto) t,.clo F cs] (.raw (.int .i64 (idxF p l))):=⟨by
 refine fn_of Tryz.func51 Tryz.ntmps51 rfl (rs:= [.tmp 4]) rfl rfl fun hb LF=>?_
 have hlen:l.length≤140737488355328:=(hb (.slice (l.map eSto) t) (by simp)).slice_map
 refine wf ?_
 refine pwp_loopS (σ:=Nat) (fun k=>k≤l.length∧(l.take k).any p=false) (fun k=>l.length - k) (fun k=> [(0,.slice (l.map eSto) t),(1,.clo F cs),(7,.raw (.int .i64 l.length)),(8,.raw (.int .i64 k))]) (fun _=>LF) 0 ⟨by simp,by simp⟩ ⟨rfl,rfl,rfl,rfl⟩ (.refl _) ?_
 rintro k ⟨hk,hn⟩
 refine wf ?_
 refine pwp_condD (fun hc=>?_) (fun hc=>?_)
 ·have hlt:k < l.length:=by omega
  refine wf ?_
  refine pwp_condB (fun h=>?_) (fun h=>?_)
  ·refine wf ?_
   refine end1 (.of_eq ?_)
   have e:l.any p=true:=List.any_eq_true.2 ⟨l[k],List.getElem_mem hlt,h⟩
   rw[idxF,if_pos e,findIdx_first hlt hn h]
  ·refine wf ?_
   refine⟨k+1,⟨by omega,?_⟩,by dsimp only;omega,⟨rfl,rfl,rfl,rfl⟩,.refl _⟩
   rw[List.take_succ_eq_append_getElem hlt,List.any_append,hn]
   simp[h]
 ·refine wf ?_
  refine end1 (.of_eq ?_)
  rw[List.take_of_length_le (by omega)]at hn
  rw[idxF,if_neg (by simp[hn])]⟩
end Go.Proofs
namespace Go.Proofs
open Go Go.Q
attribute [local irreducible] pwp pops PCalls OpN
theorem indexDR_fn (F:Nat) (cs:List PV) (p:Dig→Bool) (LR:List Res) [hF:TFun Tryz.prog F] (hp: ∀ d,PCalls Tryz.prog F (.agg (eDig d)::cs) LR (fun r L'=>r= .raw (.bool (p d))∧L'=LR)) (l:List Dig) (t:Tag):
  PCalls Tryz.prog 63 [.slice (l.map eDig) t,.clo F cs] LR (fun r L'=>r= .raw (.int .i64 (idxF p l))∧L'=LR):=by
 refine pcalls_bd Tryz.func63 rfl Tryz.ntmps63 (rs:= [.tmp 4]) rfl rfl fun hb LF=>?_
 have hlen:l.length≤140737488355328:=(hb (.slice (l.map eDig) t) (by simp)).slice_map
 refine wf ?_
 refine pwp_loopS (σ:=Nat) (fun k=>k≤l.length∧(l.take k).any p=false) (fun k=>l.length - k) (fun k=> [(0,.slice (l.map eDig) t),(1,.clo F cs),(7,.raw (.int .i64 l.length)),(8,.raw (.int .i64 k))]) (fun _=>LR++LF) 0 ⟨by simp,by simp⟩ ⟨rfl,rfl,rfl,rfl⟩ (.refl _) ?_
 rintro k ⟨hk,hn⟩
 refine wf ?_
 refine pwp_condD (fun hc=>?_) (fun hc=>?_)
 ·have hlt:k < l.length:=by omega
  refine wf ?_
  refine s_callR (xs:= [.tmp 15]) LR LF (f:=F) (cs:=cs) (.refl _) rfl rfl (.refl _) _ (hp l[k]) fun r L' ⟨e1,e2⟩=>?_
  subst e1 e2
  refine wf ?_
  refine wf ?_
  refine pwp_condB (fun h=>?_) (fun h=>?_)
  ·refine wf ?_
   have e:l.any p=true:=List.any_eq_true.2 ⟨l[k],List.getElem_mem hlt,h⟩
   exact⟨trivial,_,_,.cons (.tmp 4) .nil,.refl _,by rw[idxF,if_pos e,findIdx_first hlt hn h];rfl,rfl⟩
  ·refine wf ?_
   refine⟨k+1,⟨by omega,?_⟩,by dsimp only;omega,⟨rfl,rfl,rfl,rfl⟩,.refl _⟩
   rw[List.take_succ_eq_append_getElem hlt,List.any_append,hn]
   simp[h]
 ·refine wf ?_
  rw[List.take_of_length_le (by omega)]at hn
  exact⟨trivial,_,_,.cons (.tmp 4) .nil,.refl _,by rw[idxF,if_neg (by simp[hn])];rfl,rfl⟩
theorem containsDR_fn (F:Nat) (cs:List PV) (p:Dig→Bool) (LR:List Res) [hF:TFun Tryz.prog F] (hp: ∀ d,PCalls Tryz.prog F (.agg (eDig d)::cs) LR (fun r L'=>r= .raw (.bool (p d))∧L'=LR)) (l:List Dig) (t:Tag):
  PCalls Tryz.prog 53 [.slice (l.map eDig) t,.clo F cs] LR (fun r L'=>r= .raw (.bool (l.any p))∧L'=LR):=by
 refine pcalls_bd Tryz.func53 rfl Tryz.ntmps53 (rs:= [.tmp 4]) rfl rfl fun hb LF=>?_
 refine wf ?_
 refine s_callR (xs:= [.tmp 5,.tmp 6]) LR LF (f:=63) (cs:= []) (le_func _) rfl rfl (.refl _) _ (indexDR_fn F cs p LR hp l t) fun r L' ⟨e1,e2⟩=>?_
 subst e1 e2
 refine wf ?_
 refine wf ?_
 refine⟨trivial,_,_,.cons (.tmp 4) .nil,.refl _,?_,rfl⟩
 show PV.raw (.bool (decide (0≤idxF p l)))=_
 cases h:l.any p<;>simp[idxF,h]
theorem indexSR_fn (F:Nat) (cs:List PV) (p:Sto→Bool) (LR:List Res) [hF:TFun Tryz.prog F] (hp: ∀ d,PCalls Tryz.prog F (.agg (eSto d)::cs) LR (fun r L'=>r= .raw (.bool (p d))∧L'=LR)) (l:List Sto) (t:Tag):
  PCalls Tryz.prog 51 [.slice (l.map eSto) t,.clo F cs] LR (fun r L'=>r= .raw (.int .i64 (idxF p l))∧L'=LR):=by
 refine pcalls_bd Tryz.func51 rfl Tryz.ntmps51 (rs:= [.tmp 4]) rfl rfl fun hb LF=>?_
 have hlen:l.length≤140737488355328:=(hb (.slice (l.map eSto) t) (by simp)).slice_map
 refine wf ?_
 refine pwp_loopS (σ:=Nat) (fun k=>k≤l.length∧(l.take k).any p=false) (fun k=>l.length - k) (fun k=> [(0,.slice (l.map eSto) t),(1,.clo F cs),(7,.raw (.int .i64 l.length)),(8,.raw (.int .i64 k))]) (fun _=>LR++LF) 0 ⟨by simp,by simp⟩ ⟨rfl,rfl,rfl,rfl⟩ (.refl _) ?_
 rintro k ⟨hk,hn⟩
 refine wf ?_
 refine pwp_condD (fun hc=>?_) (fun hc=>?_)
 ·have hlt:k < l.length:=by omega
  refine wf ?_
  refine s_callR (xs:= [.tmp 15]) LR LF (f:=F) (cs:=cs) (.refl _) rfl rfl (.refl _) _ (hp l[k]) fun r L' ⟨e1,e2⟩=>?_
  subst e1 e2
  refine wf ?_
  refine wf ?_
  refine pwp_condB (fun h=>?_) (fun h=>?_)
  ·refine wf ?_
   have e:l.any p=true:=List.any_eq_true.2 ⟨l[k],List.getElem_mem hlt,h⟩
   exact⟨trivial,_,_,.cons (.tmp 4) .nil,.refl _,by rw[idxF,if_pos e,findIdx_first hlt hn h];rfl,rfl⟩
  ·refine wf ?_
   refine⟨k+1,⟨by omega,?_⟩,by dsimp only;omega,⟨rfl,rfl,rfl,rfl⟩,.refl _⟩
   rw[List.take_succ_eq_append_getElem hlt,List.any_append,hn]
   simp[h]
 ·refine wf ?_
  rw[List.take_of_length_le (by omega)]at hn
  exact⟨trivial,_,_,.cons (.tmp 4) .nil,.refl _,by rw[idxF,if_neg (by simp[hn])];rfl,rfl⟩
theorem idxF_append {α:Type} (p:α→Bool) (l:List α) (x:α):idxF p (l++ [x])=if l.any p=true then idxF p l else if p x=true then(l.length:Int)else -1:=by
 unfold idxF
 rw[List.any_append,List.findIdx_append]
 by_cases h:l.any p=true
 ·have h2:l.findIdx p < l.length:=List.findIdx_lt_length.2 (List.any_eq_true.1 h)
  rw[if_pos h,if_pos h,if_pos h2,if_pos (by simp[h])]
 ·have h2: ¬l.findIdx p < l.length:=fun h'=>h (List.any_eq_true.2 (List.findIdx_lt_length.1 h'))
  rw[if_neg h,if_neg h2]
  cases hx:p x with
  |true=>simp[h,hx]
  |false=>simp[h,hx]
def eligR (out:List Dig) (x:Sto):Bool:=decide (¬x.id∈out∧allIn out (rNeeds x.patch)=true)
theorem idxF_range {α:Type} (p:α→Bool) (l:List α): -1≤idxF p l∧idxF p l < l.length∧(l.any p=true→0≤idxF p l):=by
 unfold idxF
 by_cases h:l.any p=true
 ·rw[if_pos h]
  have:=List.findIdx_lt_length.2 (List.any_eq_true.1 h)
  exact⟨by omega,by omega,fun _=>by omega⟩
 ·rw[if_neg h]
  exact⟨by omega,by omega,fun h'=>absurd h' h⟩
theorem rPick_first {s:List Sto} (h:Asc (ids s)) (out:List Dig):rPick s out=idxF (eligR out) s:=by
 have key: ∀ n,n≤s.length→(List.range n).foldl (rBetter s out) (-1)=idxF (eligR out) (s.take n):=fun n=>by
  induction n with
  |zero=>intro _;rfl
  |succ n ih=>
   intro hn
   have hlt:n < s.length:=by omega
   have e0:s.getD n Sto.zero=s[n]:=by simp[List.getD,hlt]
   rw[foldl_range_succ,ih (by omega),List.take_succ_eq_append_getElem hlt,idxF_append,rBetter,e0]
   obtain⟨r1,r2,r3⟩:=idxF_range (eligR out) (s.take n)
   rw[List.length_take]at r2
   by_cases ha:(s.take n).any (eligR out)=true
   ·have r3:=r3 ha
    generalize idxF (eligR out) (s.take n)=k at*
    rw[if_pos ha,if_neg]
    rintro⟨_,h2⟩
    rcases h2 with h2|h2
    ·omega
    ·have hk:k.toNat < s.length:=by omega
     have e1:s.getD k.toNat Sto.zero=s[k.toNat]:=by simp[List.getD,hk]
     rw[e1]at h2
     have:=List.pairwise_iff_getElem.1 h k.toNat n (by simpa [ids]using hk) (by simpa [ids]using hlt) (by omega)
     simp only[ids,List.getElem_map]at this
     exact Dig.lt_asymm this h2
   ·have hk:idxF (eligR out) (s.take n)= -1:=by unfold idxF;rw[if_neg ha]
    rw[if_neg ha,hk]
    by_cases he: ¬s[n].id∈out∧allIn out (rNeeds s[n].patch)=true
    ·rw[if_pos ⟨he,.inl (by omega)⟩,if_pos (by simpa [eligR]using he),List.length_take,Nat.min_eq_left (by omega)]
    ·rw[if_neg (fun h'=>he h'.1),if_neg (by simpa [eligR]using he)]
 have:=key s.length (Nat.le_refl _)
 rwa [List.take_length]at this
theorem mGet_gr {s:List Sto} (h:Asc (ids s)) {x:Sto} (hx:x∈s):mGet x.id (gr s)=some (rNeeds x.patch):=by
 have key: ∀ n,n≤s.length→ ∀ i (hi:i < s.length),i < n→mGet s[i].id (gr (s.take n))=some (rNeeds s[i].patch):=fun n=>by
  induction n with
  |zero=>intro _ i _ h';omega
  |succ n ih=>
   intro hn i hi hin
   have hlt:n < s.length:=by omega
   rw[gr_take hlt,mGet_mSet]
   by_cases e:i=n
   ·subst e;rw[if_pos rfl]
   ·have hp:=List.pairwise_iff_getElem.1 h i n (by simpa [ids]using hi) (by simpa [ids]using hlt) (by omega)
    simp only[ids,List.getElem_map]at hp
    rw[if_neg (fun e'=>Dig.lt_irrefl _ (e' ▸ hp))]
    exact ih (by omega) i hi (by omega)
 obtain⟨i,hi,rfl⟩:=List.mem_iff_getElem.1 hx
 have:=key s.length (Nat.le_refl _) i hi hi
 rwa [List.take_length]at this
theorem order11_fn (m:Nat) (done:List (Dig × Bool)) (d:Dig):PCalls Tryz.prog 54 [.agg (eDig d),.pt [.raw (.map (some m))] 0] [.map m (eMap kDig vBool done)] (fun r L'=>r= .raw (.bool (!(mGet d done).getD false))∧L'= [.map m (eMap kDig vBool done)]):=by
 refine pcalls_bd Tryz.func54 rfl Tryz.ntmps54 (rs:= [.tmp 3]) rfl rfl fun hb LF=>?_
 refine wf ?_
 exact⟨trivial,_,_,.cons (.tmp 3) .nil,.refl _,rfl,rfl⟩
def eligP (G:List (Dig × List Dig)) (done:List (Dig × Bool)) (x:Sto):Bool:=!(mGet x.id done).getD false&&!(((mGet x.id G).getD []).any fun d=>!(mGet d done).getD false)
theorem order1_fn (m:Nat) (G:List (Dig × List Dig)) (done:List (Dig × Bool)) (x:Sto):PCalls Tryz.prog 52 [.agg (eSto x),.pt [.raw (.map (some m))] 0,.pt [.fmap (eMap kDig (vSl eDig) G)] 0] [.map m (eMap kDig vBool done)] (fun r L'=>r= .raw (.bool (eligP G done x))∧L'= [.map m (eMap kDig vBool done)]):=by
 refine pcalls_bd Tryz.func52 rfl Tryz.ntmps52 (rs:= [.tmp 4]) rfl rfl fun hb LF=>?_
 refine wf ?_
 refine pops_if (fun hp=>?_) (fun hp=>?_)
 ·have h0:(mGet x.id done).getD false=false:=by simpa using hp
  refine wf ?_
  refine s_callR (xs:= [.tmp 14,.tmp 15]) [.map m (eMap kDig vBool done)] LF (f:=53) (cs:= []) (le_func _) rfl rfl (.refl _) _ (containsDR_fn 54 [.pt [.raw (.map (some m))] 0] (fun d=>!(mGet d done).getD false) [.map m (eMap kDig vBool done)] (order11_fn m done) ((mGet x.id G).getD []) .ro) fun r L' ⟨e1,e2⟩=>?_
  subst e1 e2
  refine wf ?_
  refine wf ?_
  exact⟨trivial,_,_,.cons (.tmp 4) .nil,.refl _,by rw[eligP,h0];rfl,rfl⟩
 ·have h0:(mGet x.id done).getD false=true:=by simpa using hp
  refine wf ?_
  exact⟨trivial,_,_,.cons (.tmp 4) .nil,.refl _,by rw[eligP,h0];rfl,rfl⟩
theorem idxF_congr {α:Type} {p q:α→Bool}: ∀ {l:List α},(∀ x∈l,p x=q x)→idxF p l=idxF q l:=fun {l} h=>by
 have h1:l.any p=l.any q:=by
  rw[Bool.eq_iff_iff,List.any_eq_true,List.any_eq_true]
  exact⟨fun⟨x,hx,e⟩=>⟨x,hx,(h x hx) ▸ e⟩,fun⟨x,hx,e⟩=>⟨x,hx,(h x hx).symm ▸ e⟩⟩
 have h2:l.findIdx p=l.findIdx q:=by
  clear h1
  induction l with
  |nil=>rfl
  |cons x l ih=>
   rw[List.findIdx_cons,List.findIdx_cons,h x (by simp),ih fun y hy=>h y (List.mem_cons_of_mem _ hy)]
 unfold idxF
 rw[h1,h2]
theorem elig_eq {s:List Sto} (h:Asc (ids s)) {done:List (Dig × Bool)} {out:List Dig} (hm:MetOk done out) {x:Sto} (hx:x∈s):eligP (gr s) done x=eligR out x:=by
 unfold eligP eligR
 rw[hm x.id,mGet_gr h hx,Option.getD_some]
 have e:((rNeeds x.patch).any fun d=>!(mGet d done).getD false)=!allIn out (rNeeds x.patch):=by
  rw[allIn,List.not_all_eq_any_not]
  congr 1
  funext d
  rw[hm d]
 rw[e,Bool.not_not]
 by_cases h1:x.id∈out<;>simp[h1]
set_option maxHeartbeats 2000000 in
theorem orderP_fn (s:List Sto) (t:Tag) (hg:goodS s) (ha:Asc (ids s)):FnC Tryz.prog 15 [.slice (s.map eSto) t] (.slice ((rOrder s).map eDig) .ro):=⟨by
 have h8:=hg.1
 have i1:Small (goodS s):=⟨hg⟩
 refine fn_of Tryz.func15 Tryz.ntmps15 rfl (rs:= [.tmp 2]) rfl rfl fun hb LF=>?_
 refine wf ?_
 refine s_alloc fun b3=>?_
 refine wo ?_
 refine pops_nil ?_
 refine pwp_freezeD 3 ?_
 refine wf ?_
 refine s_makeMap fun m=>?_
 refine wf ?_
 refine s_alloc fun b4=>?_
 refine wo ?_
 refine pops_nil ?_
 refine pwp_freezeD 4 ?_
 refine wf ?_
 refine pwp_tok 32 ?_
 refine pwp_perm (.swap _ _ _) ?_
 refine pwp_loopS (σ:=Nat × List Dig × Tag × List (Dig × Bool)) (fun k=>k.1≤s.length∧k.2.1.length=k.1∧MetOk k.2.2.2 k.2.1∧rOrder s=rOrd s (s.length - k.1) k.2.1) (fun k=>s.length - k.1) (fun k=> [(0,.slice (s.map eSto) t),(3,.pt [.fmap (eMap kDig (vSl eDig) (gr s))] 0),(4,.pt [.raw (.map (some m))] 0),(5,.slice (k.2.1.map eDig) k.2.2.1),(11,.raw (.int .i64 s.length)),(12,.raw (.int .i64 k.1))]) (fun k=> .map m (eMap kDig vBool k.2.2.2):: .tok k.2.2.1 k.2.1.length 32::LF) (0,[],.nil,[]) ⟨by simp,rfl,fun d=>by simp[mGet],rfl⟩ ⟨rfl,rfl,rfl,rfl,rfl,rfl⟩ (.refl _) ?_
 rintro⟨k,out,u,done⟩ ⟨hk,hol,hmo,hro⟩
 dsimp only at hk hol hmo hro ⊢
 refine wf ?_
 refine pwp_condD (fun hc=>?_) (fun hc=>?_)
 ·have hlt:k < s.length:=by omega
  have hpk:idxF (eligP (gr s) done) s=rPick s out:=by rw[rPick_first ha,idxF_congr fun x hx=>elig_eq ha hmo hx]
  have hrs:rOrd s (s.length - k) out=if rPick s out < 0 then out else rOrd s (s.length - (k+1)) (out++ [(s.getD (rPick s out).toNat Sto.zero).id]):=by
   rw[show s.length - k=(s.length - (k+1))+1 by omega,rOrd]
  have hrr:=rBetter_range (s:=s) (out:=out) s.length
  change -1≤rPick s out∧rPick s out < s.length at hrr
  refine wf ?_
  refine s_callR (xs:= [.tmp 14,.tmp 15]) [.map m (eMap kDig vBool done)] (.tok u out.length 32::LF) (f:=51) (cs:= []) (le_func _) rfl rfl (.refl _) _ (indexSR_fn 52 [.pt [.raw (.map (some m))] 0,.pt [.fmap (eMap kDig (vSl eDig) (gr s))] 0] (eligP (gr s) done) [.map m (eMap kDig vBool done)] (order1_fn m (gr s) done) s t) fun r L' ⟨e1,e2⟩=>?_
  subst e1 e2
  rw[hpk,List.cons_append,List.nil_append]
  generalize hpp:rPick s out=i at hrr hrs ⊢
  refine wf ?_
  refine wf ?_
  refine pwp_condD (fun hi=>?_) (fun hi=>?_)
  ·refine wf ?_
   refine end1 (.ros ?_)
   rw[hro,hrs,if_pos (by omega)]
  ·obtain⟨j,rfl⟩: ∃ j:Nat,i=(j:Int):=⟨i.toNat,by omega⟩
   have hj:j < s.length:=by omega
   rw[if_neg hi,Int.toNat_natCast,show s.getD j Sto.zero=s[j] by simp[List.getD,hj]]at hrs
   refine wn ?_
   refine pwp_drawN 6 ?_ ?_
   ·decide+kernel
   refine wf ?_
   refine wfa fun u'=>?_
   refine⟨(k+1,out++ [s[j].id],u',mSet s[j].id true done),⟨by dsimp only;omega,by dsimp only;rw[List.length_append,hol];rfl,hmo.add _,by dsimp only;rw[hro,hrs]⟩,by dsimp only;omega,⟨rfl,rfl,rfl,rfl,rfl,rfl⟩,.refl _⟩
 ·have hkk:k=s.length:=by omega
  refine wf ?_
  refine end1 (.ros ?_)
  rw[hro,show s.length - k=0 by omega,rOrd]⟩
end Go.Proofs
namespace Go.Q
open Go
section
variable {P:Program} {N:Nat} {all:Array Oper} {K:Env→List Res→Prop} {fl:List Bool} {os:List Oper} {ρ:Env} {L:List Res} {d:Nat} {ty:TypeId} {pos:String} {af:Array Edge}
theorem opN_toBytes {S T:TypeId} [hS:TStr P S] [hT:TByt P T] {x:Operand} {s:Str} {ax:PV} {dst:Option Nat} {gd:Option (Nat × Bool)} (hx:ρ.ev x=ax) [jx:IsStr ax s] (hs:s.length≤maxN) {Ψ:PV→List Res→Prop}
  (k: ∀ t',Ψ (.slice (s.map eBy) t') (.tok t' s.length 1::L)):OpN P ⟨dst,.convert S T x,ty,pos,af,gd⟩ ρ L Ψ:=by
 intro a w g ha hi
 obtain⟨E,e1,e2⟩:=hT.out
 have h1:=jx.out g _ (hx ▸ ha x (by simp[Op.operands]))
 let nc:=grownCap w s.length 0 E
 have hnc:s.length≤nc:=grownCap_ge w _ _ _
 let vs:List Value:=s.map fun b=>Value.int .u8 (b.toNat:Int)
 have hvl:vs.length=s.length:=by simp[vs]
 have hsz:(bytesRow (sB s) nc).size=nc:=by simp[bytesRow];omega
 have hrow: ∀ j (h:j < vs.length),(bytesRow (sB s) nc)[j]? =some vs[j]:=fun j h=>by
  have h':j < s.length:=by omega
  rw[bytesRow,Array.getElem?_append_left (by simp;exact h')]
  simp[vs,sB,h']
 have hr:(execOp a.eval ⟨dst,.convert S T x,ty,pos,af,gd⟩).run P w= .ok (.value (.slice (some ⟨w.heap.size,0,none⟩) s.length nc)) (w.drew.alloc (.cells (bytesRow (sB s) nc) E ((bytesRow (sB s) nc).size,(bytesRow (sB s) nc).size+1))):=by
  show(do pure (Next.value (←convert S T (a.eval x))):Sem Next).run P w=_
  rw[h1]
  have:=run_bytes_of_string (P:=P) w S T E (sB s) hS.out e1 e2
  rw[sB_size]at this
  rw[Sem.run_bind,this]
  rfl
 have hvr:VRl g vs (s.map eBy).flatten:=by
  have e: ∀ l:Str,(l.map eBy).flatten=(l.map fun b=>Value.int .u8 (b.toNat:Int)).map .raw:=fun l=>by
   induction l with
   |nil=>rfl
   |cons b l ih=>rw[List.map_cons,List.flatten_cons,ih];rfl
  rw[e];exact VRl.raws g vs
 have hH0: ∀ o,g.H w.heap.size o=none:=fun o=>by
  cases h:g.H w.heap.size o with
  |none=>rfl
  |some v=>have:=hi.sat _ _ _ h;simp[World.cell?]at this
 have hM0:g.M w.heap.size=none:=by
  cases h:g.M w.heap.size with
  |none=>rfl
  |some v=>exact absurd (hi.satM _ _ h).lt (Nat.lt_irrefl _)
 have hle:=Gh.le_lay (g:=g) (b:=w.heap.size) (from_:=0) (us:=vs) (fun o _=>hH0 o)
 have hget: ∀ (o:Obj) b,b < w.heap.size→(w.drew.alloc o).heap[b]? =w.heap[b]?:=fun o b hb=>by
  show(w.heap.push o)[b]? =_
  rw[Array.getElem?_push,if_neg (by omega)]
 have hlast: ∀ (o:Obj),(w.drew.alloc o).heap[w.heap.size]? =some o:=fun o=>by show(w.heap.push o)[w.heap.size]? =_;simp
 have key:=(hi.tok 1).repl (w':=w.drew.alloc (.cells (bytesRow (sB s) nc) E ((bytesRow (sB s) nc).size,(bytesRow (sB s) nc).size+1))) (g':=g.lay w.heap.size 0 vs) (r':= .tok (.own w.heap.size nc) s.length 1) .here rfl rfl ⟨rfl,Nat.le_succ _⟩ (by simp) hle
  (fun k hk _=>hget _ k hk) (fun k hk _=>⟨fun o=>Gh.lay_out (fun h=>by have:=h.1;omega),rfl⟩)
  (fun b₂ o v hv=>by
   by_cases hin:b₂=w.heap.size∧0≤o∧o < 0+vs.length
   ·obtain⟨rfl,_,h4⟩:=hin
    have hj:o < vs.length:=by omega
    have:=Gh.lay_in (g:=g) (b:=w.heap.size) (from_:=0) hj
    rw[Nat.zero_add,hv]at this
    cases this
    simp only[World.cell?,hlast,Option.isSome_none,Bool.false_eq_true,if_false]
    exact hrow o hj
   ·rw[Gh.lay_out hin]at hv
    have h3:=hi.sat b₂ o v hv
    have hb2:b₂ < w.heap.size:=by
     rcases Nat.lt_or_ge b₂ w.heap.size with h'|h'
     ·exact h'
     ·simp[World.cell?,Array.getElem?_eq_none h']at h3
    simp only[World.cell?]at h3 ⊢
    rw[hget _ b₂ hb2];exact h3)
  (fun b₂ es hM=>(hi.satM b₂ es hM).congr (hget _ b₂ (hi.satM b₂ es hM).lt))
  ⟨_,E,_,hlast _,by rw[hsz,Nat.mul_one],hnc,fun o ho=>by
   rw[Gh.lay_out (fun h=>by have:=h.2.2;omega)]
   exact hH0 o,hM0,.inr (Nat.le_refl _)⟩ (fun b₂ hb₂=> .inr (by simp[Res.block]at hb₂;omega))
 refine Oper.wq_of_run hr ?_
 refine⟨_,.slice (s.map eBy) (.own w.heap.size nc),_,_,rfl,?_,key.1,key.2.1,key.2.2,k _⟩
 have:=VR.of_cells (g:=g.lay w.heap.size 0 vs) (xs:=s.map eBy) (t:= .own w.heap.size nc) (sz:=1) (b:=w.heap.size) (off:=0) (cap:=nc) (fun e he=>by obtain⟨b,_,rfl⟩:=List.mem_map.1 he;rfl) (by simpa using hnc) (by simpa using hs) (us:=vs) (hvr.mono hle) (fun j hj=>Gh.lay_in hj) (fun b' cap' e=>by cases e;exact⟨rfl,rfl,rfl⟩) (by simp)
 simpa using this
theorem s_toBytes {S T:TypeId} [hS:TStr P S] [hT:TByt P T] {x:Operand} {s:Str} {ax:PV} (hx:ρ.ev x=ax) [jx:IsStr ax s] (hs:s.length≤140737488355328)
  (k: ∀ t',pops P N all K fl.tail os (upd ρ d (.slice (s.map eBy) t')) (.tok t' s.length 1::L)) (hd:Nat.blt d N=true:=by rfl) (hfl:fl.headD true=true:=by rfl):pops P N all K fl (⟨some d,.convert S T x,ty,pos,af,none⟩::os) ρ L:=
 pops_n rfl (dlt hd) hfl (opN_toBytes hx hs k)
end
end Go.Q
