/- Contracts of the program: digests of strings (sha256): Sum. -/
import Derived.Test.YtmkdlelpipefbaaGreatDoorUan
import Derived.Test.YtmkdlelpipefbaaGreatDoorUam
import Derived.Test.YtmkdlelpipefbaaGreatDoorUag
import Derived.Test.YtmkdlelpipefbaaGreatDoorUaj
import Derived.Test.YtmkdlelpipefbaaGreatDoorUal
import Derived.Shelf.SlSortCmp.NoneTotal
import Derived.Shelf.SlGeneric
import Derived.Ground.SlsfProg
import Derived.Test.YtmkdlelpipefbaaGreatDoorProg
set_option linter.unusedSimpArgs false
set_option linter.unusedVariables false
namespace Go.Q
open Go
section
variable {P:Program} {N:Nat} {all:Array Oper} {K:Env→List Res→Prop} {fl:List Bool} {os:List Oper} {ρ:Env} {L:List Res} {d:Nat} {ty:TypeId} {pos:String} {af:Array Edge}
theorem s_shrWI {T T':TypeId} {x y:Operand} {a b:Nat} (hx:ρ.ev x= .raw (.int .u32 (a:Int))) (hy:ρ.ev y= .raw (.int .i64 (b:Int))) (k:pops P N all K fl.tail os (upd ρ d (.raw (.int .u32 (shrW a b:Nat)))) L) (hd:Nat.blt d N=true:=by rfl):
  pops P N all K fl (⟨some d,.binOp .shr T x y T',ty,pos,af,none⟩::os) ρ L:=s_int hx hy (fun w=>by
   have h0: ¬(b:Int) < 0:=by omega
   simp only[binOp,Op.shift,h0,if_false,IntKind.bits,Int.toNat_natCast]
   rw[fdiv_pow];rfl) k hd
end
end Go.Q
namespace Go.Proofs
open Go Go.Q
attribute [local irreducible] pwp pops PCalls OpN
instance blocks_ct (s:Str):FnC Tryz.prog 129 [.str s] (.clo 170 [.pt [.str s] 0]):=⟨by
 refine fn_of Tryz.func129 Tryz.ntmps129 rfl (rs:= [.tmp 2]) rfl rfl fun hb LF=>?_
 refine wf ?_
 exact end1 (.refl _)⟩
theorem blks_len {s b:Str} (h:b∈blks s):b.length=64:=by
 obtain⟨k,hk,rfl⟩:=List.mem_map.1 h
 have:=List.mem_range.1 hk
 rw[blk,List.length_take,List.length_drop]
 omega
theorem blks_fold (s:Str):(blks s).foldl rStep rH=rBlocks (rPad s) ((rPad s).length / 64):=by
 rw[blks,List.foldl_map];rfl
set_option maxHeartbeats 4000000 in
instance SumP_ct (s:Str) [hs:Small (s.length≤1000000)]:FnC Tryz.prog 97 [.str s] (.agg (eDig (rSum s))):=⟨by
 refine fn_of Tryz.func97 Tryz.ntmps97 rfl (rs:= [.cell 2 25]) rfl rfl fun hb LF=>?_
 have hl:=hs.out
 have j2:LenIs (eW (List.replicate 8 0)) 8:=⟨rfl⟩
 have j3:LenIs (eW rH) 8:=⟨rfl⟩
 refine walkWb fun b2=>?_
 refine walkWbp fun b3=>?_
 refine pwp_rangeFunc (blocks_iter s hl) [12] (σ:=List Nat) (fun pre h=>h=pre.foldl rStep rH∧h.length=8) (fun _ _=>False) (fun h LF'=> .box b3 173 (eW h):: .box b2 25 (eDig Dig.zero)::LF') rH LF ?_ rfl (fun _=>rfl) (by simp) (fun s' LF'=>rfl) (.refl _) ⟨rfl,rfl⟩ ?_ ?_ ?_
 ·exact .refl _
 ·rintro pre x h LF' hpx ⟨hh,h8⟩
  have hx:x∈blks s:=hpx.subset (by simp)
  have i1:Small (x.length=64):=⟨blks_len hx⟩
  have i2:Small (h.length=8):=⟨h8⟩
  have j4:LenIs (eW h) 8:=⟨by rw[len_eW,h8]⟩
  have j5:LenIs (eW (rStep h x)) 8:=⟨by rw[len_eW,rStep_len h8]⟩
  refine walkW ?_
  refine⟨rStep h x,⟨by rw[List.foldl_append,←hh];rfl,rStep_len h8⟩,.refl _⟩
 ·rintro h ⟨hh,h8⟩
  rw[blks_fold]at hh
  have hrs:rSum s=(List.range 32).foldl (rByte h) Dig.zero:=by rw[rSum,←hh]
  rw[hrs]
  have j4:LenIs (eW h) 8:=⟨by rw[len_eW,h8]⟩
  refine walkWb fun b5=>?_
  refine pwp_loopS (σ:=Nat × Dig) (fun k=>k.1≤8∧k.2=(List.range (4*k.1)).foldl (rByte h) Dig.zero) (fun k=>8 - k.1) (fun k=> [(2,.raw (.pointer (some ⟨b2,0,none⟩))),(5,.raw (.pointer (some ⟨b5,0,none⟩))),(16,.agg (eW h)),(17,.raw (.int .i64 k.1))]) (fun k=> .box b5 25 (eDig k.2):: .box b2 25 (eDig Dig.zero)::LF) (0,Dig.zero) ⟨by simp,rfl⟩ ⟨rfl,rfl,rfl,rfl⟩ (.cons_cons _ (.cons _ (.refl _))) ?_
  rintro⟨k,d⟩ ⟨hk,hd⟩
  dsimp only at hk hd ⊢
  refine walkW ?_
  refine pwp_condD (fun hc=>?_) (fun hc=>?_)
  ·refine walkW ?_
   refine s_indexA rfl rfl h8 (by omega) ?_
   refine walkW ?_
   refine pwp_loopS (σ:=Nat × Dig) (fun j=>j.1≤4∧j.2=(List.range (4*k+j.1)).foldl (rByte h) Dig.zero) (fun j=>4 - j.1) (fun j=> [(2,.raw (.pointer (some ⟨b2,0,none⟩))),(5,.raw (.pointer (some ⟨b5,0,none⟩))),(6,.raw (.int .i64 k)),(7,.raw (.int .u32 ((h.getD k 0:Nat):Int))),(16,.agg (eW h)),(17,.raw (.int .i64 k)),(21,.raw (.int .i64 j.1))]) (fun j=> .box b5 25 (eDig j.2):: .box b2 25 (eDig Dig.zero)::LF) (0,d) ⟨by simp,hd⟩ ⟨rfl,rfl,rfl,rfl,rfl,rfl,rfl⟩ (.refl _) ?_
   rintro⟨j,e⟩ ⟨hj,he⟩
   dsimp only at hj he ⊢
   refine walkW ?_
   refine pwp_condD (fun hc2=>?_) (fun hc2=>?_)
   ·refine walkW ?_
    refine s_shrWI (a:=h.getD k 0) (b:=24 - 8*j) rfl (by show PV.raw (.int .i64 (24 - 8*(j:Int)))=_;rw[show(24 - 8*(j:Int))=((24 - 8*j:Nat):Int) by omega]) ?_
    refine walkW ?_
    have er:rByte h e (4*k+j)=e.put (4*k+j) (UInt8.ofNat (shrW (h.getD k 0) (24 - 8*j))):=by
     rw[rByte,show(4*k+j) / 4=k by omega,show(4*k+j) % 4=j by omega]
    refine⟨(j+1,rByte h e (4*k+j)),⟨by dsimp only;omega,by dsimp only;rw[show 4*k+(j+1)=4*k+j+1 by omega,foldl_range_succ,←he]⟩,by dsimp only;omega,⟨rfl,rfl,rfl,rfl,rfl,rfl,rfl⟩,?_⟩
    dsimp only
    rw[er,show(4*(k:Int)+(j:Int)).toNat=4*k+j by omega]
    exact .refl _
   ·have hj4:j=4:=by omega
    subst hj4
    refine walkW ?_
    exact⟨(k+1,e),⟨by dsimp only;omega,by dsimp only;rw[he,show 4*(k+1)=4*k+4 by omega]⟩,by dsimp only;omega,⟨rfl,rfl,rfl,rfl⟩,.refl _⟩
  ·have hk8:k=8:=by omega
   subst hk8
   refine walkW ?_
   refine endC rfl (.of_eq ?_)
   rw[hd]
 ·intro pre s' h
  exact h.elim⟩
end Go.Proofs
namespace Go.Proofs
open Go Go.Q
attribute [local irreducible] pwp pops PCalls OpN
instance IdPP_ct (p:Pat) [hs:Small (rBig p=false)]:FnC Tryz.prog 56 [.agg (ePat p)] (.tuple [.agg (eDig (rId p).1),.raw (.int .i64 (rId p).2)]):=⟨by
 have i1:Small ((rEncodeP p).1.length≤1000000):=⟨by have:=rEncodeP_len p;omega⟩
 refine fn_of Tryz.func56 Tryz.ntmps56 rfl (rs:= [.cell 2 25,.tmp 3]) rfl rfl fun hb LF=>?_
 refine wf ?_
 refine s_alloc fun b2=>?_
 refine wf ?_
 refine pwp_condN (fun h=>?_) (fun h=>?_)
 ·refine wf ?_
  refine endC1 rfl ?_
  rw[rId,if_pos h]
  exact .refl _
 ·refine wf ?_
  refine endC1 rfl ?_
  rw[rId,if_neg (by simpa using h)]
  exact .refl _⟩
instance search1_ct (x:Sto) (d:Dig):FnC Tryz.prog 108 [.agg (eSto x),.agg (eDig d)] (.raw (.int .i64 (cmpD x.id d))):=⟨by
 refine fn_of Tryz.func108 Tryz.ntmps108 rfl (rs:= [.tmp 4]) rfl rfl fun hb LF=>?_
 refine wf ?_
 exact end1 (.refl _)⟩
def posD (s:List Sto) (d:Dig):Nat:=s.findIdx fun x=>decide (0≤cmpD x.id d)
theorem posD_of {s:List Sto} {d:Dig} {i:Nat} (hi:i≤s.length) (h1: ∀ k (h:k < s.length),k < i→cmpD s[k].id d < 0) (h2: ∀ k (h:k < s.length),i≤k→0≤cmpD s[k].id d):posD s d=i:=by
 unfold posD
 rcases Nat.lt_or_ge i s.length with h|h
 ·refine(List.findIdx_eq h).2 ⟨decide_eq_true (h2 i h (Nat.le_refl _)),fun j hj=>decide_eq_false ?_⟩
  have:=h1 j (by omega) hj
  omega
 ·have e:i=s.length:=by omega
  subst e
  refine List.findIdx_eq_length.2 fun x hx=>decide_eq_false ?_
  obtain⟨k,hk,rfl⟩:=List.mem_iff_getElem.1 hx
  have:=h1 k hk hk
  omega
theorem posD_mem {s:List Sto} (ha:Asc (ids s)) {d:Dig} {i:Nat} (h1: ∀ k (h:k < s.length),k < i→cmpD s[k].id d < 0) (h2: ∀ k (h:k < s.length),i≤k→0≤cmpD s[k].id d):d∈ids s↔ ∃ h:i < s.length,cmpD s[i].id d=0:=by
 constructor
 ·intro h
  obtain⟨x,hx,rfl⟩:=List.mem_map.1 h
  obtain⟨k,hk,rfl⟩:=List.mem_iff_getElem.1 hx
  have hz:cmpD s[k].id s[k].id=0:=cmpD_zero.2 rfl
  have hik:i≤k:=by
   rcases Nat.lt_or_ge k i with h'|h'
   ·have:=h1 k hk h';omega
   ·exact h'
  have hi:i < s.length:=by omega
  refine⟨hi,?_⟩
  rcases Nat.lt_or_ge i k with h'|h'
  ·have hp:=List.pairwise_iff_getElem.1 ha i k (by simpa [ids]using hi) (by simpa [ids]using hk) h'
   simp only[ids,List.getElem_map]at hp
   have:=h2 i hi (Nat.le_refl _)
   have hp:cmpD s[i].id s[k].id < 0:=hp
   omega
  ·have e:i=k:=by omega
   subst e;exact hz
 ·rintro⟨h,e⟩
  rw[←cmpD_zero.1 e]
  exact List.mem_map.2 ⟨s[i],List.getElem_mem h,rfl⟩
theorem asc_le {s:List Sto} (ha:Asc (ids s)) {i k:Nat} (hk:k < s.length) (hik:i≤k) {d:Dig}:(cmpD s[k].id d < 0→cmpD s[i].id d < 0)∧(0≤cmpD s[i].id d→0≤cmpD s[k].id d):=by
 rcases Nat.lt_or_ge i k with h|h
 ·have hp:=List.pairwise_iff_getElem.1 ha i k (by simp[ids];omega) (by simpa [ids]using hk) h
  simp only[ids,List.getElem_map]at hp
  refine⟨fun h'=>Dig.lt_trans hp h',fun h'=>?_⟩
  rcases Int.lt_or_le (cmpD s[k].id d) 0 with h2|h2
  ·have:cmpD s[i].id d < 0:=Dig.lt_trans hp h2
   omega
  ·exact h2
 ·have e:i=k:=by omega
  subst e;exact⟨id,id⟩
set_option maxHeartbeats 1000000 in
theorem binary_fn (s:List Sto) (t:Tag) (d:Dig) (ha:Asc (ids s)) (hl:s.length≤1000000):FnC Tryz.prog 107 [.slice (s.map eSto) t,.agg (eDig d),.clo 108 []] (.tuple [.raw (.int .i64 (posD s d)),.raw (.bool (decide (d∈ids s)))]):=⟨by
 refine fn_of Tryz.func107 Tryz.ntmps107 rfl (rs:= [.tmp 6,.tmp 7]) rfl rfl fun hb LF=>?_
 refine wf ?_
 refine pwp_loopS (σ:=Nat × Nat) (fun k=>k.1≤k.2∧k.2≤s.length∧(∀ i (h:i < s.length),i < k.1→cmpD s[i].id d < 0)∧(∀ i (h:i < s.length),k.2≤i→0≤cmpD s[i].id d)) (fun k=>k.2 - k.1) (fun k=> [(0,.slice (s.map eSto) t),(2,.clo 108 []),(4,.pt (eDig d) 0),(8,.raw (.int .i64 s.length)),(9,.raw (.int .i64 k.1)),(10,.raw (.int .i64 k.2))]) (fun _=>LF) (0,s.length) ⟨by simp,by simp,fun i h h'=>by omega,fun i h h'=>by omega⟩ ⟨rfl,rfl,rfl,rfl,rfl,rfl⟩ (.refl _) ?_
 rintro⟨i,j⟩ ⟨hij,hjn,h1,h2⟩
 dsimp only at hij hjn h1 h2 ⊢
 refine wf ?_
 refine pwp_condD (fun hc=>?_) (fun hc=>?_)
 ·have hlt:i < j:=by omega
  obtain⟨m,hm⟩: ∃ m,m=(i+j) / 2 ^ (min 1 64):=⟨_,rfl⟩
  have hm2:m=(i+j) / 2:=hm
  have hmn:m < s.length:=by omega
  refine wf ?_
  refine s_convI (n:=(((i+j) / 2 ^ (min 1 64):Nat):Int)) rfl (IntWalk.i64_in _ ⟨by omega,by omega⟩) ?_
  rw[←hm]
  refine wf ?_
  refine pwp_condD (fun h=>?_) (fun h=>?_)
  ·refine wf ?_
   exact⟨(m+1,j),⟨by dsimp only;omega,hjn,fun k hk hkm=>(asc_le (d:=d) ha hmn (by omega)).1 h,h2⟩,by dsimp only;omega,⟨rfl,rfl,rfl,rfl,rfl,rfl⟩,.refl _⟩
  ·refine wf ?_
   exact⟨(i,m),⟨by dsimp only;omega,by dsimp only;omega,h1,fun k hk hkm=>(asc_le (d:=d) ha hk hkm).2 (Int.not_lt.1 h)⟩,by dsimp only;omega,⟨rfl,rfl,rfl,rfl,rfl,rfl⟩,.refl _⟩
 ·have e:i=j:=by omega
  subst e
  refine Decidable.byCases (p:=i < s.length) (fun hin=>?_) (fun hin=>?_)
  ·have g:decide ((i:Int) < (s.length:Int))=true:=decide_eq_true (by omega)
   refine wf ?_
   refine end2 (.of_eq ?_)
   have hpm:=posD_mem ha h1 h2
   rw[posD_of hjn h1 h2]
   have e2:decide (d∈ids s)=decide (cmpD s[i].id d=0):=by
    rw[decide_eq_decide,hpm]
    exact⟨fun⟨_,h⟩=>h,fun h=>⟨hin,h⟩⟩
   rw[e2]
  ·have g:decide ((i:Int) < (s.length:Int))=false:=decide_eq_false (by omega)
   refine wf ?_
   refine end2 (.of_eq ?_)
   have hpm:=posD_mem ha h1 h2
   rw[posD_of hjn h1 h2,decide_eq_false (fun h=>hin (hpm.1 h).1)]⟩
theorem searchP_fn (s:List Sto) (t:Tag) (d:Dig) (ha:Asc (ids s)) (hl:s.length≤1000000):FnC Tryz.prog 69 [.slice (s.map eSto) t,.agg (eDig d)] (.tuple [.raw (.int .i64 (posD s d)),.raw (.bool (decide (d∈ids s)))]):=⟨by
 have i1: ∀ t,FnC Tryz.prog 107 [.slice (s.map eSto) t,.agg (eDig d),.clo 108 []] (.tuple [.raw (.int .i64 (posD s d)),.raw (.bool (decide (d∈ids s)))]):=fun t=>binary_fn s t d ha hl
 refine fn_of Tryz.func69 Tryz.ntmps69 rfl (rs:= [.tmp 4,.tmp 5]) rfl rfl fun hb LF=>?_
 refine wf ?_
 exact end2 (.refl _)⟩
theorem lacks1_fn (s:List Sto) (t:Tag) (d:Dig) (ha:Asc (ids s)) (hl:s.length≤1000000):FnC Tryz.prog 98 [.agg (eDig d),.pt [.slice (s.map eSto) t] 0] (.raw (.bool (!decide (d∈ids s)))):=⟨by
 have i1: ∀ t,FnC Tryz.prog 69 [.slice (s.map eSto) t,.agg (eDig d)] (.tuple [.raw (.int .i64 (posD s d)),.raw (.bool (decide (d∈ids s)))]):=fun t=>searchP_fn s t d ha hl
 refine fn_of Tryz.func98 Tryz.ntmps98 rfl (rs:= [.tmp 3]) rfl rfl fun hb LF=>?_
 refine wf ?_
 exact end1 (.refl _)⟩
theorem lacks_fn (s:List Sto) (t:Tag) (p:Pat) (ha:Asc (ids s)) (hl:s.length≤1000000) (hg:rBig p=false):FnC Tryz.prog 57 [.slice (s.map eSto) t,.agg (ePat p)] (.raw (.bool (!allIn (ids s) (rNeeds p)))):=⟨by
 have i0:Small (rBig p=false):=⟨hg⟩
 have i1: ∀ t d,FnC Tryz.prog 98 [.agg (eDig d),.pt [.slice (s.map eSto) t] 0] (.raw (.bool (!decide (d∈ids s)))):=fun t d=>lacks1_fn s t d ha hl
 have i2: ∀ t u,FnC Tryz.prog 74 [.slice ((rNeeds p).map eDig) t,.clo 98 [.pt [.slice (s.map eSto) u] 0]] (.raw (.bool ((rNeeds p).any fun d=>!decide (d∈ids s)))):=fun t u=>containsD_fn 98 [.pt [.slice (s.map eSto) u] 0] (fun d=>!decide (d∈ids s)) (rNeeds p) t
 refine fn_of Tryz.func57 Tryz.ntmps57 rfl (rs:= [.tmp 4]) rfl rfl fun hb LF=>?_
 refine wf ?_
 refine end1 (.of_eq ?_)
 rw[allIn,List.not_all_eq_any_not]⟩
end Go.Proofs
namespace Go.Proofs
open Go Go.Q
attribute [local irreducible] pwp pops PCalls OpN
instance trw_set:TRw Tryz.prog 23 70 37 120:=⟨by
 have h2:(Tryz.prog.info? 70).map (fun i=>(i.size,i.bytes,i.zero.isSome,(i.zero.getD undef).cells.size))=some (37,120,true,37):=by kernel_rfl
 obtain⟨i,hi,e⟩:=Option.map_eq_some_iff.1 h2
 simp only[Prod.mk.injEq]at e
 obtain⟨e1,e2,e3,e4⟩:=e
 obtain⟨z,hz⟩:=Option.isSome_iff_exists.1 e3
 rw[hz]at e4
 exact⟨i,z,by kernel_rfl,hi,e1,e2,hz,e4,by decide,by decide⟩⟩
instance trw_sto:TRw Tryz.prog 22 70 37 120:=⟨by
 obtain⟨i,z,_,h⟩:=trw_set.out
 exact⟨i,z,by kernel_rfl,h⟩⟩
theorem splice_len {X cs:List Value} {o:Nat} (h:o+cs.length≤X.length):(splice X o cs).length=X.length:=by
 unfold splice
 simp only[List.length_append,List.length_take,List.length_drop];omega
theorem splice_at {X cs:List Value} {o:Nat} (h:o+cs.length≤X.length) (k:Nat):(splice X o cs)[k]? =if k < o then X[k]? else if k < o+cs.length then cs[k - o]? else X[k]?:=by
 unfold splice
 have h1:(X.take o).length=o:=by rw[List.length_take];omega
 by_cases a:k < o
 ·rw[if_pos a,List.append_assoc,List.getElem?_append_left (by omega),List.getElem?_take_of_lt a]
 ·rw[if_neg a,List.append_assoc,List.getElem?_append_right (by omega),h1]
  by_cases b:k < o+cs.length
  ·rw[if_pos b,List.getElem?_append_left (by omega)]
  ·rw[if_neg b,List.getElem?_append_right (by omega),List.getElem?_drop]
   congr 1;omega
theorem target_at {us cv:List Value} {a:Nat} (h:a≤us.length) (k:Nat):(us.take a++cv++us.drop a)[k]? =if k < a then us[k]? else if k < a+cv.length then cv[k - a]? else us[k - cv.length]?:=by
 have h1:(us.take a).length=a:=by rw[List.length_take];omega
 by_cases b:k < a
 ·rw[if_pos b,List.append_assoc,List.getElem?_append_left (by omega),List.getElem?_take_of_lt b]
 ·rw[if_neg b,List.append_assoc,List.getElem?_append_right (by omega),h1]
  by_cases c:k < a+cv.length
  ·rw[if_pos c,List.getElem?_append_left (by omega)]
  ·rw[if_neg c,List.getElem?_append_right (by omega),List.getElem?_drop]
   congr 1;omega
theorem target_len {us cv:List Value} {a:Nat} (h:a≤us.length):(us.take a++cv++us.drop a).length=us.length+cv.length:=by
 simp only[List.length_append,List.length_take,List.length_drop];omega
theorem grow_target {us cv zs:List Value} {a:Nat} (h:a≤us.length) (hz:cv.length+(us.length - a)≤zs.length):(splice (splice (us.take a++zs) a cv) (a+cv.length) (us.drop a)).take (us.length+cv.length)=us.take a++cv++us.drop a:=by
 have h1:(us.take a).length=a:=by rw[List.length_take];omega
 have hX:(us.take a++zs).length=a+zs.length:=by rw[List.length_append,h1]
 have hB:(us.drop a).length=us.length - a:=List.length_drop
 have q1:a+cv.length≤(us.take a++zs).length:=by omega
 have q2:=splice_len q1
 have q3:a+cv.length+(us.drop a).length≤(splice (us.take a++zs) a cv).length:=by omega
 refine List.ext_getElem? fun k=>?_
 rw[target_at h,List.getElem?_take]
 by_cases hk:k < us.length+cv.length
 ·rw[if_pos hk,splice_at q3,splice_at q1]
  by_cases b:k < a
  ·rw[if_pos (by omega),if_pos b,if_pos b,List.getElem?_append_left (by omega),List.getElem?_take_of_lt b]
  ·rw[if_neg b,if_neg b]
   by_cases c:k < a+cv.length
   ·rw[if_pos c,if_pos c,if_pos c]
   ·rw[if_neg c,if_pos (by omega),if_neg c,List.getElem?_drop]
    congr 1;omega
 ·rw[if_neg hk,if_neg (by omega),if_neg (by omega),List.getElem?_eq_none (by omega)]
theorem shift_target {us cv X:List Value} {a:Nat} (h:a≤us.length) (hX:us.length+cv.length≤X.length) (ht:X.take us.length=us):(splice (splice X (a+cv.length) (us.drop a)) a cv).take (us.length+cv.length)=us.take a++cv++us.drop a:=by
 have hB:(us.drop a).length=us.length - a:=List.length_drop
 have q1:a+cv.length+(us.drop a).length≤X.length:=by omega
 have q2:=splice_len q1
 have q3:a+cv.length≤(splice X (a+cv.length) (us.drop a)).length:=by omega
 refine List.ext_getElem? fun k=>?_
 rw[target_at h,List.getElem?_take]
 by_cases hk:k < us.length+cv.length
 ·rw[if_pos hk,splice_at q3,splice_at q1]
  by_cases b:k < a
  ·rw[if_pos b,if_pos (by omega),if_pos b]
   conv=>rhs;rw[←ht]
   rw[List.getElem?_take_of_lt (by omega)]
  ·rw[if_neg b,if_neg b]
   by_cases c:k < a+cv.length
   ·rw[if_pos c,if_pos c]
   ·rw[if_neg c,if_neg c,if_neg c,if_pos (by omega),List.getElem?_drop]
    congr 1;omega
 ·rw[if_neg hk,if_neg (by omega),if_neg (by omega),List.getElem?_eq_none (by omega)]
theorem cellsAt_take {cur:Array Value} {us:List Value} (h:cur.toList.take us.length=us) (a:Nat):CellsAt cur 0 (us.take a):=fun j hj=>by
 rw[List.length_take]at hj
 rw[Nat.zero_add,List.getElem_take,←List.getElem?_eq_getElem (by omega)]
 conv=>rhs;rw[←h]
 rw[List.getElem?_take_of_lt (by omega)]
theorem cellsAt_drop {cur:Array Value} {us:List Value} (h:cur.toList.take us.length=us) (a:Nat):CellsAt cur a (us.drop a):=fun j hj=>by
 rw[List.length_drop]at hj
 rw[List.getElem_drop,←List.getElem?_eq_getElem (by omega)]
 conv=>rhs;rw[←h]
 rw[List.getElem?_take_of_lt (by omega)]
set_option maxHeartbeats 2000000 in
theorem insert_raw (v:Value) (n:Nat) (us:List Value) (R:List Res) (hv:RowG 70 37 v n us R) (i:Nat) (hi:i≤n) (hn:n≤1000) (rv:Nat) (cv:Array Value) (hcv:cv.size=37) (h1v: ∀ x∈cv.toList,x.oneCell'=true) (h1u: ∀ x∈us,x.oneCell'=true):
  PCalls Tryz.prog 71 [.raw v,.raw (.int .i64 (i:Int)),.raw (.slice (some ⟨rv,0,none⟩) 1 1)] (R++ [.raw rv (.cells cv 70 (0,0))])
   (fun x L'=> ∃ v' R',x= .raw v'∧RowG 70 37 v' (n+1) (us.take (i*37)++cv.toList++us.drop (i*37)) R'∧L'=R'++ [.raw rv (.cells cv 70 (0,0))]):=by
 refine pcalls_bd Tryz.func71 rfl Tryz.ntmps71 (rs:= [.tmp 6]) rfl rfl fun hb LF=>?_
 have hul:=hv.len
 have hcl:cv.toList.length=37:=by simpa using hcv
 have hcat:CellsAt cv 0 cv.toList:=fun j hj=>by rw[Nat.zero_add,List.getElem?_eq_getElem hj]
 obtain⟨o,c,hvs⟩:=hv.slice
 have hnc:n≤c:=by cases hv<;>(injection hvs with _ _ e;omega)
 subst hvs
 refine wf ?_
 refine s_cutAny rfl rfl hi hnc fun u=>?_
 refine wf ?_
 refine s_lenR rfl ?_
 refine wf ?_
 refine s_lenR rfl ?_
 refine wf ?_
 refine pwp_condD (fun h=>?_) (fun h=>?_)
 ·have hin:i=n:=by omega
  subst hin
  refine wf ?_
  refine s_appRR (us:=us) (vs:=cv.toList) (R:=R) (LF:= .raw rv (.cells cv 70 (0,0))::LF) (fun R'=>R'++(.raw rv (.cells cv 70 (0,0))::LF)) rfl rfl hv (.of_eq (by simp)) (fun R'=> .refl _) (by omega) h1v ⟨cv,_,_,List.mem_cons_self,hcat⟩ (by omega) (by omega) fun v' R' hv'=>?_
  refine wf ?_
  refine wf ?_
  refine⟨trivial,_,R'++ [.raw rv (.cells cv 70 (0,0))],.cons (.tmp 6) .nil,by rw[List.append_assoc];exact .refl _,v',R',rfl,?_,rfl⟩
  rw[List.take_of_length_le (by omega),List.drop_eq_nil_of_le (by omega),List.append_nil]
  exact hv'
 have hin:i < n:=by omega
 cases hv with
 |nil o ho=>omega
 |row hlc hs hu hc=>
 rename_i r cur
 have hc':cur.toList.take us.length=us:=by rw[hul];exact hc
 have hcs:cur.toList.length=c*37:=by simpa using hs
 have hia:i*37≤us.length:=by omega
 have htl:(us.take (i*37)).length=i*37:=by rw[List.length_take];omega
 have hdl:(us.drop (i*37)).length=(n - i)*37:=by rw[List.length_drop];omega
 refine wf ?_
 refine s_capR rfl ?_
 refine wf ?_
 refine pwp_condD (fun h2=>?_) (fun h2=>?_)
 ·refine wf ?_
  refine s_cutC 0 i rfl (by omega) (by omega) (by omega) hlc (fun _ e=>by cases e) (fun _=>rfl) (fun o e=>by cases e;exact⟨_,rfl⟩) (fun e=>by cases e) ?_
  refine wf ?_
  refine s_appZ (T₂:=3) (us:=us.take (i*37)) (n:=i) (m:=n+1 - i) (c:=c) (o:=0) (cur:=cur) (by kernel_rfl) rfl (by show PV.raw (Value.int .i64 ((n:Int)+1 - i))=PV.raw (Value.int .i64 ((n+1 - i:Nat):Int));congr 2;omega) List.mem_cons_self rfl htl (cellsAt_take hc' _) (by omega) (by omega) (by omega) (by omega) fun r' nc zs hnc hzl=>?_
  have e1:i+(n+1 - i)=n+1:=by omega
  rw[e1]at hnc ⊢
  have hz37:cv.toList.length+(us.length - i*37)≤zs.length:=by
   rw[List.length_append,htl]at hzl
   have:(n+1)*37≤nc*37:=Nat.mul_le_mul_right _ hnc
   omega
  refine wf ?_
  refine wf ?_
  refine s_cutC i (n+1) rfl (by omega) hnc (by omega) hnc (fun o e=>by cases e;exact⟨_,rfl⟩) (fun e=>by cases e) (fun _ e=>by cases e) (fun _=>rfl) ?_
  refine wf ?_
  refine s_copyR (r:=r') (cur:=(us.take (i*37)++zs).toArray) cv.toList (fun c=>c::([.raw r (.cells cur 70 (0,0))]++ [.raw rv (.cells cv 70 (0,0))]++LF)) rfl rfl (.refl _) (fun c=> .refl _) (by rw[show Nat.min 1 (n+1 - i)=1 by show min 1 (n+1 - i)=1;omega];omega) h1v (by simp only[List.size_toArray,List.length_append,htl];omega) ⟨cv,_,_,List.mem_cons_of_mem _ (List.mem_cons_of_mem _ List.mem_cons_self),hcat⟩ ?_
  rw[show 0+i*37=i*37 from Nat.zero_add _]
  rw[show(us.take (i*37)++zs).toArray.toList=us.take (i*37)++zs from rfl]
  refine pops_nil ?_
  refine wn ?_
  refine pwp_drawN 8 ?_ ?_
  ·decide+kernel
  refine wf ?_
  refine s_cutC (i+1) (n+1) rfl (by omega) hnc (by omega) hnc (fun o e=>by cases e;exact⟨_,rfl⟩) (fun e=>by cases e) (fun _ e=>by cases e) (fun _=>rfl) ?_
  refine wf ?_
  refine s_cutC i n rfl (by omega) (by omega) (by omega) hlc (fun o e=>by cases e;exact⟨_,rfl⟩) (fun e=>by cases e) (fun _ e=>by cases e) (fun _=>rfl) ?_
  refine wf ?_
  have hsp:(splice (us.take (i*37)++zs) (i*37) cv.toList).length=nc*37:=by
   rw[splice_len (by rw[List.length_append,htl];omega),hzl]
  have hnz:(n+1)*37≤nc*37:=Nat.mul_le_mul_right _ hnc
  refine s_copyR (r:=r') (cur:=(splice (us.take (i*37)++zs) (i*37) cv.toList).toArray) (us.drop (i*37)) (fun c=>c::([.raw r (.cells cur 70 (0,0))]++ [.raw rv (.cells cv 70 (0,0))]++LF)) rfl rfl (.refl _) (fun c=> .refl _) (by rw[show Nat.min (n - i) (n+1 - (i+1))=n - i by show min (n - i) (n+1 - (i+1))=n - i;omega];exact hdl) (fun x hx=>h1u x (List.mem_of_mem_drop hx)) (by rw[List.size_toArray,hsp,hdl];omega) ⟨cur,_,_,List.mem_cons_of_mem _ List.mem_cons_self,by rw[Nat.zero_add];exact cellsAt_drop hc' _⟩ ?_
  rw[show 0+(i+1)*37=(i+1)*37 from Nat.zero_add _]
  rw[show(splice (us.take (i*37)++zs) (i*37) cv.toList).toArray.toList=splice (us.take (i*37)++zs) (i*37) cv.toList from rfl]
  refine wf ?_
  refine wf ?_
  refine⟨trivial,_,[.raw r' (.cells (splice (splice (us.take (i*37)++zs) (i*37) cv.toList) ((i+1)*37) (us.drop (i*37))).toArray 70 (0,0))]++ [.raw rv (.cells cv 70 (0,0))],.cons (.tmp 6) .nil,.cons_cons _ (.cons _ (.refl _)),_,_,rfl,.row hnc ?_ ?_ ?_,rfl⟩
  ·rw[List.size_toArray,splice_len (by rw[hsp,hdl];omega),hsp]
  ·rw[target_len hia,hul];omega
  ·have e3:=grow_target (us:=us) (cv:=cv.toList) (zs:=zs) hia hz37
   rw[hcl,hul,show i*37+37=(i+1)*37 by omega,show n*37+37=(n+1)*37 by omega]at e3
   exact e3
 have hroom:n+1≤c:=by omega
 have hnz:(n+1)*37≤c*37:=Nat.mul_le_mul_right _ hroom
 refine wf ?_
 refine s_cutC 0 (n+1) rfl (by omega) hroom (by omega) hlc (fun _ e=>by cases e) (fun _=>rfl) (fun o e=>by cases e;exact⟨_,rfl⟩) (fun e=>by cases e) ?_
 refine wf ?_
 refine s_cutC (i+1) (n+1) rfl (by omega) (by omega) (by omega) (by omega) (fun o e=>by cases e;exact⟨_,rfl⟩) (fun e=>by cases e) (fun _ e=>by cases e) (fun _=>rfl) ?_
 refine s_overlaps (f:=109) (T:=22) (B:=4) (L':=LF) Tryz.func109 (by kernel_rfl) (by kernel_rfl) (by kernel_rfl) (by kernel_rfl) rfl rfl (.swap _ _ _) (by omega) ?_
 refine wo ?_
 refine pops_nil ?_
 refine wn ?_
 refine pwp_drawN 8 ?_ ?_
 ·decide+kernel
 refine wf ?_
 refine s_cutC (i+1) (n+1) rfl (by omega) (by omega) (by omega) (by omega) (fun o e=>by cases e;exact⟨_,rfl⟩) (fun e=>by cases e) (fun _ e=>by cases e) (fun _=>rfl) ?_
 refine wf ?_
 refine s_cutC i (n+1) rfl (by omega) (by omega) (by omega) (by omega) (fun o e=>by cases e;exact⟨_,rfl⟩) (fun e=>by cases e) (fun _ e=>by cases e) (fun _=>rfl) ?_
 refine wf ?_
 refine s_copyR (r:=r) (cur:=cur) (us.drop (i*37)) (fun c=>c::([.raw rv (.cells cv 70 (0,0))]++LF)) rfl rfl (.refl _) (fun c=> .refl _) (by rw[hdl];congr 1;show n - i=min _ _;omega) (fun x hx=>h1u x (List.mem_of_mem_drop hx)) (by rw[hs,hdl];omega) ⟨cur,_,_,List.mem_cons_self,by rw[show 0+0*37+i*37=i*37 by omega];exact cellsAt_drop hc' _⟩ ?_
 rw[show 0+0*37+(i+1)*37=(i+1)*37 by omega]
 have hsp:(splice cur.toList ((i+1)*37) (us.drop (i*37))).length=c*37:=by
  rw[splice_len (by rw[hcs,hdl];omega),hcs]
 refine pops_nil ?_
 refine wf ?_
 refine s_cutC i (n+1) rfl (by omega) (by omega) (by omega) (by omega) (fun o e=>by cases e;exact⟨_,rfl⟩) (fun e=>by cases e) (fun _ e=>by cases e) (fun _=>rfl) ?_
 refine wf ?_
 refine s_copyR (r:=r) (cur:=(splice cur.toList ((i+1)*37) (us.drop (i*37))).toArray) cv.toList (fun c=>c::([.raw rv (.cells cv 70 (0,0))]++LF)) rfl rfl (.refl _) (fun c=> .refl _) (by rw[hcl];show 37=min 1 _*37;omega) h1v (by rw[List.size_toArray,hsp,hcl];omega) ⟨cv,_,_,List.mem_cons_of_mem _ List.mem_cons_self,hcat⟩ ?_
 rw[show 0+0*37+i*37=i*37 by omega,show(splice cur.toList ((i+1)*37) (us.drop (i*37))).toArray.toList=splice cur.toList ((i+1)*37) (us.drop (i*37)) from rfl]
 refine pops_nil ?_
 refine wf ?_
 refine⟨trivial,_,[.raw r (.cells (splice (splice cur.toList ((i+1)*37) (us.drop (i*37))) (i*37) cv.toList).toArray 70 (0,0))]++ [.raw rv (.cells cv 70 (0,0))],.cons (.tmp 6) .nil,.refl _,_,_,rfl,.row hroom ?_ ?_ ?_,rfl⟩
 ·rw[List.size_toArray,splice_len (by rw[hsp,hcl];omega),hsp,Nat.sub_zero]
 ·rw[target_len hia,hul];omega
 ·have e3:=shift_target (us:=us) (cv:=cv.toList) (X:=cur.toList) hia (by omega) hc'
  rw[hcl,hul,show i*37+37=(i+1)*37 by omega,show n*37+37=(n+1)*37 by omega]at e3
  exact e3
end Go.Proofs
namespace Go.Q
open Go
theorem flat_split {sz:Nat} {xs:List (List PV)} (hs: ∀ e∈xs,e.length=sz) {i:Nat} (hi:i < xs.length):xs.flatten=(xs.take i).flatten++(xs[i]++(xs.drop (i+1)).flatten)∧(xs.take i).flatten.length=i*sz:=by
 constructor
 ·conv=>lhs;rw[←List.take_append_drop i xs,List.flatten_append,List.drop_eq_getElem_cons hi,List.flatten_cons]
 ·rw[flatten_len (sz:=sz) fun e he=>hs e (List.mem_of_mem_take he),List.length_take,Nat.min_eq_left (by omega)]
theorem flat_sub {sz:Nat} {xs:List (List PV)} {rest:List PV} (hs: ∀ e∈xs,e.length=sz) {i:Nat} (hi:i < xs.length):Sub (xs.flatten++rest) (0+i*sz) sz xs[i]:=by
 obtain⟨h1,h2⟩:=flat_split hs hi
 have h3:=hs _ (List.getElem_mem hi)
 rw[Nat.zero_add,h1,List.append_assoc]
 refine⟨?_,?_⟩
 ·rw[←h2,List.drop_left,List.append_assoc,←h3,List.take_left]
 ·simp only[List.length_append];omega
theorem flat_put {sz:Nat} {xs:List (List PV)} {rest new:List PV} (hs: ∀ e∈xs,e.length=sz) {i:Nat} (hi:i < xs.length) (hn:new.length=sz):Put (xs.flatten++rest) (0+i*sz) new ((xs.set i new).flatten++rest):=by
 obtain⟨h1,h2⟩:=flat_split hs hi
 have h3:=hs _ (List.getElem_mem hi)
 have h4:(xs.set i new).flatten=(xs.take i).flatten++(new++(xs.drop (i+1)).flatten):=by
  rw[List.set_eq_take_append_cons_drop,if_pos hi,List.flatten_append,List.flatten_cons]
 rw[Nat.zero_add,h1,h4]
 refine⟨?_,?_⟩
 ·have e1:((xs.take i).flatten++(xs[i]++(xs.drop (i+1)).flatten)++rest).take (i*sz)=(xs.take i).flatten:=by
   rw[List.append_assoc,←h2,List.take_left]
  have e2:((xs.take i).flatten++(xs[i]++(xs.drop (i+1)).flatten)++rest).drop (i*sz+new.length)=(xs.drop (i+1)).flatten++rest:=by
   rw[hn,←h2,←h3,←List.drop_drop,List.append_assoc,List.drop_left,List.append_assoc,List.drop_left]
  rw[e1,e2]
  simp only[List.append_assoc]
 ·simp only[List.length_append];omega
theorem RowB.inv {E sz n c:Nat} {o:Option Addr} {xs:List (List PV)} {R:List Res} (h:RowB E sz (.slice o n c) xs R) (h0:0 < n): ∃ r rest,o=some ⟨r,0,none⟩∧R= [.box r E (xs.flatten++rest)]∧xs.length=n∧n≤c∧(∀ e∈xs,e.length=sz)∧xs.flatten.length+rest.length=c*sz:=by
 generalize hv:Value.slice o n c=v at h
 cases h with
 |nil o' ho=>injection hv with _ e2 _;omega
 |row hn hl hs hc=>injection hv with e1 e2 e3;subst e1 e2 e3;exact⟨_,_,rfl,rfl,hn,hl,hs,hc⟩
theorem RowB.freeze {E sz:Nat} {w:World} {g:Gh} {R L':List Res} {v:Value} {xs:List (List PV)} (hi:Inv w g (R++L')) (hv:RowB E sz v xs R) (hm:xs.length≤maxN∧xs.length*sz≤maxN):
  ∃ g',Inv w g' L'∧Step (blocks (R++L')) w g w g'∧Within w (R++L') L'∧VR g' v (.slice xs .ro):=by
 cases hv with
 |nil o ho=>exact⟨g,hi,.refl _ _ _,.refl _ _,.nilR⟩
 |row hn hl hs hc=>
  rename_i r n cap rest
  subst hn
  obtain⟨us,h1,h2⟩:=Inv.boxRaw hi
  obtain⟨k1,k2,k3,k4,k5⟩:=h2.rawHead
  have hul:us.length=xs.flatten.length+rest.length:=by rw[h1.len,List.length_append]
  let u:=us.take xs.flatten.length
  have hu0:u.length=xs.flatten.length:=by simp only[u,List.length_take];omega
  have hu:VRl g u xs.flatten:=⟨hu0,fun i k1 k2=>by
   have:=h1.at_ i (by omega) (by rw[List.length_append];omega)
   rw[List.getElem_append_left k2]at this
   simpa [u]using this⟩
  have hle:=Gh.le_lay (g:=g) (b:=r) (from_:=0) (us:=u) (fun o _=>k2 o)
  have hcell: ∀ j (h:j < u.length),w.cell? ⟨r,j,none⟩=some u[j]:=fun j h=>by
   have hj:j < us.length:=by omega
   simp only[World.cell?,k1,Option.isSome_none,Bool.false_eq_true,if_false,List.getElem?_toArray]
   rw[List.getElem?_eq_getElem hj]
   simp[u]
  refine⟨g.lay r 0 u,⟨fun b' o v hv=>?_,fun b' z hz=>hi.satM b' z hz,fun r' hr'=>?_,k5.nodup,hi.glob.mono hle⟩,⟨rfl,rfl,⟨rfl,Nat.le_refl _⟩,Nat.le_refl _,fun _ _ _=>rfl,hle,fun k _ hn=>⟨fun o=>Gh.lay_out (fun h=>hn (by rw[h.1];simp[blocks,Res.block])),rfl⟩⟩,fun b hb _=>?_,?_⟩
  ·by_cases hin:b'=r∧0≤o∧o < 0+u.length
   ·obtain⟨rfl,_,h6⟩:=hin
    have hj:o < u.length:=by omega
    have:=Gh.lay_in (g:=g) (b:=b') (from_:=0) hj
    rw[Nat.zero_add,hv]at this
    cases this
    exact hcell o hj
   ·rw[Gh.lay_out hin]at hv;exact hi.sat b' o v hv
  ·exact Res.holds_kept hle (k5.res r' hr') fun b' hb'=>⟨rfl,fun o=>Gh.lay_out (fun h=>k4 (List.mem_filterMap.2 ⟨r',hr',by rw[hb',h.1]⟩)),rfl⟩
  ·simp only[blocks,List.filterMap_append]at hb ⊢;exact List.mem_append_right _ hb
  ·exact VR.of_cells (g:=g.lay r 0 u) (t:= .ro) (sz:=sz) (b:=r) (off:=0) (cap:=cap) hs hl hm (us:=u) (hu.mono hle) (fun j hj=>Gh.lay_in hj) (fun b' cap' e=>by cases e) (by simp)
section
variable {P:Program} {N:Nat} {ρ:Env} {L:List Res}
theorem pwp_freezeB {E sz:Nat} {R L':List Res} {v:Value} {xs:List (List PV)} {c:Code} {Q:PPost} (i:Nat) (hv:RowB E sz v xs R) (hm:xs.length≤maxN∧xs.length*sz≤maxN) (hp:L.Perm (R++L')) (hi:ρ i= .raw v) (k:pwp P N c Q (upd ρ i (.slice xs .ro)) L'):pwp P N c Q ρ L:=
 pwp_ghost (fun base a w g ha hI=>by
  obtain⟨g',h1,h2,h3,h4⟩:=RowB.freeze (hI.perm hp) hv hm
  refine⟨g',⟨ha.size,ha.defers.mono h2.le,fun j=>?_⟩,h1,h2.grow (fun b hb=>(blocks_perm hp).symm.subset hb),fun b hb hlt=>(blocks_perm hp).symm.subset (h3 b hb hlt)⟩
  have hj:=(ha.slot j).mono h2.le
  by_cases e:j=i
  ·subst e
   rw[hi]at hj
   show VR g' _ (upd ρ j _ j)
   rw[upd_self,hj.raw_inv];exact h4
  ·show VR g' _ (upd ρ i _ j)
   rw[upd_ne _ _ e];exact hj) k
end
end Go.Q
namespace Go.Q
open Go
section
variable {P:Program} {N:Nat} {all:Array Oper} {K:Env→List Res→Prop} {fl:List Bool} {os:List Oper} {ρ:Env} {L:List Res} {d:Nat} {ty:TypeId} {pos:String} {af:Array Edge}
theorem s_build1B {T E sz by_:Nat} [hT:TRw P T E sz by_] {x0:Operand} {cs:List PV} (hc:Cells (ρ.ev x0) cs) (hl:cs.length=sz) (h24:sz≤16777216)
  (k: ∀ b,pops P N all K fl.tail os (upd ρ d (.raw (.slice (some ⟨b,0,none⟩) 1 1))) (.box b E cs::L)) (hd:Nat.blt d N=true:=by rfl) (hfl:fl.headD true=true:=by rfl):pops P N all K fl (⟨some d,.buildSlice T 1 #[(0,x0)],ty,pos,af,none⟩::os) ρ L:=
 pops_n rfl (dlt hd) hfl (fun a w g ha hi=>by
  obtain⟨i,z,t1,t2,t3,t4,t5,t6,t7,t8⟩:=hT.out
  obtain⟨us,e1,e2⟩:=hc g _ (ha x0 (by simp[Op.operands]))
  have hul:us.length=sz:=by rw[e2.len,hl]
  have hr:(execOp a.eval ⟨some d,.buildSlice T 1 #[(0,x0)],ty,pos,af,none⟩).run P w= .ok (.value (.slice (some ⟨w.heap.size,0,none⟩) 1 1)) { w with heap:=w.heap.push (.cells us.toArray E (0,0)) }:=by
   have hz: ∀ (zz:Array Value),Instr.fill (fun i=>some (i*sz,sz)) ((Array.range (1*sz)).map (zz[·% zz.size]!)) [(0,a.eval x0)]=some us.toArray:=fun zz=>by
    have e:(Array.range (1*sz)).map (zz[·% zz.size]!)=((List.range (1*sz)).map (zz[·% zz.size]!)).toArray:=by
     apply Array.ext';simp
    have:=fill_all (sz:=sz) [us] [a.eval x0] 0 ((List.range (1*sz)).map (zz[·% zz.size]!)) rfl (fun i h1 h2=>by
     have h0:i=0:=by simp at h1;omega
     subst h0
     exact⟨e1,hul⟩) (by simp)
    rw[e]
    simpa using this
   show(do pure (Next.value (←Instr.buildSlice T 1 (#[(0,x0)].map fun(p:Nat × Operand)=>(p.1,a.eval p.2)))):Sem Next).run P w=_
   simp only[Instr.buildSlice,Sem.run_bind,run_underlying t1,Result.andThen_ok,sizeOf,typeInfo,run_program,t2,Sem.run_pure,t3]
   rw[if_neg (by have:(2:Nat) ^ 24=16777216:=by decide
                 omega)]
   have hzv:(zeroValue E).run P w= .ok z w:=by simp[zeroValue,typeInfo,t2,t5]
   split
   ·simp only[Sem.run_bind,Sem.run_pure,Result.andThen_ok,List.map_toArray,List.map_cons,List.map_nil,hz #[],newRow,run_newObj]
   ·simp only[Sem.run_bind,hzv,Sem.run_pure,Result.andThen_ok,List.map_toArray,List.map_cons,List.map_nil,hz z.cells,newRow,run_newObj]
  obtain⟨j1,j2,j3⟩:=hi.alloc e2 E
  refine Oper.wq_of_run hr ?_
  exact⟨_,.raw _,g,_,rfl,.raw _,j1,j2,j3,k _⟩)
end
end Go.Q
namespace Go.Proofs
open Go Go.Q
attribute [local irreducible] pwp pops PCalls OpN
theorem cloneS_fn (l:List Sto) (t:Tag) (hl:l.length≤1000000):PCalls Tryz.prog 72 [.slice (l.map eSto) t] [] (fun r L'=> ∃ v,r= .raw v∧RowB 70 37 v (l.map eSto) L'):=by
 refine pcalls_bd Tryz.func72 rfl Tryz.ntmps72 (rs:= [.tmp 2]) rfl rfl fun hb LF=>?_
 rw[List.nil_append]
 refine wf ?_
 refine s_eqNil rfl fun b hnil=>?_
 refine wf ?_
 refine pwp_condB (fun h=>?_) (fun h=>?_)
 ·have h0:l= []:=by simpa using hnil h
  subst h0
  refine pwp_seq ?_
  refine pwp_region (by kernel_rfl) ?_
  refine s_assign ?_
  refine pops_nil ?_
  refine wf ?_
  exact⟨trivial,_,[],.cons (.tmp 2) .nil,.refl _,_,rfl,.nil none (by simp)⟩
 refine pwp_skip ?_
 refine pwp_seq ?_
 refine pwp_region (by kernel_rfl) ?_
 refine s_bsRow (vf:=fun(_:Sto)=> []) fun v0 hv0=>?_
 have hv1:RowB 70 37 v0 [] []:=by
  generalize hR:([]:List Res)=R at hv0
  generalize hn:([]:List Sto).length=n at hv0
  unfold RowL at hv0
  rw[hn]at hv0
  cases hv0 with
  |nil o ho=>exact .nil o ho
  |row _ _ _ _=>cases hR
 refine wf ?_
 refine s_appB (f:=eSto) (R:= []) (LF:=LF) (fun R'=>R'++LF) rfl rfl hv1 (.refl _) (fun R'=> .refl _) (by simp only[List.length_nil];omega) (by simp only[List.length_nil];omega) fun v R' hv=>?_
 refine wf ?_
 refine wf ?_
 rw[List.nil_append]at hv
 exact⟨trivial,_,R',.cons (.tmp 2) .nil,.refl _,v,rfl,hv⟩
theorem flat_take {α:Type} {f:α→List PV} {sz:Nat} [hf:Len f sz] (l:List α) (i:Nat) (hi:i≤l.length):(l.map f).flatten.take (i*sz)=((l.take i).map f).flatten∧(l.map f).flatten.drop (i*sz)=((l.drop i).map f).flatten:=by
 have e:(l.map f).flatten=((l.take i).map f).flatten++((l.drop i).map f).flatten:=by
  rw[←List.flatten_append,←List.map_append,List.take_append_drop]
 have hlen:((l.take i).map f).flatten.length=i*sz:=by
  rw[flatten_len (sz:=sz) (fun e he=>by obtain⟨a,_,rfl⟩:=List.mem_map.1 he;exact hf.out a),List.length_map,List.length_take,Nat.min_eq_left hi]
 rw[e]
 exact⟨List.take_left' hlen,List.drop_left' hlen⟩
theorem insertS_fn (v:Value) (l:List Sto) (R:List Res) (hv:RowB 70 37 v (l.map eSto) R) (i:Nat) (hi:i≤l.length) (hn:l.length≤1000) (rv:Nat) (x:Sto):
  PCalls Tryz.prog 71 [.raw v,.raw (.int .i64 (i:Int)),.raw (.slice (some ⟨rv,0,none⟩) 1 1)] (R++ [.box rv 70 (eSto x)])
   (fun r L'=> ∃ v' R',r= .raw v'∧RowB 70 37 v' ((l.take i++x::l.drop i).map eSto) R'∧L'=R'++ [.box rv 70 (eSto x)]):=by
 have hfl: ∀ (m:List Sto),flat (m.map eSto).flatten:=fun m c hc=>by
  obtain⟨e,he,hce⟩:=List.mem_flatten.1 hc
  obtain⟨a,_,rfl⟩:=List.mem_map.1 he
  exact(inferInstance:FlatF eSto).out a c hce
 unfold PCalls
 intro vs w g LF hvv hI
 have hI1:Inv w g (R++([.box rv 70 (eSto x)]++LF)):=by rw[←List.append_assoc];exact hI
 obtain⟨us,R₁,q1,q2,q3,q4⟩:=hv.open hI1
 have hI2:Inv w g (.box rv 70 (eSto x)::(R₁++LF)):=q3.perm List.perm_middle
 obtain⟨uv,p1,p2⟩:=Inv.boxRaw hI2
 have hI3:Inv w g ((R₁++ [.raw rv (.cells uv.toArray 70 (0,0))])++LF):=p2.perm (by rw[List.append_assoc];exact List.perm_middle.symm)
 rw[List.length_map]at q2
 have huv:uv.length=37:=by rw[p1.len];exact(inferInstance:Len eSto 37).out x
 have hbl1:blocks (R₁++ [.raw rv (.cells uv.toArray 70 (0,0))]++LF)=blocks (R++ [.box rv 70 (eSto x)]++LF):=by
  simp only[blocks,List.filterMap_append]at q4 ⊢
  rw[q4];rfl
 have key:=insert_raw v l.length us R₁ q2 i hi hn rv uv.toArray (by simpa using huv) (by simpa using p1.one (fun c hc=>(inferInstance:FlatF eSto).out x c hc)) (q1.one (hfl l))
 unfold PCalls at key
 refine(key vs w g LF hvv hI3).mono ?_
 rintro e w' ⟨v',x',g',L',rfl,k2,k3,k4,k5,v2,R',rfl,k6,rfl⟩
 have k3':Inv w' g' (.raw rv (.cells uv.toArray 70 (0,0))::(R'++LF)):=k3.perm (by rw[List.append_assoc];exact List.perm_middle)
 have k7:Inv w' g' (.box rv 70 (eSto x)::(R'++LF)):=Inv.rawBox k3' (by simpa using p1.mono k4.le)
 have k8:Inv w' g' (R'++([.box rv 70 (eSto x)]++LF)):=k7.perm List.perm_middle.symm
 obtain⟨f1,f2⟩:=flat_take (f:=eSto) (sz:=37) l i hi
 have hus:VRl g' (us.take (i*37)++uv++us.drop (i*37)) ((l.take i++x::l.drop i).map eSto).flatten:=by
  have h1:=(q1.mono k4.le).take (i*37)
  have h2:=(q1.mono k4.le).drop (i*37)
  rw[f1]at h1
  rw[f2]at h2
  rw[List.map_append,List.map_cons,List.flatten_append,List.flatten_cons,←List.append_assoc]
  exact(h1.append (p1.mono k4.le)).append h2
 have hln:((l.take i++x::l.drop i).map eSto).length=l.length+1:=by
  simp only[List.length_map,List.length_append,List.length_take,List.length_cons,List.length_drop];omega
 obtain⟨R2,z1,z2,z3⟩:=RowB.close (xs:=(l.take i++x::l.drop i).map eSto) hln (fun e he=>by obtain⟨a,_,rfl⟩:=List.mem_map.1 he;exact(inferInstance:Len eSto 37).out a) k6 hus k8
 have hbl2:blocks (R2++ [.box rv 70 (eSto x)]++LF)=blocks (R'++ [.raw rv (.cells uv.toArray 70 (0,0))]++LF):=by
  simp only[blocks,List.filterMap_append]at z3 ⊢
  rw[z3];rfl
 refine⟨v',.raw v2,g',R2++ [.box rv 70 (eSto x)],rfl,k2,by rw[List.append_assoc];exact z2,hbl1 ▸ k4,fun b hb hlt=>?_,v2,R2,rfl,z1,rfl⟩
 rw[hbl2]at hb
 rw[←hbl1]
 exact k5 b hb hlt
end Go.Proofs
namespace Go.Proofs
open Go Go.Q
attribute [local irreducible] pwp pops PCalls OpN
instance supers_ct (k:Int):FnC Tryz.prog 136 [.raw (.int .i64 k)] (.raw (.int .i64 (ovK k))):=⟨by
 refine fn_of Tryz.func136 Tryz.ntmps136 rfl (rs:= [.tmp 2]) rfl rfl fun hb LF=>?_
 refine wf ?_
 repeat' (first|(refine pwp_condD (fun h=>?_) (fun h=>?_)<;>refine wf ?_)|(refine pwp_condN (fun h=>?_) (fun h=>?_)<;>refine wf ?_)|(refine pwp_condB (fun h=>?_) (fun h=>?_)<;>refine wf ?_)|(refine pops_if (fun h=>?_) (fun h=>?_)<;>(have h2:=h;(try simp only[decide_eq_true_eq,decide_eq_false_iff_not,Bool.not_eq_true',Bool.not_eq_false']at h2);refine wf ?_)))
 all_goals (refine end1 (.of_eq ?_);simp only[ovK];first|(simp_all;done)|grind)⟩
def ffP (k:Int) (a:Atm):Bool:=if a.kind≠1 then false else if k=5∨k=6 then decide (a.type=1)else if k=4 then decide (a.type=2∨a.type=3)else true
instance fitsFile_ct (k:Int) (a:Atm):FnC Tryz.prog 133 [.raw (.int .i64 k),.agg (eAtm a)] (.raw (.bool (ffP k a))):=⟨by
 refine fn_of Tryz.func133 Tryz.ntmps133 rfl (rs:= [.tmp 4]) rfl rfl fun hb LF=>?_
 refine wf ?_
 repeat' (first|(refine pwp_condD (fun h=>?_) (fun h=>?_)<;>refine wf ?_)|(refine pwp_condN (fun h=>?_) (fun h=>?_)<;>refine wf ?_)|(refine pwp_condB (fun h=>?_) (fun h=>?_)<;>refine wf ?_)|(refine pops_if (fun h=>?_) (fun h=>?_)<;>(have h2:=h;(try simp only[decide_eq_true_eq,decide_eq_false_iff_not,Bool.not_eq_true',Bool.not_eq_false']at h2);refine wf ?_)))
 all_goals (refine end1 (.of_eq ?_);simp only[ffP];first|(simp_all;done)|grind)⟩
def sf4 (x f g:Ident) (a:Atm):Bool:=decide (x=f)||(decide (a.kind=5)&&decide (a.file=g))
def sf5 (k:Int) (g:Ident) (a:Atm):Bool:=decide (k=0)||(decide (a.kind=k)&&decide (a.file=g))
instance sf2_ct (c:Chg) (a:Atm):FnC Tryz.prog 132 [.agg (eAtm a),.pt (eChg c) 0] (.raw (.bool (ffP c.kind a))):=⟨by
 refine fn_of Tryz.func132 Tryz.ntmps132 rfl (rs:= [.tmp 3]) rfl rfl fun hb LF=>?_
 refine wf ?_
 exact end1 (.refl _)⟩
instance sf3_ct (a:Atm):FnC Tryz.prog 134 [.agg (eAtm a)] (.raw (.bool (pf5 a))):=⟨by
 refine fn_of Tryz.func134 Tryz.ntmps134 rfl (rs:= [.tmp 2]) rfl rfl fun hb LF=>?_
 refine wf ?_
 repeat' (first|(refine pwp_condD (fun h=>?_) (fun h=>?_)<;>refine wf ?_)|(refine pwp_condN (fun h=>?_) (fun h=>?_)<;>refine wf ?_)|(refine pwp_condB (fun h=>?_) (fun h=>?_)<;>refine wf ?_)|(refine pops_if (fun h=>?_) (fun h=>?_)<;>(have h2:=h;(try simp only[decide_eq_true_eq,decide_eq_false_iff_not,Bool.not_eq_true',Bool.not_eq_false']at h2);refine wf ?_)))
 all_goals (refine end1 (.of_eq ?_);simp only[pf5];first|(simp_all;done)|grind)⟩
instance sf4_ct (x g:Ident) (c:Chg) (a:Atm):FnC Tryz.prog 135 [.agg (eAtm a),.pt (eIdent x) 0,.pt (eChg c) 0,.pt (eIdent g) 0] (.raw (.bool (sf4 x c.file g a))):=⟨by
 refine fn_of Tryz.func135 Tryz.ntmps135 rfl (rs:= [.tmp 5]) rfl rfl fun hb LF=>?_
 refine wf ?_
 repeat' (first|(refine pwp_condD (fun h=>?_) (fun h=>?_)<;>refine wf ?_)|(refine pwp_condN (fun h=>?_) (fun h=>?_)<;>refine wf ?_)|(refine pwp_condB (fun h=>?_) (fun h=>?_)<;>refine wf ?_)|(refine pops_if (fun h=>?_) (fun h=>?_)<;>(have h2:=h;(try simp only[decide_eq_true_eq,decide_eq_false_iff_not,Bool.not_eq_true',Bool.not_eq_false']at h2);refine wf ?_)))
 all_goals (refine end1 (.of_eq ?_);simp only[sf4];first|(simp_all;done)|grind)⟩
instance sf5_ct (k:Int) (g:Ident) (a:Atm):FnC Tryz.prog 137 [.agg (eAtm a),.pt [.raw (.int .i64 k)] 0,.pt (eIdent g) 0] (.raw (.bool (sf5 k g a))):=⟨by
 refine fn_of Tryz.func137 Tryz.ntmps137 rfl (rs:= [.tmp 4]) rfl rfl fun hb LF=>?_
 refine wf ?_
 repeat' (first|(refine pwp_condD (fun h=>?_) (fun h=>?_)<;>refine wf ?_)|(refine pwp_condN (fun h=>?_) (fun h=>?_)<;>refine wf ?_)|(refine pwp_condB (fun h=>?_) (fun h=>?_)<;>refine wf ?_)|(refine pops_if (fun h=>?_) (fun h=>?_)<;>(have h2:=h;(try simp only[decide_eq_true_eq,decide_eq_false_iff_not,Bool.not_eq_true',Bool.not_eq_false']at h2);refine wf ?_)))
 all_goals (refine end1 (.of_eq ?_);simp only[sf5];first|(simp_all;done)|grind)⟩
def putR (l:List Rfc) (r:Rfc):List Rfc:=if r.id.patch=Dig.zero then l else l++ [r]
def addS (b:Nat) (l:List Rfc) (t:Tag):List Res:= [.box b 140 [.slice (l.map eRfc) t],.tok t l.length 34]
set_option maxHeartbeats 1000000 in
theorem addS_fn (x:Ident) (f:Nat) (cs:List PV) (b:Nat) (l:List Rfc) (t:Tag) (hl:l.length≤1000000):
  PCalls Tryz.prog 131 [.agg (eIdent x),.clo f cs,.raw (.pointer (some ⟨b,0,none⟩))] (addS b l t) (fun _ L'=> ∃ t',L'=addS b (putR l ⟨x,f,cs⟩) t'):=by
 refine pcalls_bd Tryz.func131 rfl Tryz.ntmps131 (rs:= []) rfl rfl fun hb LF=>?_
 rw[show addS b l t++LF= .box b 140 [.slice (l.map eRfc) t]:: .tok t l.length 34::LF from rfl]
 refine wf ?_
 refine pwp_condN (fun h=>?_) (fun h=>?_)
 ·refine wfa fun t'=>?_
  exact⟨trivial,[],addS b (l++ [⟨x,f,cs⟩]) t',.nil,.refl _,t',by rw[putR,if_neg h]⟩
 ·refine wf ?_
  have h0:x.patch=Dig.zero:=by simpa using h
  exact⟨trivial,[],addS b l t,.nil,.refl _,t,by rw[putR,if_pos h0]⟩
end Go.Proofs
namespace Go.Proofs
open Go Go.Q
attribute [local irreducible] pwp pops PCalls OpN
section
variable {N:Nat} {all:Array Oper} {K:Env→List Res→Prop} {fl:List Bool} {os:List Oper} {ρ:Env} {L:List Res} {Q:PPost} {c:Code} {d:Nat} {ty:TypeId} {pos:String} {af:Array Edge}
theorem j_addS {x x0 x1:Operand} {ats:Array TypeId} {b f:Nat} {l:List Rfc} {t:Tag} {id:Ident} {cs:List PV} {a1:PV} {LF:List Res}
  (qx:ρ.ev x= .clo 131 [.raw (.pointer (some ⟨b,0,none⟩))]) (q0:ρ.ev x0= .agg (eIdent id)) (q1:ρ.ev x1=a1) [h1:IsClo a1 f cs] (hl:l.length≤1000000)
  (k: ∀ t' u,pops Tryz.prog N all K fl.tail os (upd ρ d u) (.box b 140 [.slice ((putR l (Rfc.mk id f cs)).map eRfc) t']:: .tok t' (putR l (Rfc.mk id f cs)).length 34::LF)) (hd:Nat.blt d N=true:=by rfl) (hfl:fl.headD true=true:=by rfl):
  pops Tryz.prog N all K fl (⟨some d,.call { callee:= .value x,args:= #[x0,x1],argTypes:=ats },ty,pos,af,none⟩::os) ρ (.box b 140 [.slice (l.map eRfc) t]:: .tok t l.length 34::LF):=
 s_callR (xs:= [x0,x1]) (addS b l t) LF (.of_eq qx) rfl rfl (.refl _) (fun _ L'=> ∃ t',L'=addS b (putR l ⟨id,f,cs⟩) t')
  (PCalls.args (bs:= [.agg (eIdent id),.clo f cs,.raw (.pointer (some ⟨b,0,none⟩))]) rfl (fun i g1 g2=>by
   match i,g1,g2 with
   |0,_,_=>exact .of_eq q0
   |1,_,_=>show Le (ρ.ev x1) _;rw[q1];exact h1.out
   |2,_,_=>exact .refl _
   |m+3,g1,_=>exact absurd g1 (by simp)) (addS_fn id f cs b l t hl)) (fun r L' ⟨t',e⟩=>by subst e;exact k t' r) hd hfl
end
theorem putR_len (l:List Rfc) (r:Rfc):(putR l r).length≤l.length+1:=by unfold putR;split<;>simp
def fileS (id:Dig) (c:Chg):Ident:=if c.file.patch=Dig.zero then { c.file with patch:=id }else c.file
def rs1 (c:Chg):List Rfc:=if c.kind≠1∧c.kind≠7 then putR [] ⟨c.file,132,[.pt (eChg c) 0]⟩else []
def rs2 (c:Chg) (l:List Rfc):List Rfc:=if c.kind=2 then putR l ⟨c.parent,134,[]⟩else l
def end1R (g:Ident) (c:Chg) (x:Ident):Rfc:=⟨x,135,[.pt (eIdent x) 0,.pt (eChg c) 0,.pt (eIdent g) 0]⟩
def rs3 (g:Ident) (c:Chg) (l:List Rfc):List Rfc:=if c.kind=5∨c.kind=6 then [c.after,c.before].foldl (fun l x=>putR l (end1R g c x)) l else l
def over1R (g:Ident) (c:Chg) (x:Ident):Rfc:=⟨x,137,[.pt [.raw (.int .i64 (ovK c.kind))] 0,.pt (eIdent g) 0]⟩
def rs4 (g:Ident) (c:Chg) (l:List Rfc) (o:List Ident):List Rfc:=o.foldl (fun l x=>putR l (over1R g c x)) l
def refsS (id:Dig) (c:Chg):List Rfc:=rs4 (fileS id c) c (rs3 (fileS id c) c (rs2 c (rs1 c))) c.over
theorem foldR_len' {α:Type} (f:α→Rfc): ∀ (o:List α) (l:List Rfc),(o.foldl (fun l x=>putR l (f x)) l).length≤l.length+o.length
 | [],l=>by simp
 |x::o,l=>by
  have:=foldR_len' f o (putR l (f x))
  have:=putR_len l (f x)
  simp only[List.foldl_cons,List.length_cons]
  omega
theorem rs1_len (c:Chg):(rs1 c).length≤1:=by
 unfold rs1;split
 ·exact putR_len _ _
 ·simp
theorem rs2_len (c:Chg) (l:List Rfc):(rs2 c l).length≤l.length+1:=by
 unfold rs2;split
 ·exact putR_len _ _
 ·omega
theorem rs3_len (g:Ident) (c:Chg) (l:List Rfc):(rs3 g c l).length≤l.length+2:=by
 unfold rs3;split
 ·exact foldR_len' _ _ _
 ·omega
set_option maxHeartbeats 4000000 in
instance referencesS_ct (id:Dig) (c:Chg) [hs:Small (c.over.length≤400)]:FnC Tryz.prog 99 [.agg (eDig id),.agg (eChg c)] (.slice ((refsS id c).map eRfc) .ro):=⟨by
 have hover:=hs.out
 have r1:=rs1_len c
 have r2:=rs2_len c (rs1 c)
 have r3:=rs3_len (fileS id c) c (rs2 c (rs1 c))
 refine fn_of Tryz.func99 Tryz.ntmps99 rfl (rs:= [.tmp 4]) rfl rfl fun hb LF=>?_
 refine wf ?_
 refine s_alloc fun b5=>?_
 refine wf ?_
 refine pwp_join True [(2,.pt (eDig id) 0),(3,.pt (eChg c) 0),(5,.raw (.pointer (some ⟨b5,0,none⟩)))] (.box b5 84 (eIdent (fileS id c))::LF) ?_ fun _=>?_
 ·refine pwp_condD (fun h=>?_) (fun h=>?_)
  ·refine wf ?_
   rw[fileS,if_pos h]
   exact⟨trivial,⟨rfl,rfl,rfl⟩,.refl _⟩
  ·refine wf ?_
   rw[fileS,if_neg h]
   exact⟨trivial,⟨rfl,rfl,rfl⟩,.refl _⟩
 generalize hg:fileS id c=g at r3 ⊢
 refine pwp_freezeD 5 ?_
 refine wf ?_
 refine s_alloc fun b6=>?_
 refine wo ?_
 refine pops_nil ?_
 refine pwp_tok 34 ?_
 refine pwp_perm (.swap _ _ _) ?_
 refine ws ?_
 refine pops_cutE [(29,.raw (.bool (decide (c.kind≠1∧c.kind≠7)))),(3,.pt (eChg c) 0),(5,.pt (eIdent g) 0),(6,.raw (.pointer (some ⟨b6,0,none⟩))),(7,.clo 131 [.raw (.pointer (some ⟨b6,0,none⟩))])] (.box b6 140 [.slice [] .nil]:: .tok .nil 0 34::LF) ?_ ?_
 ·repeat' (first|(refine pwp_condD (fun h=>?_) (fun h=>?_)<;>refine wf ?_)|(refine pwp_condN (fun h=>?_) (fun h=>?_)<;>refine wf ?_)|(refine pwp_condB (fun h=>?_) (fun h=>?_)<;>refine wf ?_)|(refine pops_if (fun h=>?_) (fun h=>?_)<;>(have h2:=h;(try simp only[decide_eq_true_eq,decide_eq_false_iff_not,Bool.not_eq_true',Bool.not_eq_false']at h2);refine wf ?_)))
  all_goals (refine⟨⟨holdsB (by rfl) ?_,rfl,rfl,rfl,rfl⟩,.refl _⟩;first|(simp_all;done)|grind)
 refine pwp_joinG (σ:=List Rfc × Tag) (fun s=>s.1=rs1 c) (fun s=> [(3,.pt (eChg c) 0),(5,.pt (eIdent g) 0),(6,.raw (.pointer (some ⟨b6,0,none⟩))),(7,.clo 131 [.raw (.pointer (some ⟨b6,0,none⟩))])]) (fun s=> .box b6 140 [.slice (s.1.map eRfc) s.2]:: .tok s.2 s.1.length 34::LF) ?_ ?_
 ·refine pwp_condD (fun h=>?_) (fun h=>?_)
  ·refine wf ?_
   refine j_addS (l:= []) rfl rfl (by(conv=>lhs;whnf);done) (h1:=(by first|infer_instance|fail)) (by simp) fun t' u=>?_
   refine wf ?_
   exact⟨(putR [] ⟨c.file,132,[.pt (eChg c) 0]⟩,t'),by rw[rs1,if_pos h],⟨rfl,rfl,rfl,rfl⟩,.refl _⟩
  ·refine wf ?_
   exact⟨([],.nil),by rw[rs1,if_neg h],⟨rfl,rfl,rfl,rfl⟩,.refl _⟩
 rintro⟨l1,t1⟩ hl1
 dsimp only at hl1 ⊢
 have k1:l1.length≤1:=by rw[hl1];exact r1
 rw[←hl1]at r2 r3
 refine wf ?_
 refine pwp_joinG (σ:=List Rfc × Tag) (fun s=>s.1=rs2 c l1) (fun s=> [(3,.pt (eChg c) 0),(5,.pt (eIdent g) 0),(6,.raw (.pointer (some ⟨b6,0,none⟩))),(7,.clo 131 [.raw (.pointer (some ⟨b6,0,none⟩))])]) (fun s=> .box b6 140 [.slice (s.1.map eRfc) s.2]:: .tok s.2 s.1.length 34::LF) ?_ ?_
 ·refine pwp_condD (fun h=>?_) (fun h=>?_)
  ·refine wf ?_
   refine j_addS rfl rfl (by(conv=>lhs;whnf);done) (h1:=(by first|infer_instance|fail)) (by omega) fun t' u=>?_
   refine wf ?_
   exact⟨(putR l1 ⟨c.parent,134,[]⟩,t'),by rw[rs2,if_pos h],⟨rfl,rfl,rfl,rfl⟩,.refl _⟩
  ·refine wf ?_
   exact⟨(l1,t1),by rw[rs2,if_neg h],⟨rfl,rfl,rfl,rfl⟩,.refl _⟩
 rintro⟨l2,t2⟩ hl2
 dsimp only at hl2 ⊢
 rw[←hl2]at r2 r3
 refine ws ?_
 refine pops_cutE [(49,.raw (.bool (decide (c.kind=5∨c.kind=6)))),(3,.pt (eChg c) 0),(5,.pt (eIdent g) 0),(6,.raw (.pointer (some ⟨b6,0,none⟩))),(7,.clo 131 [.raw (.pointer (some ⟨b6,0,none⟩))])] (.box b6 140 [.slice (l2.map eRfc) t2]:: .tok t2 l2.length 34::LF) ?_ ?_
 ·repeat' (first|(refine pwp_condD (fun h=>?_) (fun h=>?_)<;>refine wf ?_)|(refine pwp_condN (fun h=>?_) (fun h=>?_)<;>refine wf ?_)|(refine pwp_condB (fun h=>?_) (fun h=>?_)<;>refine wf ?_)|(refine pops_if (fun h=>?_) (fun h=>?_)<;>(have h2:=h;(try simp only[decide_eq_true_eq,decide_eq_false_iff_not,Bool.not_eq_true',Bool.not_eq_false']at h2);refine wf ?_)))
  all_goals (refine⟨⟨holdsB (by rfl) ?_,rfl,rfl,rfl,rfl⟩,.refl _⟩;first|(simp_all;done)|grind)
 refine pwp_joinG (σ:=List Rfc × Tag) (fun s=>s.1=rs3 g c l2) (fun s=> [(3,.pt (eChg c) 0),(5,.pt (eIdent g) 0),(6,.raw (.pointer (some ⟨b6,0,none⟩))),(7,.clo 131 [.raw (.pointer (some ⟨b6,0,none⟩))])]) (fun s=> .box b6 140 [.slice (s.1.map eRfc) s.2]:: .tok s.2 s.1.length 34::LF) ?_ ?_
 ·refine pwp_condD (fun h=>?_) (fun h=>?_)
  ·refine wf ?_
   refine pwp_loopS (σ:=Nat × List Rfc × Tag) (fun k=>k.1≤2∧k.2.1=([c.after,c.before].take k.1).foldl (fun l x=>putR l (end1R g c x)) l2) (fun k=>2 - k.1) (fun k=> [(3,.pt (eChg c) 0),(5,.pt (eIdent g) 0),(6,.raw (.pointer (some ⟨b6,0,none⟩))),(7,.clo 131 [.raw (.pointer (some ⟨b6,0,none⟩))]),(54,.slice ([c.after,c.before].map eIdent) .ro),(55,.raw (.int .i64 2)),(56,.raw (.int .i64 k.1))]) (fun k=> .box b6 140 [.slice (k.2.1.map eRfc) k.2.2]:: .tok k.2.2 k.2.1.length 34::LF) (0,l2,t2) ⟨by simp,rfl⟩ ⟨rfl,rfl,rfl,rfl,rfl,rfl,rfl⟩ (.refl _) ?_
   rintro⟨k,m,t3⟩ ⟨hk,hm⟩
   dsimp only at hk hm ⊢
   have hml:m.length≤10:=by
    have:=foldR_len' (end1R g c) ([c.after,c.before].take k) l2
    rw[←hm,List.length_take]at this
    simp only[List.length_cons,List.length_nil]at this
    omega
   refine wf ?_
   refine pwp_condD (fun hc=>?_) (fun hc=>?_)
   ·have hlt:k < [c.after,c.before].length:=by simp only[List.length_cons,List.length_nil];omega
    refine wz fun b9=>?_
    refine pwp_freezeD 9 ?_
    refine wf ?_
    refine j_addS rfl rfl (by(conv=>lhs;whnf);done) (h1:=(by first|infer_instance|fail)) (by omega) fun t' u=>?_
    refine wf ?_
    refine⟨(k+1,putR m (end1R g c [c.after,c.before][k]),t'),⟨by dsimp only;omega,?_⟩,by dsimp only;omega,⟨rfl,rfl,rfl,rfl,rfl,rfl,rfl⟩,.refl _⟩
    dsimp only
    rw[List.take_succ_eq_append_getElem hlt,List.foldl_append,←hm];rfl
   ·rw[List.take_of_length_le (by simp only[List.length_cons,List.length_nil];omega)]at hm
    refine wf ?_
    exact⟨(m,t3),by rw[rs3,if_pos h];exact hm,⟨rfl,rfl,rfl,rfl⟩,.refl _⟩
  ·refine wf ?_
   exact⟨(l2,t2),by rw[rs3,if_neg h],⟨rfl,rfl,rfl,rfl⟩,.refl _⟩
 rintro⟨l3,t3⟩ hl3
 dsimp only at hl3 ⊢
 rw[←hl3]at r3
 refine wf ?_
 refine s_alloc fun b10=>?_
 refine wo ?_
 refine pops_nil ?_
 refine pwp_freezeD 10 ?_
 refine wf ?_
 refine pwp_loopS (σ:=Nat × List Rfc × Tag) (fun k=>k.1≤c.over.length∧k.2.1=rs4 g c l3 (c.over.take k.1)) (fun k=>c.over.length - k.1) (fun k=> [(5,.pt (eIdent g) 0),(6,.raw (.pointer (some ⟨b6,0,none⟩))),(7,.clo 131 [.raw (.pointer (some ⟨b6,0,none⟩))]),(10,.pt [.raw (.int .i64 (ovK c.kind))] 0),(69,.slice (c.over.map eIdent) .ro),(70,.raw (.int .i64 c.over.length)),(71,.raw (.int .i64 k.1))]) (fun k=> .box b6 140 [.slice (k.2.1.map eRfc) k.2.2]:: .tok k.2.2 k.2.1.length 34::LF) (0,l3,t3) ⟨by simp,rfl⟩ ⟨rfl,rfl,rfl,rfl,rfl,rfl,rfl⟩ (.refl _) ?_
 rintro⟨k,m,t4⟩ ⟨hk,hm⟩
 dsimp only at hk hm ⊢
 have hml:m.length≤1000:=by
  have:=foldR_len' (over1R g c) (c.over.take k) l3
  rw[List.length_take]at this
  have e:m.length=((c.over.take k).foldl (fun l x=>putR l (over1R g c x)) l3).length:=by rw[hm];rfl
  omega
 refine wf ?_
 refine pwp_condD (fun hc=>?_) (fun hc=>?_)
 ·have hlt:k < c.over.length:=by omega
  refine wz fun b12=>?_
  refine pwp_freezeD 12 ?_
  refine wf ?_
  refine j_addS rfl rfl (by(conv=>lhs;whnf);done) (h1:=(by first|infer_instance|fail)) (by omega) fun t' u=>?_
  refine wf ?_
  refine⟨(k+1,putR m (over1R g c c.over[k]),t'),⟨by dsimp only;omega,?_⟩,by dsimp only;omega,⟨rfl,rfl,rfl,rfl,rfl,rfl,rfl⟩,.refl _⟩
  dsimp only
  rw[List.take_succ_eq_append_getElem hlt,rs4,List.foldl_append,hm];rfl
 ·rw[List.take_of_length_le (by omega)]at hm
  refine wf ?_
  refine end1 (.ros ?_)
  rw[hm,refsS,hg,←hl1,←hl2,←hl3]⟩
end Go.Proofs
namespace Go.Proofs
open Go Go.Q
attribute [local irreducible] pwp pops PCalls OpN
instance trw_Atm:TRw Tryz.prog 120 125 172 296:=⟨by
 have h2:(Tryz.prog.info? 125).map (fun i=>(i.size,i.bytes,i.zero.isSome,(i.zero.getD undef).cells.size))=some (172,296,true,172):=by kernel_rfl
 obtain⟨i,hi,e⟩:=Option.map_eq_some_iff.1 h2
 simp only[Prod.mk.injEq]at e
 obtain⟨e1,e2,e3,e4⟩:=e
 obtain⟨z,hz⟩:=Option.isSome_iff_exists.1 e3
 rw[hz]at e4
 exact⟨i,z,by kernel_rfl,hi,e1,e2,hz,e4,by decide,by decide⟩⟩
def bxA (b:Nat) (v:Value) (R LF:List Res):List Res:= .box b 120 [.raw v]::(R++LF)
set_option maxHeartbeats 2000000 in
theorem examineB_fn (p:Pat) (hs:rBig p=false):PCalls Tryz.prog 82 [.agg (ePat p)] [] (fun r L'=> ∃ x y,r= .tuple [x,y,.raw (.int .i64 (rEx p).2.2)]∧(((rEx p).2.2≠0∧L'= [])∨((rEx p).2.2=0∧ ∃ v,x= .raw v∧RowB 125 172 v ((rEx p).1.map eAtm) L'∧(rEx p).1.length≤100000))):=by
 obtain⟨hg1,hg2,hg3,hg4,hg5⟩:=big_facts hs
 refine pcalls_bd Tryz.func82 rfl Tryz.ntmps82 (rs:= [.tmp 2,.tmp 3,.tmp 4]) rfl rfl fun hb LF=>?_
 have zr:ZeroE Tryz.prog 120 [.raw (.slice none 0 0)]:=zero1 (v:= .slice none 0 0) (by kernel_rfl) rfl fun _=> .raw _
 refine wf ?_
 refine pwp_condN (fun h1=>?_) (fun h1=>?_)
 ·refine wf ?_
  have e:rCheckP p=([],rHead p):=by rw[checkP_head,if_pos h1]
  have e2:rEx p=([],[],rHead p):=by rw[rEx,e,if_pos h1]
  rw[e2]
  exact⟨trivial,_,[],.cons (.tmp 2) (.cons (.tmp 3) (.cons (.tmp 4) .nil)),.refl _,_,_,rfl,.inl ⟨h1,rfl⟩⟩
 have hH:=rCheckP_ok h1
 refine wf ?_
 refine s_alloc (hZ:=zr) fun b6=>?_
 refine wf ?_
 refine pwp_loopS (σ:=Nat × Value × List Res × List Atm) (fun k=>k.1≤p.changes.length∧RowB 125 172 k.2.1 (k.2.2.2.map eAtm) k.2.2.1∧k.2.2.2.length≤k.1*81∧idsOk k.2.2.2∧(∀ c∈p.changes.take k.1,1≤c.kind∧c.kind≤7)∧rCheckP p=rChanges (p.changes.drop k.1) k.2.2.2) (fun k=>p.changes.length - k.1) (fun k=> [(1,.pt (ePat p) 0),(6,.raw (.pointer (some ⟨b6,0,none⟩))),(20,.slice (p.changes.map eChg) .ro),(21,.raw (.int .i64 p.changes.length)),(22,.raw (.int .i64 k.1))]) (fun k=>bxA b6 k.2.1 k.2.2.1 LF) (0,.slice none 0 0,[],[]) ⟨by simp,.nil none (by simp),by simp,fun i h=>absurd h (by simp),by simp,hH⟩ ⟨rfl,rfl,rfl,rfl,rfl⟩ (.refl _) ?_
 rintro⟨k,v,R,own⟩ ⟨hk,hrow,hlen,hid,hkd,he⟩
 dsimp only at hk hrow hlen hid hkd he
 rw[show bxA b6 (k,v,R,own).2.1 (k,v,R,own).2.2.1 LF= .box b6 120 [.raw v]::(R++LF) from rfl]
 refine wf ?_
 refine pwp_condD (fun hc=>?_) (fun hc=>?_)
 ·have hlt:k < p.changes.length:=by omega
  rw[rChanges_step hlt]at he
  refine wz fun b8=>?_
  refine pwp_freezeD 8 ?_
  refine wf ?_
  refine pwp_condN (fun h2=>?_) (fun h2=>?_)
  ·refine wf ?_
   rw[if_pos h2]at he
   have e2:rEx p=([],[],rFields p.changes[k]):=by rw[rEx,he,if_pos h2]
   rw[e2]
   exact⟨trivial,_,[],.cons (.tmp 2) (.cons (.tmp 3) (.cons (.tmp 4) .nil)),.cons _ (List.sublist_append_right R LF),_,_,rfl,.inl ⟨h2,rfl⟩⟩
  rw[if_neg (by simp[h2])]at he
  have hll:p.changes[k].lines.length≤2000:=rFields_lines h2
  have hkk:1≤p.changes[k].kind∧p.changes[k].kind≤7:=rFields_kind h2
  have hmm:=rMade_len p.changes[k] own.length
  have hl40:=(hg5 _ (List.getElem_mem hlt)).lines
  have i1:Small (rFields p.changes[k]=0∧own.length≤100000∧idsOk own):=⟨h2,by omega,hid⟩
  have hmx:(own.map eAtm).length≤maxN∧(own.map eAtm).length*172≤maxN:=by
   have:maxN=140737488355328:=rfl
   rw[List.length_map];omega
  refine wf ?_
  refine s_callR (xs:= [.tmp 31,.tmp 32]) R (.box b6 120 [.raw v]::LF) (f:=114) (cs:= []) (le_func _) rfl rfl List.perm_middle.symm _ (hrow.lend [.agg (eChg p.changes[k])] [] hmx (inferInstance:FnC Tryz.prog 114 [.agg (eChg p.changes[k]),.slice (own.map eAtm) .ro] (.raw (.int .i64 (rRefs p.changes[k] own)))).out) fun r L' ⟨e1,e2⟩=>?_
  subst e1
  rw[e2]
  refine wf ?_
  refine wf ?_
  refine pwp_perm List.perm_middle ?_
  refine pwp_condN (fun h3=>?_) (fun h3=>?_)
  ·refine wf ?_
   rw[if_pos h3]at he
   have e2:rEx p=([],[],rRefs p.changes[k] own):=by rw[rEx,he,if_pos h3]
   rw[e2]
   exact⟨trivial,_,[],.cons (.tmp 2) (.cons (.tmp 3) (.cons (.tmp 4) .nil)),.cons _ (List.sublist_append_right R LF),_,_,rfl,.inl ⟨h3,rfl⟩⟩
  rw[if_neg (by simp[h3])]at he
  have hrow':=hrow
  obtain⟨⟨o,cc,ev⟩,_⟩:=hrow.slice
  rw[List.length_map]at ev
  subst ev
  refine wf ?_
  refine s_lenR rfl ?_
  refine wf ?_
  refine pwp_rangeFunc (made_iter p.changes[k] own.length hkk ⟨hll,by omega,by omega⟩) [41] (σ:=Value × List Res × List Atm) (fun pre s=>RowB 125 172 s.1 (s.2.2.map eAtm) s.2.1∧s.2.2=own++pre) (fun _ _=>False) (fun s LF'=>bxA b6 s.1 s.2.1 LF') (.slice o own.length cc,R,own) LF ?_ rfl (fun _=>rfl) (by simp) (fun _ _=>by simp[bxA]) (.refl _) ⟨hrow',by simp⟩ ?_ ?_ (fun _ _ h=>h.elim)
  ·exact .refl _
  ·rintro pre x ⟨v1,R1,own1⟩ LF' hpre ⟨hr1,hI⟩
   dsimp only at hr1 hI
   have hpl:=hpre.length_le
   have hol:own1.length≤90000:=by
    rw[hI,List.length_append]
    rw[List.length_append,List.length_singleton]at hpl
    omega
   rw[show bxA b6 (v1,R1,own1).1 (v1,R1,own1).2.1 LF'= .box b6 120 [.raw v1]::(R1++LF') from rfl]
   refine wz fun b11=>?_
   refine pwp_freezeD 11 ?_
   refine wf ?_
   refine s_appB (f:=eAtm) (m:= [x]) (R:=R1) (LF:= .box b6 120 [.raw v1]::LF') (fun R'=> .box b6 120 [.raw v1]::(R'++LF')) rfl rfl hr1 List.perm_middle.symm (fun R'=>List.perm_middle) (by simp only[List.length_map,List.length_cons,List.length_nil];omega) (by simp only[List.length_map,List.length_cons,List.length_nil];omega) fun v2 R2 hr2=>?_
   have h1c:v2.oneCell'=true:=by
    obtain⟨⟨o2,c2,e2⟩,_⟩:=hr2.slice
    rw[e2];rfl
   refine s_storeV [.raw v2] rfl rfl h1c rfl (by simp) ?_
   refine wf ?_
   exact⟨(v2,R2,own1++ [x]),⟨by dsimp only;rw[List.map_append];exact hr2,by dsimp only;rw[hI,List.append_assoc]⟩,.refl _⟩
  ·rintro⟨v1,R1,own1⟩ ⟨hr1,hI⟩
   dsimp only at hr1 hI
   refine wf ?_
   refine⟨(k+1,v1,R1,own1),⟨by dsimp only;omega,hr1,?_,?_,?_,?_⟩,by dsimp only;omega,⟨rfl,rfl,rfl,rfl,rfl⟩,.refl _⟩
   ·dsimp only
    rw[hI,List.length_append];omega
   ·dsimp only
    rw[hI];exact idsOk_made _ hid
   ·dsimp only
    intro c hcm
    rw[List.take_succ_eq_append_getElem hlt]at hcm
    rcases List.mem_append.1 hcm with h|h
    ·exact hkd c h
    ·rw[List.mem_singleton.1 h];exact hkk
   ·dsimp only
    rw[hI];exact he
 have hkk:k=p.changes.length:=by omega
 rw[List.drop_eq_nil_of_le (by omega)]at he
 rw[List.take_of_length_le (by omega)]at hkd
 have he':rCheckP p=(own,0):=he
 have i1:Small (encOkP p):=⟨⟨encOk_of hs,rDeps_nz (rHead_deps h1),hkd⟩⟩
 refine wf ?_
 have h0: ¬(rCheckP p).2≠0:=by rw[he'];simp
 refine pwp_condD (fun h=>?_) (fun h=>?_)
 ·refine wf ?_
  have e2:rEx p=([],[],4):=by rw[rEx,if_neg h0,if_pos h]
  rw[e2]
  exact⟨trivial,_,[],.cons (.tmp 2) (.cons (.tmp 3) (.cons (.tmp 4) .nil)),.cons _ (List.sublist_append_right R LF),_,_,rfl,.inl ⟨by decide,rfl⟩⟩
 ·refine wf ?_
  have e2:rEx p=(own,rEnc p,0):=by rw[rEx,if_neg h0,if_neg h,he']
  rw[e2]
  exact⟨trivial,_,R,.cons (.tmp 2) (.cons (.tmp 3) (.cons (.tmp 4) .nil)),.cons _ (.refl _),_,_,rfl,.inr ⟨rfl,_,rfl,hrow,by dsimp only;omega⟩⟩
end Go.Proofs
namespace Go.Proofs
open Go.Shelf
def Tryz.sortI_ren:Go.Shelf.Ren:=⟨fun|6=>214|15=>93|14=>234|28=>125|29=>126|20=>248|21=>249|22=>250|23=>251|24=>252|25=>253|26=>254|27=>255|46=>261|47=>166|48=>167|49=>262|50=>263|57=>269|n=>n,fun|22=>86|24=>84|25=>193|3=>3|39=>130|0=>0|53=>170|55=>172|4=>4|46=>164|45=>163|50=>62|5=>5|9=>9|66=>205|70=>209|76=>240|77=>241|n=>n,fun|n=>n⟩
theorem Tryz.sortI:Go.Proofs.SlLaysF0.n6 Tryz.prog Tryz.sortI_ren:={
 mixed:=by kernel_rfl
 f6:=⟨Tryz.f214.name,by decide,Tryz.func214.trans (congrArg some (by kernel_rfl))⟩
 f14:=⟨Tryz.f234.name,by decide,Tryz.func234.trans (congrArg some (by kernel_rfl))⟩
 f15:=Tryz.func93.trans (congrArg some (by kernel_rfl))
 f20:=⟨Tryz.f248.name,by decide,Tryz.func248.trans (congrArg some (by kernel_rfl))⟩
 f21:=⟨Tryz.f249.name,by decide,Tryz.func249.trans (congrArg some (by kernel_rfl))⟩
 f22:=⟨Tryz.f250.name,by decide,Tryz.func250.trans (congrArg some (by kernel_rfl))⟩
 f23:=⟨Tryz.f251.name,by decide,Tryz.func251.trans (congrArg some (by kernel_rfl))⟩
 f24:=⟨Tryz.f252.name,by decide,Tryz.func252.trans (congrArg some (by kernel_rfl))⟩
 f25:=⟨Tryz.f253.name,by decide,Tryz.func253.trans (congrArg some (by kernel_rfl))⟩
 f26:=⟨Tryz.f254.name,by decide,Tryz.func254.trans (congrArg some (by kernel_rfl))⟩
 f27:=⟨Tryz.f255.name,by decide,Tryz.func255.trans (congrArg some (by kernel_rfl))⟩
 f28:=Tryz.func125.trans (congrArg some (by kernel_rfl))
 f29:=Tryz.func126.trans (congrArg some (by kernel_rfl))
 f46:=⟨Tryz.f261.name,by decide,Tryz.func261.trans (congrArg some (by kernel_rfl))⟩
 f47:=Tryz.func166.trans (congrArg some (by kernel_rfl))
 f48:=Tryz.func167.trans (congrArg some (by kernel_rfl))
 f49:=⟨Tryz.f262.name,by decide,Tryz.func262.trans (congrArg some (by kernel_rfl))⟩
 f50:=⟨Tryz.f263.name,by decide,Tryz.func263.trans (congrArg some (by kernel_rfl))⟩
 f57:=⟨Tryz.f269.name,by decide,Tryz.func269.trans (congrArg some (by kernel_rfl))⟩
 t0:=Tryz.underlying0
 a0:=Tryz.isAgg0
 z0:=Tryz.sizeOf0
 v0:=Tryz.zeroValue0
 t3:=Tryz.underlying3
 a3:=Tryz.isAgg3
 z3:=Tryz.sizeOf3
 v3:=Tryz.zeroValue3
 t4:=Tryz.underlying4
 a4:=Tryz.isAgg4
 z4:=Tryz.sizeOf4
 v4:=Tryz.zeroValue4
 t5:=Tryz.underlying5
 a5:=Tryz.isAgg5
 z5:=Tryz.sizeOf5
 v5:=Tryz.zeroValue5
 t9:=Tryz.underlying9
 a9:=Tryz.isAgg9
 z9:=Tryz.sizeOf9
 v9:=Tryz.zeroValue9
 t22:=Tryz.underlying86
 a22:=Tryz.isAgg86
 z22:=Tryz.sizeOf86
 v22:=Tryz.zeroValue86
 t25:=Tryz.underlying193
 a25:=Tryz.isAgg193
 z25:=Tryz.sizeOf193
 v25:=Tryz.zeroValue193
 t39:=Tryz.underlying130
 a39:=Tryz.isAgg130
 z39:=Tryz.sizeOf130
 v39:=Tryz.zeroValue130
 t45:=Tryz.underlying163
 a45:=Tryz.isAgg163
 z45:=Tryz.sizeOf163
 v45:=Tryz.zeroValue163
 t46:=Tryz.underlying164
 a46:=Tryz.isAgg164
 z46:=Tryz.sizeOf164
 v46:=Tryz.zeroValue164
 t50:=Tryz.underlying62
 a50:=Tryz.isAgg62
 z50:=Tryz.sizeOf62
 v50:=Tryz.zeroValue62
 t53:=Tryz.underlying170
 a53:=Tryz.isAgg170
 z53:=Tryz.sizeOf170
 v53:=Tryz.zeroValue170
 t55:=Tryz.underlying172
 a55:=Tryz.isAgg172
 z55:=Tryz.sizeOf172
 v55:=Tryz.zeroValue172
 t66:=Tryz.underlying205
 a66:=Tryz.isAgg205
 z66:=Tryz.sizeOf205
 v66:=Tryz.zeroValue205
 t70:=Tryz.underlying209
 a70:=Tryz.isAgg209
 z70:=Tryz.sizeOf209
 v70:=Tryz.zeroValue209
 t76:=Tryz.underlying240
 a76:=Tryz.isAgg240
 z76:=Tryz.sizeOf240
 v76:=Tryz.zeroValue240
 t77:=Tryz.underlying241
 a77:=Tryz.isAgg241
 z77:=Tryz.sizeOf241
 v77:=Tryz.zeroValue241 }
end Go.Proofs
namespace Go.Proofs
open Go Go.Q Go.Shelf Go.Sort
attribute [local irreducible] pwp pops OpN
instance inh_Id:Inhabited Ident:=⟨Ident.zero⟩
def vIdn (x:Ident):List Value:=bcs x.patch.bs++ [.int .i64 x.n]
theorem vIdn_len (x:Ident):(vIdn x).length=33:=by
 have:=vDig_len x.patch
 unfold vDig at this
 simp[vIdn,this]
instance rawE_Id:RawE eIdent vIdn:=⟨fun x=>by
 have:=(inferInstance:RawE eDig vDig).out x.patch
 unfold vDig at this
 rw[eIdent,this,vIdn,List.map_append];rfl,fun x v hv=>by
 rcases List.mem_append.1 hv with h|h
 ·exact(inferInstance:RawE eDig vDig).one x.patch v h
 ·rw[List.mem_singleton.1 h];rfl⟩
instance trw_Id:TRw Tryz.prog 86 84 33 40:=⟨by
 have h2:(Tryz.prog.info? 84).map (fun i=>(i.size,i.bytes,i.zero.isSome,(i.zero.getD undef).cells.size))=some (33,40,true,33):=by kernel_rfl
 obtain⟨i,hi,e⟩:=Option.map_eq_some_iff.1 h2
 simp only[Prod.mk.injEq]at e
 obtain⟨e1,e2,e3,e4⟩:=e
 obtain⟨z,hz⟩:=Option.isSome_iff_exists.1 e3
 rw[hz]at e4
 exact⟨i,z,by kernel_rfl,hi,e1,e2,hz,e4,by decide,by decide⟩⟩
theorem cmpI_neg {a b:Ident}:cmpI a b < 0↔Dig.lt a.patch b.patch∨(a.patch=b.patch∧a.n < b.n):=by
 unfold cmpI
 by_cases h:cmpD a.patch b.patch=0
 ·have e:=cmpD_zero.1 h
  rw[if_neg (by simp[h])]
  constructor
  ·intro h2
   refine .inr ⟨e,?_⟩
   split at h2
   ·assumption
   ·split at h2<;>omega
  ·rintro(h2|⟨_,h2⟩)
   ·rw[e]at h2;exact absurd h2 (Dig.lt_irrefl _)
   ·rw[if_pos h2];omega
 ·rw[if_pos h]
  constructor
  ·exact fun h2=> .inl h2
  ·rintro(h2|⟨e,_⟩)
   ·exact h2
   ·exact absurd (cmpD_zero.2 e) h
theorem Ident.lt_irrefl (a:Ident): ¬cmpI a a < 0:=fun h=>by
 rcases cmpI_neg.1 h with h|⟨_,h⟩
 ·exact Dig.lt_irrefl _ h
 ·omega
theorem Ident.lt_trans {a b c:Ident} (h:cmpI a b < 0) (k:cmpI b c < 0):cmpI a c < 0:=by
 refine cmpI_neg.2 ?_
 rcases cmpI_neg.1 h with h|⟨e,h⟩<;>rcases cmpI_neg.1 k with k|⟨e2,k⟩
 ·exact .inl (Dig.lt_trans h k)
 ·exact .inl (e2 ▸ h)
 ·exact .inl (e ▸ k)
 ·exact .inr ⟨e.trans e2,by omega⟩
theorem Ident.tri (a b:Ident):cmpI a b < 0∨a=b∨cmpI b a < 0:=by
 rcases Dig.tri a.patch b.patch with h|h|h
 ·exact .inl (cmpI_neg.2 (.inl h))
 ·rcases Int.lt_trichotomy a.n b.n with h2|h2|h2
  ·exact .inl (cmpI_neg.2 (.inr ⟨h,h2⟩))
  ·refine .inr (.inl ?_)
   cases a;cases b
   simp only at h h2
   rw[h,h2]
  ·exact .inr (.inr (cmpI_neg.2 (.inr ⟨h.symm,h2⟩)))
 ·exact .inr (.inr (cmpI_neg.2 (.inl h)))
abbrev IRow (v:Value) (l:List Ident) (R:List Res):Prop:=RowL vIdn 84 33 v l R
theorem swoI:SWO (ltOf cmpI) where
 irrefl x:=by
  unfold ltOf
  exact decide_eq_false (fun h=>Ident.lt_irrefl x h)
 trans x y z h1 h2:=by
  unfold ltOf at*
  exact decide_eq_true (Ident.lt_trans (of_decide_eq_true h1) (of_decide_eq_true h2))
 ntrans x y z h1 h2:=by
  unfold ltOf at*
  refine decide_eq_false fun h=>?_
  have h1:=of_decide_eq_false h1
  have h2:=of_decide_eq_false h2
  rcases Ident.tri x y with h'|h'|h'
  ·exact h1 h'
  ·subst h';exact h2 h
  ·rcases Ident.tri y z with h3|h3|h3
   ·exact h2 h3
   ·subst h3;exact h1 h
   ·exact Ident.lt_irrefl x (Ident.lt_trans h (Ident.lt_trans h3 h'))
def sortI (l:List Ident):List Ident:=l.mergeSort fun x y=>!(ltOf cmpI) y x
theorem cmpI_lays {w:World} {g:Gh} {r n E:Nat} {cur:Array Value} (hi:Inv w g []) (h1:w.heap[r]? =some (.cells cur E (0,0))) (h2: ∀ o,g.H r o=none) (h3:g.M r=none):CmpLays Tryz.prog 157 #[] vIdn 33 cmpI r 0 n w:=by
 intro m os dk hdk x y
 have hI:Inv (sortWorldK vIdn 33 w r 0 m dk os) g []:=hi.laterBut h2 h3 (by simp[blocks]) (fun k hk hn=>sortWorld_other m dk os k hk hn)
 have hv:VRl g [.agg (vIdn x).toArray,.agg (vIdn y).toArray] [.agg (eIdent x),.agg (eIdent y)]:=by
  have e: ∀ d:Ident,VR g (.agg (vIdn d).toArray) (.agg (eIdent d)):=fun d=>by
   rw[(inferInstance:RawE eIdent vIdn).out]
   have:VRl g (vIdn d) ((vIdn d).map PV.raw):=⟨by simp,fun i h1 h2=>by simp;exact .raw _⟩
   exact this.agg
  exact .cons (e x) (.cons (e y) (.nil g))
 have:=(piCompare_ct x y).out _ (sortWorldK vIdn 33 w r 0 m dk os) g [] hv hI
 refine Calls.mono this ?_
 rintro e w' ⟨v,x',g',L',rfl,k1,k2,k3,k4,rfl,rfl⟩
 refine⟨by rw[k1.raw_inv],?_⟩
 exact grown_eq k3.os k3.tape k3.output.1 k3.output.2 k3.size (fun k hk=>k3.keep k hk (by simp[blocks]))
theorem sortI_fn (l:List Ident) (v:Value) (R:List Res) (hv:IRow v l R) (hl:l.length≤1000000):PCalls Tryz.prog 214 [.raw v,.raw (.func (.func 157) #[] #[])] R (fun _ L'=> ∃ v',v'=v∧IRow v' (sortI l) L'):=fun vs w g LF hvs hi=>by
 obtain⟨v1,v2,rfl⟩: ∃ a b,vs= [a,b]:=by
  have:=hvs.len
  match vs,this with
  | [a,b],_=>exact⟨a,b,rfl⟩
 rw[hvs.uncons.1.raw_inv,hvs.uncons.2.uncons.1.raw_inv]
 obtain⟨o,c,rfl⟩:=hv.slice
 by_cases hne:l= []
 ·subst hne
  refine(AnyF.slices_SortFunc_none Tryz.sortI o c _ w).mono ?_
  rintro e w' ⟨rfl,rfl⟩
  exact⟨_,.raw (.tuple #[]),g,R,rfl,.raw _,hi,.refl _ _ _,.refl _ _,_,rfl,by simpa [sortI]using hv⟩
 obtain⟨_,r,cur,rest,rfl,rfl,hcur,hsz,hlc⟩:=hv.inv hne
 obtain⟨k1,k2,k3,k4,k5⟩:=hi.rawHead
 have hlt:r < w.heap.size:=(Array.getElem?_eq_some_iff.1 k1).1
 have hF:(flatK vIdn 33 l.toArray).toList=l.flatMap vIdn:=flatK_eq (by decide) vIdn_len l
 have hH:HoldsK vIdn 33 w r 0 l.toArray:=fun j hj=>by
  have hj2:j < l.length*33:=by simpa using hj
  refine⟨?_,by simp[World.frozen?,k1]⟩
  have hj3:j < cur.size:=by omega
  simp only[World.cell?,k1,Option.isSome_none,Bool.false_eq_true,if_false,Nat.zero_add]
  rw[getElem!_pos _ j hj]
  have e1:cur.toList[j]? =(flatK vIdn 33 l.toArray).toList[j]?:=by
   rw[hcur,hF,List.getElem?_append_left (by rw[len_raws (f:=eIdent) (sz:=33)];exact hj2)]
  rw[Array.getElem?_toList,Array.getElem?_toList,Array.getElem?_eq_getElem hj]at e1
  exact e1
 refine(AnyQ.slices_SortFunc_total Tryz.sortI 33 (fun w=>?_) (fun w=>TSz.run (inferInstance:TSz Tryz.prog 84 33 40) w) vIdn vIdn_len (fun x v h=>(inferInstance:RawE eIdent vIdn).one x v h) cmpI swoI 157 #[] r 0 c l.toArray w (fun args w=>(inferInstance:TFun Tryz.prog 157).out args w) (cmpI_lays (hi.sub (List.nil_sublist _)) k1 k2 k3) hH hlt (by simp;omega) ?_).mono ?_
 ·exact(isAgg_run (inferInstance:TAgg Tryz.prog 84 33).out w).1
 ·intro x y h1 h2
  unfold ltOf at h1 h2
  have h1:=of_decide_eq_false h1
  have h2:=of_decide_eq_false h2
  rcases Ident.tri x y with h'|h'|h'
  ·exact absurd h' h1
  ·exact h'
  ·exact absurd h' h2
 ·rintro e w' ⟨rfl,n,os,rfl⟩
  have hlen:(sortI l).length=l.length:=List.length_mergeSort _
  have hFs:(flatK vIdn 33 (sortI l).toArray).toList=(sortI l).flatMap vIdn:=flatK_eq (by decide) vIdn_len (sortI l)
  have hFz:(flatK vIdn 33 (sortI l).toArray).size=l.length*33:=by simp[hlen]
  have htk:=putCells_take (cur:=cur) (flatK vIdn 33 (sortI l).toArray) (by omega)
  have hrow:RowL vIdn 84 33 (.slice (some ⟨r,0,none⟩) (sortI l).length c) (sortI l) [.raw r (.cells (putCells id 0 (flatK vIdn 33 (sortI l).toArray) cur) 84 (0,0))]:=by
   refine RowL.mk (rest:=(putCells id 0 (flatK vIdn 33 (sortI l).toArray) cur).toList.drop (l.length*33)) vIdn_len ?_ (by simp[putCells,hsz]) (by omega)
   rw[←hFs,←htk,hFz,List.take_append_drop]
  rw[hlen]at hrow
  refine⟨_,.raw (.tuple #[]),g,[.raw r (.cells (putCells id 0 (flatK vIdn 33 (sortI l).toArray) cur) 84 (0,0))],rfl,.raw _,?_,⟨rfl,rfl,⟨rfl,Nat.le_add_right _ _⟩,sortWorld_size n _ os,fun b hb hn=>sortWorld_other n _ os b hb (fun e=>hn (by rw[e];simp[blocks,Res.block])),.refl g,fun _ _ _=>⟨fun _=>rfl,rfl⟩⟩,fun b hb _=>by simpa [blocks,Res.block]using hb,_,rfl,hrow⟩
  exact(k5.laterBut k2 k3 k4 (fun k hk hn=>sortWorld_other n _ os k hk hn)).addRaw (sortWorld_row k1 n _ os) k2 k3 k4
end Go.Proofs
namespace Go.Q
open Go
section
variable {P:Program} {N:Nat} {Q:PPost} {all:Array Oper} {K:Env→List Res→Prop}
theorem pOp_putL {bar:Nat→Bool} {j:Nat} {oi oj:Oper} {x:PV} (hj:all[j]? =some oj) (hap:oi.apart all oj=true) {K:Env→List Res→Prop} {ρ:Env} {L:List Res}
  (hy: ∀ L,YQ P all oi ρ L x) (h:pOp P N all bar j K (updo ρ oi.dst x) L):pOp P N all bar j (fun ρ' L'=>(∀ L,YQ P all oi ρ' L x)∧K (updo ρ' oi.dst x) L') ρ L:=by
 obtain⟨h1,h2,h3⟩:=Oper.apart_spec hap
 unfold pOp at*
 simp only[hj]at*
 obtain⟨hd,h⟩:=h
 have cj: ∀ s,s∈oj.looksAt all→updo ρ oi.dst x s=ρ s:=fun s hs=>updo_slot fun d hd e=>h1 d hd (e ▸ hs)
 have ci: ∀ u,∀ L,YQ P all oi (updo ρ oj.dst u) L x:=fun u L=>(hy L).congr fun s hs=>(updo_slot fun d hd e=>h3 d hd (e ▸ hs)).symm
 refine⟨hd,?_⟩
 rcases h with ⟨u,hu,hk⟩|⟨hb,hg,ho⟩
 ·refine .inl ⟨u,hu.congr cj,ci u,?_⟩
  rw[updo_comm ρ u x (fun d hd e=>h2 d e hd)];exact hk
 ·refine .inr ⟨hb,hg.congr cj,(OpN.congr (ev_of_slots cj) ho).mono fun u L' hk=>⟨ci u,?_⟩⟩
  rw[updo_comm ρ u x (fun d hd e=>h2 d e hd)];exact hk
theorem pAny_firstL {bar:Nat→Bool} {i:Nat} {oi:Oper} {x:PV} (hi:all[i]? =some oi) (hdi: ∀ d,oi.dst=some d→d < N):
  ∀ (fuel:Nat) (listed:Array Bool) (ρ:Env) (L:List Res),Closed all listed→
    (∀ j oj,all[j]? =some oj→j≠i→listed.getD j true=false→(∀ e∈oj.after,Region.binds .any e=true→e.on≠i)→oi.apart all oj=true)→
    i∈Region.ready .any all listed→(∀ L,YQ P all oi ρ L x)→
    pAny P N all bar K fuel (listed.setIfInBounds i true) (updo ρ oi.dst x) L→pAny P N all bar K (fuel+1) listed ρ L:=by
 intro fuel
 have self: ∀ (listed:Array Bool) (ρ:Env) (L:List Res) (n:Nat),YQ P all oi ρ L x→pAny P N all bar K n (listed.setIfInBounds i true) (updo ρ oi.dst x) L→
   pOp P N all bar i (pAny P N all bar K n (listed.setIfInBounds i true)) ρ L:=fun listed ρ L n hy H=>by
  unfold pOp;simp only[hi];exact⟨hdi,.inl ⟨x,hy,H⟩⟩
 induction fuel with
 |zero=>
  intro listed ρ L hc _ hr hy H
  refine⟨fun h=>(by rw[h]at hr;cases hr),fun j hj=>?_⟩
  by_cases hji:j=i
  ·subst hji;exact self _ _ _ _ (hy L) H
  ·have:=ready_mono hj hji
   rw[H.1]at this
   cases this
 |succ fuel ih=>
  intro listed ρ L hc hfree hr hy H
  refine⟨fun h=>(by rw[h]at hr;cases hr),fun j hj=>?_⟩
  by_cases hji:j=i
  ·subst hji;exact self _ _ _ _ (hy L) H
  ·have h1:=H.2 j (ready_mono hj hji)
   obtain⟨hjun,oj,hoj,hall⟩:=mem_ready.1 hj
   have hiun:=(mem_ready.1 hr).1
   have hnot: ∀ e∈oj.after,Region.binds .any e=true→e.on≠i:=fun e he hb heq=>by
    have h1:=hall e he hb
    rw[heq]at h1
    rcases Nat.lt_or_ge i listed.size with h'|h'
    ·simp[h']at hiun h1;rw[hiun]at h1;cases h1
    ·simp[Array.getElem?_eq_none h']at h1
   have h2:=pOp_putL hoj (hfree j oj hoj hji hjun hnot) hy h1
   have hfree': ∀ k ok,all[k]? =some ok→k≠i→(listed.setIfInBounds j true).getD k true=false→
     (∀ e∈ok.after,Region.binds .any e=true→e.on≠i)→oi.apart all ok=true:=fun k ok hk hki hun hno=>by
    refine hfree k ok hk hki ?_ hno
    by_cases hjk:j=k
    ·subst hjk;exact hjun
    ·rw[getD_set_ne true hjk]at hun;exact hun
   refine pOp_mono (fun ρ' L' h3=>?_) h2
   obtain⟨h4,h5⟩:=h3
   refine ih (listed.setIfInBounds j true) ρ' L' (hc.set hj) hfree' (ready_mono hr (Ne.symm hji)) h4 ?_
   rw[Array.setIfInBounds_comm _ _ hji]
   exact h5
def closedB (all:Array Oper) (listed:Array Bool):Bool:=listed.size==all.size&&(List.range all.size).all fun j=>match all[j]? with
 |some oj=>!listed.getD j false||oj.after.all fun e=>!Region.binds .any e||listed.getD e.on false
 |none=>true
theorem closedB_spec {listed:Array Bool} (h:closedB all listed=true):Closed all listed:=by
 simp only[closedB,Bool.and_eq_true,beq_iff_eq,List.all_eq_true,List.mem_range]at h
 obtain⟨h1,h2⟩:=h
 refine⟨h1,fun j oj hj hl e he hb=>?_⟩
 have:=h2 j (Array.getElem?_eq_some_iff.1 hj).1
 simp only[hj,hl,Bool.not_true,Bool.false_or,Array.all_eq_true_iff_forall_mem]at this
 have:=this e he
 simpa [hb]using this
theorem pAny_quiet {bar:Nat→Bool} {fuel:Nat} {listed:Array Bool} {ρ:Env} {L:List Res} (i:Nat) {d:Nat} {op:Op} {ty:TypeId} {pos:String} {af:Array Edge} {x:PV} (h0:all[i]? =some ⟨some d,op,ty,pos,af,none⟩)
  (hB:(closedB all listed&&Region.free .any all listed i&&(Region.ready .any all listed).contains i)=true) (hd:Nat.blt d N=true)
  (hq: ∀ L,QOp P ⟨some d,op,ty,pos,af,none⟩ ρ L x) (k:pAny P N all bar K fuel (listed.setIfInBounds i true) (upd ρ d x) L):pAny P N all bar K (fuel+1) listed ρ L:=by
 simp only[Bool.and_eq_true]at hB
 obtain⟨⟨h1,h2⟩,h3⟩:=hB
 exact pAny_firstL (x:=x) h0 (dlt hd) fuel listed ρ L (closedB_spec h1) (Region.free_spec h0 h2) (by simpa using h3) (fun L=> .inr ⟨by unfold GYes;trivial,hq L⟩) k
theorem pwp_drawA {id:Nat} {l:List Oper} {ρ:Env} {L:List Res} (bs:List Nat) [hm:TMix P] (hG:guardsIn l.toArray N=true)
  (h:pAny P N l.toArray (fun k=>bs.contains k) (Q .normal) l.length (Array.replicate l.length false) ρ L):pwp P N (.region id l.toArray true) Q ρ L:=fun ro base a w g hst=>by
 refine wpIn_region_any hm.out ?_
 have hi:=hst.inv
 have hst0:Step (blocks L) w g { w with drawn:=w.drawn+1 } g:=⟨rfl,rfl,⟨rfl,Nat.le_succ _⟩,Nat.le_refl _,fun _ _ _=>rfl,.refl g,fun _ _ _=>⟨fun _=>rfl,rfl⟩⟩
 have hi':Inv { w with drawn:=w.drawn+1 } g L:=⟨hi.sat,fun b z hz=>(hi.satM b z hz).congr rfl,fun r hr=>by have:=hi.res r hr;cases r<;>first|exact this|(rename_i t _ _;cases t<;>exact this),hi.nodup,hi.glob⟩
 have k:=wpAny_of_pAny (ro:=ro) (base:=base) (Q:=Q) (w₀:=w) (g₀:=g) (L₀:=L) (fun _ _ h=>h) hG _ _ ρ L a _ g hst.agr hi' hst0 (.refl _ _) h
 simpa using k
end
theorem q_of_pops {P:Program} {N:Nat} {o:Oper} {ρ:Env} {d:Nat} {x:PV} {L:List Res} (hd:o.dst=some d) (hg:o.guard=none) (h:pops P N #[] (fun ρ' L'=>ρ' d=x∧L'=L) [false] [o] ρ L):QOp P o ρ L x:=by
 obtain⟨_,h⟩:=h
 rcases h with ⟨hno,_⟩|⟨_,⟨y,hq,h1,_⟩|⟨hf,_⟩⟩
 ·unfold GNo at hno
  rw[hg]at hno
  exact hno.elim
 ·rw[hd]at h1
  have:y=x:=by
   rw[←h1]
   show y=upd ρ d y d
   rw[upd_self]
  rw[←this];exact hq
 ·cases hf
end Go.Q
namespace Go.Proofs
open Go Go.Q
attribute [local irreducible] pwp pops pAny PCalls OpN
instance full_ct (x:Ident) (d:Dig):FnC Tryz.prog 213 [.agg (eIdent x),.pt (eDig d) 0] (.agg (eIdent (rWhole x d))):=⟨by
 refine fn_of Tryz.func213 Tryz.ntmps213 rfl (rs:= [.cell 3 84]) rfl rfl fun hb LF=>?_
 refine wkb fun b2=>?_
 refine s_alloc fun b3=>?_
 refine wf ?_
 refine pops_if (fun hp=>?_) (fun hp=>?_)
 ·have h0:x.patch=Dig.zero:=by simpa using hp
  refine wf ?_
  refine pwp_condD (fun h=>?_) (fun h=>?_)
  ·refine wf ?_
   refine endC rfl (.of_eq ?_)
   rw[rWhole,if_pos ⟨h0,h⟩]
  ·refine wf ?_
   refine endC rfl (.of_eq ?_)
   rw[rWhole,if_neg (fun h'=>h h'.2)]
 ·have h0: ¬x.patch=Dig.zero:=by simpa using hp
  refine wf ?_
  refine endC rfl (.of_eq ?_)
  rw[rWhole,if_neg (fun h'=>h0 h'.1)]⟩
def fP1 (d:Dig) (a:Atm):Atm:={ a with id:=rWhole a.id d }
def fP2 (d:Dig) (a:Atm):Atm:=if a.kind≠7 then { a with file:=rWhole a.file d }else a
def fP3 (d:Dig) (a:Atm):Atm:=if a.kind=2 then { a with parent:=rWhole a.parent d }else a
def fP4 (d:Dig) (a:Atm):Atm:=if a.kind=6 then { a with src:=rWhole a.src d,dst:=rWhole a.dst d }else a
def fP5 (d:Dig) (a:Atm):Atm:={ a with over:=sortI (a.over.map fun y=>rWhole y d) }
def fP (d:Dig) (a:Atm):Atm:=fP5 d (fP4 d (fP3 d (fP2 d (fP1 d a))))
def atomsP (p:Pat):List Atm × Int:=if(rEx p).2.2≠0 then([],(rEx p).2.2)else if(rId p).2≠0 then([],(rId p).2)else((rEx p).1.map (fP (rId p).1),0)
set_option maxHeartbeats 4000000 in
theorem complete_fn (p:Pat) (hs:rBig p=false):FnC Tryz.prog 174 [.agg (ePat p)] (.tuple [.slice ((atomsP p).1.map eAtm) .ro,.raw (.int .i64 (atomsP p).2)]):=⟨by
 have i0:Small (rBig p=false):=⟨hs⟩
 refine fn_of Tryz.func174 Tryz.ntmps174 rfl (rs:= [.tmp 2,.tmp 3]) rfl rfl fun hb LF=>?_
 repeat(refine pwp_seq ?_)
 refine pwp_region (by kernel_rfl) ?_
 refine wo ?_
 refine pops_nil ?_
 repeat(refine pwp_seq ?_)
 refine pwp_region (by kernel_rfl) ?_
 refine s_loadAL (by rfl) (hl:=(by infer_instance)) ?_
 refine s_callR (xs:= [.tmp 15]) [] LF (f:=82) (cs:= []) (le_func _) rfl rfl (.refl _) _ (examineB_fn p hs) fun r L' ⟨x,y,e,hor⟩=>?_
 subst e
 refine wf ?_
 refine wf ?_
 rcases hor with ⟨hne,rfl⟩|⟨he0,v,rfl,hrow,hll⟩
 ·refine pwp_condN (fun h=>?_) (fun h=>absurd h hne)
  refine wf ?_
  refine end2 ?_
  rw[atomsP,if_pos hne]
  exact .tuple2 (.ros rfl) (.refl _)
 refine pwp_condN (fun h=>absurd he0 h) (fun h=>?_)
 refine wf ?_
 refine s_alloc fun b7=>?_
 refine wo ?_
 refine pops_nil ?_
 refine pwp_freezeD 7 ?_
 refine wf ?_
 refine pwp_condN (fun h2=>?_) (fun h2=>?_)
 ·refine pwp_weaken (fun i=> .inl rfl) (List.sublist_append_right L' LF) ?_
  refine wf ?_
  refine end2 ?_
  rw[atomsP,if_neg (by simp[he0]),if_pos h2]
  exact .tuple2 (.ros rfl) (.refl _)
 have e1:atomsP p=((rEx p).1.map (fP (rId p).1),0):=by rw[atomsP,if_neg (by simp[he0]),if_neg (by simpa using h2)]
 rw[e1]
 have hov: ∀ a∈(rEx p).1,a.over.length≤40:=fun a ha=>by
  unfold rEx at ha
  split at ha
  ·cases ha
  ·split at ha
   ·cases ha
   ·exact(rCheckP_facts hs).2 a ha
 generalize (rEx p).1=l at hrow hll hov ⊢
 generalize (rId p).1=g
 obtain⟨⟨o,cc,ev⟩,_⟩:=hrow.slice
 rw[List.length_map]at ev
 subst ev
 refine wf ?_
 refine s_lenR rfl ?_
 refine wf ?_
 refine pwp_loopS (σ:=Nat × List Res) (fun k=>k.1≤l.length∧RowB 125 172 (.slice o l.length cc) (((l.take k.1).map (fP g)++l.drop k.1).map eAtm) k.2) (fun k=>l.length - k.1) (fun k=> [(4,.raw (.slice o l.length cc)),(8,.clo 213 [.pt (eDig g) 0]),(32,.raw (.slice o l.length cc)),(33,.raw (.int .i64 l.length)),(34,.raw (.int .i64 k.1))]) (fun k=>k.2++LF) (0,_) ⟨by simp,by simpa using hrow⟩ ⟨rfl,rfl,rfl,rfl,rfl⟩ (.refl _) ?_
 rintro⟨k,R⟩ ⟨hk,hR⟩
 dsimp only at hk hR ⊢
 refine wf ?_
 refine pwp_condD (fun hc=>?_) (fun hc=>?_)
 ·have hlt:k < l.length:=by omega
  obtain⟨xs,hxs⟩: ∃ xs,xs=((l.take k).map (fP g)++l.drop k).map eAtm:=⟨_,rfl⟩
  rw[←hxs]at hR
  have hlk:xs.length=l.length:=by rw[hxs];simp;omega
  have hel:xs[k]'(by omega)=eAtm l[k]:=by
   subst hxs
   rw[List.getElem_map,List.getElem_append_right (by simp;omega),List.getElem_drop]
   congr 2
   simp;omega
  obtain⟨r,rest,rfl,rfl,hn,hcl,hsz,hcc⟩:=hR.inv (by omega)
  have isub:Sub (xs.flatten++rest) (0+k*172) 172 (eAtm l[k]):=by
   rw[←hel];exact flat_sub hsz (by omega)
  refine wf ?_
  refine s_ixRow (k:=k) rfl rfl hlt ?_
  refine wf ?_
  refine s_alloc fun b10=>?_
  refine wf ?_
  refine pwp_join True [(4,.raw (.slice (some ⟨r,0,none⟩) l.length cc)),(8,.clo 213 [.pt (eDig g) 0]),(9,.raw (.int .i64 k)),(10,.raw (.pointer (some ⟨b10,0,none⟩))),(32,.raw (.slice (some ⟨r,0,none⟩) l.length cc)),(33,.raw (.int .i64 l.length)),(34,.raw (.int .i64 k))] (.box b10 125 (eAtm (fP2 g (fP1 g l[k]))):: .box r 125 (xs.flatten++rest)::LF) ?_ fun _=>?_
  ·refine pwp_condN (fun h=>?_) (fun h=>?_)
   ·refine wf ?_
    rw[show fP2 g (fP1 g l[k])= { fP1 g l[k]with file:=rWhole l[k].file g } by rw[fP2,if_pos (show(fP1 g l[k]).kind≠7 from h)];rfl]
    exact⟨trivial,⟨rfl,rfl,rfl,rfl,rfl,rfl,rfl⟩,.refl _⟩
   ·refine wf ?_
    rw[show fP2 g (fP1 g l[k])=fP1 g l[k] by rw[fP2,if_neg (show ¬(fP1 g l[k]).kind≠7 from fun h'=>h' h)]]
    exact⟨trivial,⟨rfl,rfl,rfl,rfl,rfl,rfl,rfl⟩,.refl _⟩
  have o2:(fP2 g (fP1 g l[k])).over.length≤40:=by
   have h:=hov _ (List.getElem_mem hlt)
   unfold fP2;split<;>exact h
  generalize hg2:fP2 g (fP1 g l[k])=a2 at o2 ⊢
  refine wf ?_
  refine pwp_join True [(4,.raw (.slice (some ⟨r,0,none⟩) l.length cc)),(8,.clo 213 [.pt (eDig g) 0]),(9,.raw (.int .i64 k)),(10,.raw (.pointer (some ⟨b10,0,none⟩))),(32,.raw (.slice (some ⟨r,0,none⟩) l.length cc)),(33,.raw (.int .i64 l.length)),(34,.raw (.int .i64 k))] (.box b10 125 (eAtm (fP3 g a2)):: .box r 125 (xs.flatten++rest)::LF) ?_ fun _=>?_
  ·refine pwp_condD (fun h=>?_) (fun h=>?_)
   ·refine wf ?_
    rw[show fP3 g a2= { a2 with parent:=rWhole a2.parent g } by rw[fP3,if_pos h]]
    exact⟨trivial,⟨rfl,rfl,rfl,rfl,rfl,rfl,rfl⟩,.refl _⟩
   ·refine wf ?_
    rw[show fP3 g a2=a2 by rw[fP3,if_neg h]]
    exact⟨trivial,⟨rfl,rfl,rfl,rfl,rfl,rfl,rfl⟩,.refl _⟩
  have o3:(fP3 g a2).over.length≤40:=by unfold fP3;split<;>exact o2
  generalize hg3:fP3 g a2=a3 at o3 ⊢
  refine wf ?_
  refine pwp_join True [(4,.raw (.slice (some ⟨r,0,none⟩) l.length cc)),(8,.clo 213 [.pt (eDig g) 0]),(9,.raw (.int .i64 k)),(10,.raw (.pointer (some ⟨b10,0,none⟩))),(32,.raw (.slice (some ⟨r,0,none⟩) l.length cc)),(33,.raw (.int .i64 l.length)),(34,.raw (.int .i64 k))] (.box b10 125 (eAtm (fP4 g a3)):: .box r 125 (xs.flatten++rest)::LF) ?_ fun _=>?_
  ·refine pwp_condD (fun h=>?_) (fun h=>?_)
   ·rw[show fP4 g a3= { a3 with src:=rWhole a3.src g,dst:=rWhole a3.dst g } by rw[fP4,if_pos h]]
    refine wn ?_
    refine pwp_drawA [2,6,9,11] (by decide+kernel) ?_
    refine pAny_quiet 0 rfl (by decide+kernel) rfl (fun L'=>q_of_pops (N:=97) rfl rfl (by refine wo ?_;refine pops_nil ?_;exact⟨upd_self _ _ _,rfl⟩)) ?_
    refine pAny_quiet 1 rfl (by decide+kernel) rfl (fun L'=>q_of_pops (N:=97) rfl rfl (by refine wo ?_;refine pops_nil ?_;exact⟨upd_self _ _ _,rfl⟩)) ?_
    refine pAny_quiet 4 rfl (by decide+kernel) rfl (fun L'=>q_of_pops (N:=97) rfl rfl (by refine wo ?_;refine pops_nil ?_;exact⟨upd_self _ _ _,rfl⟩)) ?_
    refine pAny_quiet 5 rfl (by decide+kernel) rfl (fun L'=>q_of_pops (N:=97) rfl rfl (by refine wo ?_;refine pops_nil ?_;exact⟨upd_self _ _ _,rfl⟩)) ?_
    refine pAny_next (fuel:=7) [2,6] (by decide+kernel) (by simp) fun i hi=>?_
    simp only[List.mem_cons,List.not_mem_nil,or_false]at hi
    rcases hi with rfl|rfl
    ·refine⟨_,rfl,?_⟩
     refine wf ?_
     refine pAny_quiet 3 rfl (by decide+kernel) rfl (fun L'=>q_of_pops (N:=97) rfl rfl (by refine wo ?_;refine pops_nil ?_;exact⟨upd_self _ _ _,rfl⟩)) ?_
     refine pAny_next (fuel:=5) [6] (by decide+kernel) (by simp) fun i hi=>?_
     simp only[List.mem_cons,List.not_mem_nil,or_false]at hi
     subst hi
     refine⟨_,rfl,?_⟩
     refine wf ?_
     refine pAny_quiet 7 rfl (by decide+kernel) rfl (fun L'=>q_of_pops (N:=97) rfl rfl (by refine wo ?_;refine pops_nil ?_;exact⟨upd_self _ _ _,rfl⟩)) ?_
     refine pAny_quiet 8 rfl (by decide+kernel) rfl (fun L'=>q_of_pops (N:=97) rfl rfl (by refine wo ?_;refine pops_nil ?_;exact⟨upd_self _ _ _,rfl⟩)) ?_
     refine pAny_next (fuel:=2) [9] (by decide+kernel) (by simp) fun i hi=>?_
     simp only[List.mem_cons,List.not_mem_nil,or_false]at hi
     subst hi
     refine⟨_,rfl,?_⟩
     refine wf ?_
     refine pAny_quiet 10 rfl (by decide+kernel) rfl (fun L'=>q_of_pops (N:=97) rfl rfl (by refine wo ?_;refine pops_nil ?_;exact⟨upd_self _ _ _,rfl⟩)) ?_
     refine pAny_next (fuel:=0) [11] (by decide+kernel) (by simp) fun i hi=>?_
     simp only[List.mem_cons,List.not_mem_nil,or_false]at hi
     subst hi
     refine⟨_,rfl,?_⟩
     refine wf ?_
     refine pAny_end (by decide+kernel) ?_
     refine wf ?_
     exact⟨trivial,⟨rfl,rfl,rfl,rfl,rfl,rfl,rfl⟩,.refl _⟩
    ·refine⟨_,rfl,?_⟩
     refine wf ?_
     refine pAny_next (fuel:=6) [2] (by decide+kernel) (by simp) fun i hi=>?_
     simp only[List.mem_cons,List.not_mem_nil,or_false]at hi
     subst hi
     refine⟨_,rfl,?_⟩
     refine wf ?_
     refine pAny_quiet 3 rfl (by decide+kernel) rfl (fun L'=>q_of_pops (N:=97) rfl rfl (by refine wo ?_;refine pops_nil ?_;exact⟨upd_self _ _ _,rfl⟩)) ?_
     refine pAny_quiet 7 rfl (by decide+kernel) rfl (fun L'=>q_of_pops (N:=97) rfl rfl (by refine wo ?_;refine pops_nil ?_;exact⟨upd_self _ _ _,rfl⟩)) ?_
     refine pAny_quiet 8 rfl (by decide+kernel) rfl (fun L'=>q_of_pops (N:=97) rfl rfl (by refine wo ?_;refine pops_nil ?_;exact⟨upd_self _ _ _,rfl⟩)) ?_
     refine pAny_next (fuel:=2) [9] (by decide+kernel) (by simp) fun i hi=>?_
     simp only[List.mem_cons,List.not_mem_nil,or_false]at hi
     subst hi
     refine⟨_,rfl,?_⟩
     refine wf ?_
     refine pAny_quiet 10 rfl (by decide+kernel) rfl (fun L'=>q_of_pops (N:=97) rfl rfl (by refine wo ?_;refine pops_nil ?_;exact⟨upd_self _ _ _,rfl⟩)) ?_
     refine pAny_next (fuel:=0) [11] (by decide+kernel) (by simp) fun i hi=>?_
     simp only[List.mem_cons,List.not_mem_nil,or_false]at hi
     subst hi
     refine⟨_,rfl,?_⟩
     refine wf ?_
     refine pAny_end (by decide+kernel) ?_
     refine wf ?_
     exact⟨trivial,⟨rfl,rfl,rfl,rfl,rfl,rfl,rfl⟩,.refl _⟩
   ·refine wf ?_
    rw[show fP4 g a3=a3 by rw[fP4,if_neg h]]
    exact⟨trivial,⟨rfl,rfl,rfl,rfl,rfl,rfl,rfl⟩,.refl _⟩
  have o4:(fP4 g a3).over.length≤40:=by unfold fP4;split<;>exact o3
  generalize hg4:fP4 g a3=a4 at o4 ⊢
  repeat(refine pwp_seq ?_)
  refine pwp_region (by kernel_rfl) ?_
  refine s_assign ?_
  refine pops_nil ?_
  rw[show Env.ev _ (Operand.const (Value.slice none 0 0))= .raw (.slice none 0 0) from rfl]
  refine wf ?_
  refine pwp_loopS (σ:=Nat × Value × List Res) (fun j=>j.1≤a4.over.length∧IRow j.2.1 ((a4.over.take j.1).map fun y=>rWhole y g) j.2.2) (fun j=>a4.over.length - j.1) (fun j=> [(4,.raw (.slice (some ⟨r,0,none⟩) l.length cc)),(8,.clo 213 [.pt (eDig g) 0]),(9,.raw (.int .i64 k)),(10,.raw (.pointer (some ⟨b10,0,none⟩))),(11,.raw j.2.1),(32,.raw (.slice (some ⟨r,0,none⟩) l.length cc)),(33,.raw (.int .i64 l.length)),(34,.raw (.int .i64 k)),(74,.slice (a4.over.map eIdent) .ro),(75,.raw (.int .i64 a4.over.length)),(76,.raw (.int .i64 j.1))]) (fun j=>j.2.2++(.box b10 125 (eAtm a4):: .box r 125 (xs.flatten++rest)::LF)) (0,.slice none 0 0,[]) ⟨by simp,.nil none (by simp)⟩ ⟨rfl,rfl,rfl,rfl,rfl,rfl,rfl,rfl,rfl,rfl,rfl⟩ (.refl _) ?_
  rintro⟨j,v2,R2⟩ ⟨hj,hI⟩
  dsimp only at hj hI ⊢
  refine wf ?_
  refine pwp_condD (fun hc2=>?_) (fun hc2=>?_)
  ·have hjl:j < a4.over.length:=by omega
   refine wz fun b13=>?_
   refine pwp_freezeD 13 ?_
   refine wf ?_
   refine s_appRow (f:=eIdent) (m:= [rWhole a4.over[j] g]) (R:=R2) (LF:= .box b10 125 (eAtm a4):: .box r 125 (xs.flatten++rest)::LF) (fun R'=>R'++(.box b10 125 (eAtm a4):: .box r 125 (xs.flatten++rest)::LF)) rfl rfl hI (.refl _) (fun R'=> .refl _) (by simp only[List.length_map,List.length_take,List.length_cons,List.length_nil];omega) (by simp only[List.length_map,List.length_take,List.length_cons,List.length_nil];omega) fun v3 R3 h3=>?_
   refine wf ?_
   refine wf ?_
   refine⟨(j+1,v3,R3),⟨by dsimp only;omega,?_⟩,by dsimp only;omega,⟨rfl,rfl,rfl,rfl,rfl,rfl,rfl,rfl,rfl,rfl,rfl⟩,.refl _⟩
   dsimp only
   rw[List.take_succ_eq_append_getElem hjl,List.map_append]
   exact h3
  ·rw[List.take_of_length_le (by omega)]at hI
   refine wf ?_
   refine s_callR (xs:= [.tmp 87,.func 157]) R2 (.box b10 125 (eAtm a4):: .box r 125 (xs.flatten++rest)::LF) (f:=214) (cs:= []) (le_func _) rfl rfl (.refl _) _ (sortI_fn _ _ R2 hI (by simp only[List.length_map];omega)) fun r' L3 ⟨v3,e3,h3⟩=>?_
   subst e3
   refine wo ?_
   refine pops_nil ?_
   repeat(refine pwp_seq ?_)
   have hms:(sortI (a4.over.map fun y=>rWhole y g)).length≤maxN∧(sortI (a4.over.map fun y=>rWhole y g)).length*33≤maxN:=by
    have h1:maxN=140737488355328:=rfl
    have h2:(sortI (a4.over.map fun y=>rWhole y g)).length=a4.over.length:=by rw[sortI,List.length_mergeSort,List.length_map]
    omega
   refine pwp_freezeRow (f:=eIdent) 11 h3 hms (.refl _) rfl ?_
   refine wf ?_
   have iput:Put (xs.flatten++rest) (0+k*172) (eAtm { a4 with over:=sortI (a4.over.map fun y=>rWhole y g) }) ((xs.set k (eAtm (fP5 g a4))).flatten++rest):=flat_put hsz (by omega) (by simp)
   refine s_ixRow (k:=k) rfl rfl hlt ?_
   refine wf ?_
   have hset:xs.set k (eAtm (fP5 g a4))=((l.take (k+1)).map (fP g)++l.drop (k+1)).map eAtm:=by
    have hf:fP5 g a4=fP g l[k]:=by rw[fP,hg2,hg3,hg4]
    rw[hf,hxs]
    refine List.ext_getElem (by simp;omega) fun i k1 k2=>?_
    rw[List.getElem_set]
    split
    ·rename_i e
     subst e
     rw[List.getElem_map,List.getElem_append_left (by simp;omega)]
     simp
    ·rename_i e
     rw[List.getElem_map,List.getElem_map]
     congr 1
     rcases Nat.lt_or_ge i k with h'|h'
     ·rw[List.getElem_append_left (by simp;omega),List.getElem_append_left (by simp;omega)]
      simp
     ·rw[List.getElem_append_right (by simp;omega),List.getElem_append_right (by simp;omega)]
      simp only[List.getElem_drop,List.length_map,List.length_take]
      congr 1
      omega
   have hnew: ∀ e∈xs.set k (eAtm (fP5 g a4)),e.length=172:=fun e he=>by
    rw[hset]at he
    obtain⟨a,_,rfl⟩:=List.mem_map.1 he
    simp
   refine⟨(k+1,[.box r 125 ((xs.set k (eAtm (fP5 g a4))).flatten++rest)]),⟨by dsimp only;omega,?_⟩,by dsimp only;omega,⟨rfl,rfl,rfl,rfl,rfl⟩,.cons _ (.refl _)⟩
   dsimp only
   rw[←hset]
   refine .row (by rw[List.length_set,hlk]) hcl hnew ?_
   have h1:=flatten_len hnew
   have h2:=flatten_len hsz
   rw[List.length_set]at h1
   omega
 ·have hkk:k=l.length:=by omega
  subst hkk
  rw[List.take_length,List.drop_length,List.append_nil]at hR
  have hmx:((l.map (fP g)).map eAtm).length≤maxN∧((l.map (fP g)).map eAtm).length*172≤maxN:=by
   have:maxN=140737488355328:=rfl
   simp only[List.length_map];omega
  refine pwp_freezeB 4 hR hmx (.refl _) rfl ?_
  refine wf ?_
  exact end2 (.tuple2 (.ros rfl) (.refl _))⟩
end Go.Proofs
namespace Go.Proofs
open Go Go.Q
attribute [local irreducible] pwp pops PCalls OpN
instance atomsP_ct (p:Pat) [hs:Small (rBig p=false)]:FnC Tryz.prog 138 [.agg (ePat p)] (.tuple [.slice ((atomsP p).1.map eAtm) .ro,.raw (.int .i64 (atomsP p).2)]):=⟨by
 have i1:FnC Tryz.prog 174 [.agg (ePat p)] (.tuple [.slice ((atomsP p).1.map eAtm) .ro,.raw (.int .i64 (atomsP p).2)]):=complete_fn p hs.out
 refine fn_of Tryz.func138 Tryz.ntmps138 rfl (rs:= [.tmp 2,.tmp 3]) rfl rfl fun hb LF=>?_
 refine wf ?_
 exact end2 (.refl _)⟩
end Go.Proofs
