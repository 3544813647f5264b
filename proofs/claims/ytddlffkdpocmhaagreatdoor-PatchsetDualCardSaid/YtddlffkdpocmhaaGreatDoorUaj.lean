/- Contracts of the program: what the library writes: numbers, strings.Builder. -/
import Derived.Test.YtddlffkdpocmhaaGreatDoorUag
import Derived.Test.YtddlffkdpocmhaaGreatDoorUai
import Derived.Shelf.LaysM
import Derived.Shelf.Strconv.Itoa3
set_option linter.unusedSimpArgs false
set_option linter.unusedVariables false
namespace Go.Proofs
open Go Go.Q Go.Shelf
attribute [local irreducible] pwp pops PCalls OpN
theorem decDigits_eq (n:Nat):Lib.decDigits n=rDec n:=by
 induction n using Nat.strongRecOn with
 |_ n ih=>
  unfold Lib.decDigits
  by_cases h:n < 10
  ·rw[dif_pos h,rDec_small h]
  ·rw[dif_neg h,rDec_big h,ih (n / 10) (by omega)]
theorem itoa_eq (n:Int):Lib.itoa n=rDecI n:=by
 unfold Lib.itoa rDecI
 by_cases h:n < 0
 ·rw[if_pos h,if_pos h,decDigits_eq,show n.natAbs=(-n).toNat by omega]
 ·rw[if_neg h,if_neg h,decDigits_eq]
theorem tab_is {w:World} {g:Gh} {L:List Res} (hi:Inv w g L):Lib.TabIs Tryz.prog w "internal/strconv.uint64pow10" .u64 Lib.pow10Tab:=by
 obtain⟨T,p,h⟩:=hi.satM _ _ hi.glob.tab
 unfold Lib.TabIs World.var?
 rw[show Tryz.prog.globalNamed "internal/strconv.uint64pow10" =some globAt by kernel_rfl]
 simp only[Option.bind_some,h]
 rfl
instance Itoa_ct (n:Int) [hs:Small (-140737488355328≤n∧n≤140737488355328)]:FnC Tryz.prog 268 [.raw (.int .i64 n)] (.str (rDecI n)):=⟨fn_ext fun vs w g LF hv hi=>by
 obtain⟨h0,h1⟩:=hs.out
 obtain⟨v,rfl⟩: ∃ v,vs= [v]:=by
  have:=hv.len
  match vs,this with
  | [v],_=>exact⟨v,rfl⟩
 rw[hv.uncons.1.raw_inv]
 refine(Any.strconv_Itoa Tryz.laysItoa n (by omega) (by omega) w (tab_is hi)).mono ?_
 rintro e w' ⟨rfl,k,os,rfl⟩
 refine⟨_,rfl,fun g=>by rw[itoa_eq];exact .str (by have:=rDecI_len (n:=n) ⟨h0,h1⟩;show _≤2 ^ 47;omega),rfl,rfl,rfl,Nat.le_add_right _ _,?_,fun j hj=>?_⟩
 ·show w.heap.size≤(w.heap++os).size
  simp
 ·show(w.heap++os)[j]? =_
  rw[Array.getElem?_append_left hj]⟩
def bldB (b:Nat) (p v:Value):Res:= .box b 260 [.raw p,.raw v]
def self (b:Nat):Value:= .pointer (some ⟨b,0,none⟩)
instance :TPt Tryz.prog 258 260 2:= .of (by kernel_rfl) (by kernel_rfl)
instance (v:Value):ExtC Tryz.prog 292 [.raw v] (.raw v):=extC_same Tryz.func292 (by kernel_rfl) (by kernel_rfl) (by kernel_rfl) (by kernel_rfl) v
theorem copyCheck_fn (b:Nat) (p v:Value) (hp:p= .pointer none∨p=self b):PCalls Tryz.prog 286 [.raw (self b)] [bldB b p v] (fun _ L'=>L'= [bldB b (self b) v]):=by
 refine pcalls_bd Tryz.func286 rfl Tryz.ntmps286 (rs:= []) rfl rfl fun hb LF=>?_
 rw[show [bldB b p v]++LF= .box b 260 [.raw p,.raw v]::LF from rfl]
 obtain⟨q,rfl,hq⟩: ∃ q,p= .pointer q∧(q=none∨q=some ⟨b,0,none⟩):=by
  rcases hp with rfl|rfl
  ·exact⟨none,rfl,.inl rfl⟩
  ·exact⟨_,rfl,.inr rfl⟩
 refine wf ?_
 refine s_eqPN rfl rfl ?_
 refine wf ?_
 rcases hq with rfl|rfl
 ·refine pwp_condB (t:=true) (fun _=>?_) (fun h=>by cases h)
  refine wf ?_
  refine s_toUnsafe (by kernel_rfl) (by decide) rfl List.mem_cons_self (by simp) ?_
  refine s_ext (xs:= [.tmp 9]) (args:= [.raw (self b)]) rfl (fun i h1 h2=>by
   match i,h1,h2 with
   |0,_,_=>exact .refl _
   |m+1,h1,_=>exact absurd h1 (by simp)) rfl ?_
  refine s_fromUnsafe (by kernel_rfl) rfl List.mem_cons_self (by kernel_rfl) ?_
  refine wf ?_
  refine s_storeV [.raw (self b),.raw v] rfl rfl rfl rfl (by simp) ?_
  refine wf ?_
  exact⟨trivial,[],[bldB b (self b) v],.nil,.refl _,rfl⟩
 ·refine pwp_condB (t:=false) (fun h=>by cases h) (fun _=>?_)
  refine wf ?_
  refine s_nePP rfl rfl ?_
  refine wf ?_
  exact⟨trivial,[],[bldB b (self b) v],.nil,.refl _,rfl⟩
instance :TRow Tryz.prog 148 5:= .of (by kernel_rfl) (by kernel_rfl) (by kernel_rfl)
def Bld (b:Nat) (l:List UInt8) (L:List Res):Prop:= ∃ p v R,(p= .pointer none∨p=self b)∧RowOf 5 v l R∧L=bldB b p v::R
theorem writeString_fn (b:Nat) (l s:List UInt8) (L:List Res) (hL:Bld b l L) (hl:l.length+s.length≤140737488355328):PCalls Tryz.prog 271 [.raw (self b),.str s] L (fun _ L'=>Bld b (l++s) L'):=by
 obtain⟨p,v,R,hp,hv,rfl⟩:=hL
 refine pcalls_bd Tryz.func271 rfl Tryz.ntmps271 (rs:= [.tmp 4,.tmp 5]) rfl rfl fun hb LF=>?_
 rw[show(bldB b p v::R)++LF= [bldB b p v]++(R++LF) from rfl]
 refine ws ?_
 refine s_callR (xs:= [.tmp 6]) [bldB b p v] (R++LF) (f:=286) (cs:= []) (le_func _) rfl rfl (.refl _) _ (copyCheck_fn b p v hp) fun r L' e=>?_
 subst e
 refine wf ?_
 refine s_appStr (R:=R) (LF:= .box b 260 [.raw (self b),.raw v]::LF) (fun R'=> .box b 260 [.raw (self b),.raw v]::(R'++LF)) (ay:= .str s) rfl rfl hv (List.perm_middle (l₁:=R)).symm (fun R'=>List.perm_middle) hl fun v' R' hv'=>?_
 refine wf ?_
 refine s_storeV [.raw (self b),.raw v'] rfl rfl hv'.one rfl (by simp) ?_
 refine wf ?_
 refine wf ?_
 exact⟨trivial,_,bldB b (self b) v'::R',.cons (.tmp 4) (.cons (.tmp 5) .nil),.refl _,_,v',R',.inr rfl,hv',rfl⟩
theorem writeByte_fn (b:Nat) (l:List UInt8) (c:UInt8) (L:List Res) (hL:Bld b l L) (hl:l.length+1≤140737488355328):PCalls Tryz.prog 272 [.raw (self b),.raw (.int .u8 c.toNat)] L (fun _ L'=>Bld b (l++ [c]) L'):=by
 obtain⟨p,v,R,hp,hv,rfl⟩:=hL
 refine pcalls_bd Tryz.func272 rfl Tryz.ntmps272 (rs:= [.tmp 4]) rfl rfl fun hb LF=>?_
 rw[show(bldB b p v::R)++LF= [bldB b p v]++(R++LF) from rfl]
 refine ws ?_
 refine s_callR (xs:= [.tmp 5]) [bldB b p v] (R++LF) (f:=286) (cs:= []) (le_func _) rfl rfl (.refl _) _ (copyCheck_fn b p v hp) fun r L' e=>?_
 subst e
 refine wf ?_
 refine s_appByte (R:=R) (LF:= .box b 260 [.raw (self b),.raw v]::LF) (fun R'=> .box b 260 [.raw (self b),.raw v]::(R'++LF)) (t:= .ro) rfl rfl hv (List.perm_middle (l₁:=R)).symm (fun R'=>List.perm_middle) hl fun v' R' hv'=>?_
 refine wf ?_
 refine s_storeV [.raw (self b),.raw v'] rfl rfl hv'.one rfl (by simp) ?_
 refine wf ?_
 refine wf ?_
 exact⟨trivial,_,bldB b (self b) v'::R',.cons (.tmp 4) .nil,.refl _,_,v',R',.inr rfl,hv',rfl⟩
theorem string_fn (b:Nat) (l:List UInt8) (L:List Res) (hL:Bld b l L) (h0:l≠ []) (hl:l.length≤140737488355328):PCalls Tryz.prog 252 [.raw (self b)] L (fun r L'=>r= .str l∧L'= []):=by
 obtain⟨p,v,R,hp,hv,rfl⟩:=hL
 cases hv with
 |nil=>exact absurd rfl h0
 |row h1 h2 h3=>
  rename_i r cap cur
  refine pcalls_bd Tryz.func252 rfl Tryz.ntmps252 (rs:= [.tmp 2]) rfl rfl fun hb LF=>?_
  have hcap:cap≠0:=by have:=List.length_pos_iff.2 h0;omega
  rw[show(bldB b p (.slice (some ⟨r,0,none⟩) l.length cap):: [.raw r (.cells cur 5 (0,0))])++LF= .box b 260 [.raw p,.raw (.slice (some ⟨r,0,none⟩) l.length cap)]:: .raw r (.cells cur 5 (0,0))::LF from rfl]
  refine wn ?_
  refine pwp_drawN 10 ?_ ?_
  ·decide+kernel
  refine wf ?_
  refine s_sliceData rfl hcap ?_
  refine wf ?_
  refine s_lenR rfl ?_
  refine wf ?_
  refine s_unsafeString (E:=5) (by kernel_rfl) (by kernel_rfl) rfl rfl (.swap _ _ _) h0 (by omega) h3 hl ?_
  refine wf ?_
  exact⟨trivial,_,[],.cons (.tmp 2) .nil,.cons _ (.refl _),rfl,rfl⟩
end Go.Proofs
namespace Go.Proofs
open Go Go.Q
attribute [local irreducible] pwp pops PCalls OpN
set_option maxHeartbeats 1000000 in
theorem encP_fn: ∀ (d:Nat) (x:Sx),wfX d x→ ∀ (b:Nat) (l:List UInt8) (L:List Res),Bld b l L→l.length+(encX d x).length≤1000000000→PCalls Tryz.prog 251 [.raw (self b),.agg (eSx x)] L (fun _ L'=>Bld b (l++encX d x) L')
 |0,x,hw,_,_,_,_,_=>hw.elim
 |d+1,x,hw,b,l,L,hL,hl=>by
  have ih:=encP_fn d
  refine pcalls_bd Tryz.func251 rfl Tryz.ntmps251 (rs:= []) rfl rfl fun hb LF=>?_
  have hlen:x.list.length≤140737488355328:=by
   have:=(hb (.agg (eSx x)) (by simp)).agg_at (c:= .slice (x.list.map eSx) .ro) (by rw[eSx_eq];simp)
   exact this.slice_map
  refine wf ?_
  refine pwp_condB (fun h2=>?_) (fun h2=>?_)
  ·have hB:x.isList=false:=by simpa using h2
   rcases hw with ⟨_,h3,h4⟩|⟨h3,_⟩
   ·have:Small (-140737488355328≤(x.atom.length:Int)∧(x.atom.length:Int)≤140737488355328):=⟨by omega,by omega⟩
    have e:rDecI (x.atom.length:Int)=rDec x.atom.length:=by
     rw[rDecI,if_neg (by omega)];rfl
    have he:encX (d+1) x=rDec x.atom.length++58::x.atom:=by simp[encX,hB]
    rw[he]at hl ⊢
    simp only[List.length_append,List.length_cons]at hl
    refine wf ?_
    refine s_callR (xs:= [.tmp 9,.tmp 13]) L LF (f:=271) (cs:= []) (le_func _) rfl rfl (.refl _) _ (writeString_fn b l (rDecI (x.atom.length:Int)) L hL (by rw[e];omega)) fun r L1 hL1=>?_
    rw[e]at hL1
    refine wf ?_
    refine wf ?_
    refine s_callR (xs:= [.tmp 15,.const (.int .u8 58)]) L1 LF (f:=272) (cs:= []) (le_func _) rfl rfl (.refl _) _ (writeByte_fn b (l++rDec x.atom.length) 58 L1 hL1 (by simp only[List.length_append];omega)) fun r L2 hL2=>?_
    refine wf ?_
    refine wf ?_
    refine s_callR (xs:= [.tmp 17,.tmp 19]) L2 LF (f:=271) (cs:= []) (le_func _) rfl rfl (.refl _) _ (writeString_fn b (l++rDec x.atom.length++ [58]) x.atom L2 hL2 (by simp only[List.length_append,List.length_cons,List.length_nil];omega)) fun r L3 hL3=>?_
    refine wf ?_
    refine wf ?_
    exact⟨trivial,_,L3,.nil,.refl _,by simpa using hL3⟩
   ·rw[hB]at h3;cases h3
  have hB:x.isList=true:=by simpa using h2
  rcases hw with ⟨h3,_⟩|⟨_,ha,hw⟩
  ·rw[hB]at h3;cases h3
  have he:encX (d+1) x=40::(x.list.flatMap (encX d)++ [41]):=by simp[encX,hB]
  rw[he]at hl ⊢
  simp only[List.length_cons,List.length_append,List.length_nil]at hl
  refine wf ?_
  refine s_callR (xs:= [.tmp 21,.const (.int .u8 40)]) L LF (f:=272) (cs:= []) (le_func _) rfl rfl (.refl _) _ (writeByte_fn b l 40 L hL (by omega)) fun r L1 hL1=>?_
  refine wf ?_
  refine wf ?_
  refine pwp_loopS (σ:=Nat × List Res) (fun k=>k.1≤x.list.length∧Bld b (l++40::(x.list.take k.1).flatMap (encX d)) k.2) (fun k=>x.list.length - k.1) (fun k=> [(0,.raw (self b)),(24,.slice (x.list.map eSx) .ro),(25,.raw (.int .i64 x.list.length)),(26,.raw (.int .i64 k.1))]) (fun k=>k.2++LF) (0,L1) ⟨by simp,by simpa using hL1⟩ ⟨rfl,rfl,rfl,rfl⟩ (.refl _) ?_
  rintro⟨k,L2⟩ ⟨hk,hL2⟩
  dsimp only at hk hL2 ⊢
  have hsl:=flatMap_take_len (l:=x.list) (f:=encX d) (k:=k)
  refine wf ?_
  refine pwp_condD (fun hc=>?_) (fun hc=>?_)
  ·have hlt:k < x.list.length:=by omega
   have hel:=flatMap_take_len (l:=x.list) (f:=encX d) (k:=k+1)
   rw[flatMap_take_succ hlt,List.length_append]at hel
   refine wz fun b5=>?_
   refine pwp_freezeD 5 ?_
   refine wf ?_
   refine s_callR (xs:= [.tmp 30,.tmp 31]) L2 LF (f:=251) (cs:= []) (le_func _) rfl rfl (.refl _) _ (ih x.list[k] (hw _ (List.getElem_mem hlt)) b _ L2 hL2 (by simp only[List.length_append,List.length_cons];omega)) fun r L3 hL3=>?_
   refine wf ?_
   refine wf ?_
   refine⟨(k+1,L3),⟨by dsimp only;omega,?_⟩,by dsimp only;omega,⟨rfl,rfl,rfl,rfl⟩,.refl _⟩
   dsimp only
   rw[flatMap_take_succ hlt]
   simpa using hL3
  ·rw[List.take_of_length_le (by omega)]at hL2
   refine wf ?_
   refine s_callR (xs:= [.tmp 34,.const (.int .u8 41)]) L2 LF (f:=272) (cs:= []) (le_func _) rfl rfl (.refl _) _ (writeByte_fn b _ 41 L2 hL2 (by simp only[List.length_append,List.length_cons];omega)) fun r L3 hL3=>?_
   refine wf ?_
   refine wf ?_
   exact⟨trivial,_,L3,.nil,.refl _,by simpa using hL3⟩
def meas (b:Nat) (n:Int):Res:= .box b 276 [.raw (.int .i64 n),.raw (.bool false)]
set_option maxHeartbeats 1000000 in
theorem addP_fn: ∀ (d:Nat) (x:Sx),wfX d x→ ∀ (b:Nat) (n lv:Int),0≤n→n+ndX d x≤20000→1≤lv→lv+d≤13→PCalls Tryz.prog 269 [.raw (self b),.agg (eSx x),.raw (.int .i64 lv)] [meas b n] (fun _ L'=>L'= [meas b (n+ndX d x)])
 |0,x,hw,_,_,_,_,_,_,_=>hw.elim
 |d+1,x,hw,b,n,lv,hn0,hn,hl0,hl=>by
  have ih:=addP_fn d
  have hpos:1≤ndX (d+1) x:=by unfold ndX;split<;>omega
  refine pcalls_bd Tryz.func269 rfl Tryz.ntmps269 (rs:= []) rfl rfl fun hb LF=>?_
  have hlen:x.list.length≤140737488355328:=by
   have:=(hb (.agg (eSx x)) (by simp)).agg_at (c:= .slice (x.list.map eSx) .ro) (by rw[eSx_eq];simp)
   exact this.slice_map
  rw[show [meas b n]++LF= .box b 276 [.raw (.int .i64 n),.raw (.bool false)]::LF from rfl]
  refine wf ?_
  refine s_storeV [.raw (.int .i64 (n+1)),.raw (.bool false)] rfl rfl rfl rfl (by simp) ?_
  refine wf ?_
  refine wf ?_
  refine pops_if (fun hp=>?_) (fun hp=>?_)
  ·have:=of_decide_eq_true hp;omega
  refine wf ?_
  refine pwp_condD (fun h1=>?_) (fun h1=>?_)
  ·omega
  refine wf ?_
  refine pwp_condB (fun h2=>?_) (fun h2=>?_)
  ·refine wf ?_
   have:x.isList=false:=by simpa using h2
   exact⟨trivial,_,[meas b (n+1)],.nil,.refl _,by simp[ndX,this]⟩
  have hB:x.isList=true:=by simpa using h2
  rcases hw with ⟨h3,_⟩|⟨_,_,hw⟩
  ·rw[hB]at h3;cases h3
  have hnd:ndX (d+1) x=1+(x.list.map (ndX d)).sum:=by simp[ndX,hB]
  rw[hnd]at hn ⊢
  refine wf ?_
  refine pwp_loopS (σ:=Nat) (fun k=>k≤x.list.length) (fun k=>x.list.length - k) (fun k=> [(0,.raw (self b)),(2,.raw (.int .i64 lv)),(31,.slice (x.list.map eSx) .ro),(32,.raw (.int .i64 x.list.length)),(33,.raw (.int .i64 k))]) (fun k=>meas b (n+(1+((x.list.map (ndX d)).take k).sum:Nat))::LF) 0 (by simp) ⟨rfl,rfl,rfl,rfl,rfl⟩ (by simp;exact .refl _) ?_
  intro k hk
  have hsk:=sum_take_le (l:=x.list.map (ndX d)) (k:=k)
  have hsk1:=sum_take_le (l:=x.list.map (ndX d)) (k:=k+1)
  refine wf ?_
  refine pwp_condD (fun hc=>?_) (fun hc=>?_)
  ·have hlt:k < x.list.length:=by omega
   have e:((x.list.map (ndX d)).take (k+1)).sum=((x.list.map (ndX d)).take k).sum+ndX d x.list[k]:=by
    rw[List.take_succ_eq_append_getElem (by simpa using hlt),List.sum_append];simp
   refine wz fun b7=>?_
   refine pwp_freezeD 7 ?_
   rw[show meas b (n+(1+((x.list.map (ndX d)).take k).sum:Nat))::LF= .box b 276 [.raw (.int .i64 (n+(1+((x.list.map (ndX d)).take k).sum:Nat))),.raw (.bool false)]::LF from rfl]
   refine wf ?_
   refine s_callR (xs:= [.tmp 41,.tmp 42,.tmp 44]) [meas b (n+(1+((x.list.map (ndX d)).take k).sum:Nat))] LF (f:=269) (cs:= []) (le_func _) rfl rfl (.refl _) _ (ih x.list[k] (hw _ (List.getElem_mem hlt)) b _ (lv+1) (by omega) (by omega) (by omega) (by omega)) fun r L3 hL3=>?_
   subst hL3
   refine wf ?_
   refine wf ?_
   refine⟨k+1,by omega,by dsimp only;omega,⟨rfl,rfl,rfl,rfl,rfl⟩,?_⟩
   show(meas b (n+((1+((x.list.map (ndX d)).take (k+1)).sum:Nat):Int))::LF).Sublist _
   rw[e,show n+((1+(((x.list.map (ndX d)).take k).sum+ndX d x.list[k]):Nat):Int)=n+((1+((x.list.map (ndX d)).take k).sum:Nat):Int)+(ndX d x.list[k]:Int) by omega]
   exact .refl _
  ·refine wf ?_
   rw[List.take_of_length_le (by simp;omega)]
   exact⟨trivial,_,[meas b (n+(1+(x.list.map (ndX d)).sum:Nat))],.nil,.refl _,rfl⟩
set_option maxHeartbeats 1000000 in
theorem shapeP_fn: ∀ (d:Nat) (x:Sx),wfX d x→Q.Fn Tryz.prog 270 [.agg (eSx x)] (.raw (.int .i64 0))
 |0,x,hw=>hw.elim
 |d+1,x,hw=>by
  have ih: ∀ (y:Sx),[Small (wfX d y)]→FnC Tryz.prog 270 [.agg (eSx y)] (.raw (.int .i64 0)):=fun y h=>⟨shapeP_fn d y h.out⟩
  refine fn_of Tryz.func270 Tryz.ntmps270 rfl (rs:= [.tmp 2]) rfl rfl fun hb LF=>?_
  have hlen:x.list.length≤140737488355328:=by
   have:=(hb (.agg (eSx x)) (by simp)).agg_at (c:= .slice (x.list.map eSx) .ro) (by rw[eSx_eq];simp)
   exact this.slice_map
  have hsh:(x.isList=true→x.atom= [])∧(x.isList=false→x.list= [])∧x.atom.length≤65536∧ ∀ y∈x.list,wfX d y:=by
   rcases hw with ⟨h1,h2,h3⟩|⟨h1,h2,h3⟩
   ·exact⟨fun h=>(by rw[h1]at h;cases h),fun _=>h2,h3,fun y hy=>(by rw[h2]at hy;cases hy)⟩
   ·exact⟨fun _=>h2,fun h=>(by rw[h1]at h;cases h),by rw[h2];simp,h3⟩
  refine wf ?_
  refine pops_cutE [(6,.raw (.bool (false))),(1,.pt (eSx x) 0)] (LF) ?_ ?_
  ·repeat' (first|(refine pwp_condD (fun h=>?_) (fun h=>?_)<;>refine wf ?_)|(refine pwp_condN (fun h=>?_) (fun h=>?_)<;>refine wf ?_)|(refine pwp_condB (fun h=>?_) (fun h=>?_)<;>refine wf ?_)|(refine pops_if (fun h=>?_) (fun h=>?_)<;>(have h2:=h;(try simp only[decide_eq_true_eq,decide_eq_false_iff_not,Bool.not_eq_true',Bool.not_eq_false']at h2);refine wf ?_)))
   all_goals (refine⟨⟨holdsB (by rfl) ?_,rfl⟩,.refl _⟩;(have:=hsh.1;have:=hsh.2.1;cases hB:x.isList<;>simp_all))
  refine wf ?_
  refine pwp_condD (fun h5=>?_) (fun h5=>?_)
  ·have:=hsh.2.2.1;omega
  refine wf ?_
  refine pwp_loopS (σ:=Nat) (fun k=>k≤x.list.length) (fun k=>x.list.length - k) (fun k=> [(31,.slice (x.list.map eSx) .ro),(32,.raw (.int .i64 x.list.length)),(33,.raw (.int .i64 k))]) (fun _=>LF) 0 (by simp) ⟨rfl,rfl,rfl⟩ (.refl _) ?_
  intro k hk
  refine wf ?_
  refine pwp_condD (fun hc=>?_) (fun hc=>?_)
  ·have hlt:k < x.list.length:=by omega
   have:Small (wfX d x.list[k]):=⟨hsh.2.2.2 _ (List.getElem_mem hlt)⟩
   refine wz fun b4=>?_
   refine pwp_freezeD 4 ?_
   refine wf ?_
   exact⟨k+1,by omega,by dsimp only;omega,⟨rfl,rfl,rfl⟩,.refl _⟩
  ·refine wf ?_
   exact end1 (.refl _)
instance :ZeroE Tryz.prog 276 [.raw (.int .i64 0),.raw (.bool false)]:=ZeroE.of (us:= [PV.raw (.int .i64 0),.raw (.bool false)].map zv) (by kernel_rfl) (by kernel_rfl)
instance CheckXP_ct (x:Sx) [hs:Small (okX x)]:FnC Tryz.prog 250 [.agg (eSx x)] (.raw (.int .i64 0)):=⟨by
 obtain⟨h1,h2⟩:=hs.out
 have i2:FnC Tryz.prog 270 [.agg (eSx x)] (.raw (.int .i64 0)):=⟨shapeP_fn 8 x h1⟩
 refine fn_of Tryz.func250 Tryz.ntmps250 rfl (rs:= [.tmp 2]) rfl rfl fun hb LF=>?_
 refine wkb fun b1=>?_
 refine wkb fun b5=>?_
 refine s_callR (xs:= [.tmp 6,.tmp 7,.const (.int .i64 1)]) [meas b5 0] (.box b1 217 (eSx x)::LF) (f:=269) (cs:= []) (le_func _) rfl rfl (.refl _) _ (addP_fn 8 x h1 b5 0 1 (by omega) (by omega) (by omega) (by omega)) fun r L3 hL3=>?_
 subst hL3
 rw[show [meas b5 (0+ndX 8 x)]++(.box b1 217 (eSx x)::LF)= .box b5 276 [.raw (.int .i64 (0+ndX 8 x)),.raw (.bool false)]:: .box b1 217 (eSx x)::LF from rfl]
 refine wk ?_
 refine wk ?_
 exact end1 (.refl _)⟩
instance :ZeroE Tryz.prog 260 [.raw (.pointer none),.raw (.slice none 0 0)]:=ZeroE.of (us:= [PV.raw (.pointer none),.raw (.slice none 0 0)].map zv) (by kernel_rfl) (by kernel_rfl)
theorem encX_ne {d:Nat} {x:Sx} (h:wfX d x):encX d x≠ []:=by
 cases d with
 |zero=>exact h.elim
 |succ d=>unfold encX;split<;>simp
instance EncodeXP_ct (x:Sx) [hs:Small (okX x∧(encX 8 x).length≤1000000000)]:FnC Tryz.prog 215 [.agg (eSx x)] (.tuple [.str (encX 8 x),.raw (.int .i64 0)]):=⟨by
 obtain⟨h1,h2⟩:=hs.out
 have:Small (okX x):=⟨h1⟩
 refine fn_of Tryz.func215 Tryz.ntmps215 rfl (rs:= [.tmp 2,.tmp 3]) rfl rfl fun hb LF=>?_
 refine wfb fun b=>?_
 rw[show Res.box b 260 [.raw (.pointer none),.raw (.slice none 0 0)]::LF= [bldB b (.pointer none) (.slice none 0 0)]++LF from rfl]
 refine s_callR (xs:= [.tmp 5,.tmp 11]) [bldB b (.pointer none) (.slice none 0 0)] LF (f:=251) (cs:= []) (le_func _) rfl rfl (.refl _) _ (encP_fn 8 x h1.1 b [] _ ⟨.pointer none,.slice none 0 0,[],.inl rfl,.nil,rfl⟩ (by simpa using h2)) fun r L1 hL1=>?_
 rw[List.nil_append]at hL1
 refine wf ?_
 refine wf ?_
 refine s_callR (xs:= [.tmp 5]) L1 LF (f:=252) (cs:= []) (le_func _) rfl rfl (.refl _) _ (string_fn b (encX 8 x) L1 hL1 (encX_ne h1.1) (by omega)) fun r L2 ⟨hr,hL2⟩=>?_
 subst hr
 subst hL2
 refine wf ?_
 refine wf ?_
 refine end2 ?_
 exact .refl _⟩
end Go.Proofs
namespace Go.Proofs
open Go Go.Q
attribute [local irreducible] pwp pops PCalls OpN
instance IntP_ct (n:Int):FnC Tryz.prog 249 [.raw (.int .i64 n)] (.tuple [.agg (eSx (rInt n).1),.raw (.int .i64 (rInt n).2)]):=⟨by
 refine fn_of Tryz.func249 Tryz.ntmps249 rfl (rs:= [.cell 2 217,.tmp 3]) rfl rfl fun hb LF=>?_
 refine wfb fun b=>?_
 refine pops_cutE [(9,.raw (.bool (decide (n < -1099511627776∨1099511627776 < n)))),(0,.raw (.int .i64 n)),(2,.raw (.pointer (some ⟨b,0,none⟩)))] (.box b 217 (eSx Sx.zero)::LF) ?_ ?_
 ·repeat' (first|(refine pwp_condD (fun h=>?_) (fun h=>?_)<;>refine wf ?_)|(refine pwp_condN (fun h=>?_) (fun h=>?_)<;>refine wf ?_)|(refine pwp_condB (fun h=>?_) (fun h=>?_)<;>refine wf ?_)|(refine pops_if (fun h=>?_) (fun h=>?_)<;>(have h2:=h;(try simp only[decide_eq_true_eq,decide_eq_false_iff_not,Bool.not_eq_true',Bool.not_eq_false']at h2);refine wf ?_)))
  all_goals (refine⟨⟨holdsB (by rfl) ?_,rfl,rfl⟩,.refl _⟩;first|(simp_all;done)|grind)
 refine wf ?_
 refine pwp_condD (fun h=>?_) (fun h=>?_)
 ·refine wf ?_
  refine endC1 rfl (.of_eq ?_)
  rw[rInt,if_pos h]
 ·have:Small (-140737488355328≤n∧n≤140737488355328):=⟨by omega⟩
  refine wf ?_
  refine endC1 rfl (.of_eq ?_)
  rw[rInt,if_neg h];rfl⟩
instance atomP_ct (s:Str):FnC Tryz.prog 212 [.str s] (.agg (eSx (sAtom s))):=⟨by
 refine fn_of Tryz.func212 Tryz.ntmps212 rfl (rs:= [.cell 2 217]) rfl rfl fun hb LF=>?_
 refine wfb fun b=>?_
 refine endC rfl (.of_eq ?_)
 rfl⟩
@[reducible] def lsC (l:List Sx) (t:Tag):List PV:= [.raw (.bool true),.str [],.slice (l.map eSx) t]
theorem lsC_ro (l:List Sx):lsC l .ro=eSx (sList l):=by rw[eSx_eq];rfl
theorem lsC_le (l:List Sx) (t:Tag):Le (.agg (lsC l t)) (.agg (eSx (sList l))):=fun g v hv=>by
 obtain⟨vs,rfl,h⟩:=hv.agg_inv
 match vs,h with
 | [a,b,c],h=>
   rw[←lsC_ro]
   exact VRl.agg (.cons h.uncons.1 (.cons h.uncons.2.uncons.1 (.cons h.uncons.2.uncons.2.uncons.1.ro (.nil g))))
 | [],h=>have:=h.len;simp at this
 | [_],h=>have:=h.len;simp at this
 | [_,_],h=>have:=h.len;simp at this
 |_::_::_::_::_,h=>have:=h.len;simp at this
instance (l:List Sx) (t:Tag):EncC (.agg (lsC l t)) eSx (sList l):=⟨fun g v hv=>Cells.agg _ g v (lsC_le l t g v hv)⟩
instance {x y z:PV}:At [x,y,z] 2 z:=⟨rfl⟩
instance (c:Sx) (l:List Sx) (t:Tag):Put (eSx c) 0 (lsC l t) (lsC l t):=⟨by rw[eSx_eq];simp⟩
instance (l:List Sx) (t:Tag):LenIs (lsC l t) 3:=⟨rfl⟩
instance (l:List Sx) (t:Tag):Flat (lsC l t):=by unfold lsC;infer_instance
theorem list_any (l:List Sx) (t:Tag):Q.Fn Tryz.prog 211 [.slice (l.map eSx) t] (.agg (lsC l t)):=by
 refine fn_of Tryz.func211 Tryz.ntmps211 rfl (rs:= [.cell 2 217]) rfl rfl fun hb LF=>?_
 refine pwp_seq ?_
 refine pwp_region (by kernel_rfl) ?_
 refine s_alloc fun b=>?_
 refine pops_nil ?_
 refine pwp_seq ?_
 refine pwp_region (by kernel_rfl) ?_
 refine s_moveN (by(conv=>lhs;whnf);done) ?_
 refine s_build2 (z:=eSx Sx.zero) (c0:= [.raw (.bool true)]) (c1:= [.slice (l.map eSx) t]) (r1:=lsC l t) (hP0:=⟨rfl,by simp⟩) (hP1:=⟨rfl,by simp⟩) ?_ ?_ rfl rfl ?_
 ·exact Cells.one (c:= .raw (.bool true)) Flat.out
 ·exact Cells.one (c:= .slice (l.map eSx) t) Flat.out
 refine wf ?_
 exact endC rfl (.refl _)
instance listR_ct (l:List Sx):FnC Tryz.prog 211 [.slice (l.map eSx) .ro] (.agg (eSx (sList l))):=⟨lsC_ro l ▸ list_any l .ro⟩
instance (priority:=low) listT_ct (l:List Sx) (t:Tag):FnC Tryz.prog 211 [.slice (l.map eSx) t] (.agg (lsC l t)):=⟨list_any l t⟩
instance listN_ct:FnC Tryz.prog 211 [.slice [] .nil] (.agg (lsC [] .nil)):=⟨list_any [] .nil⟩
instance numberP_ct (n:Int):FnC Tryz.prog 214 [.raw (.int .i64 n)] (.agg (eSx (sNum n))):=⟨by
 refine fn_of Tryz.func214 Tryz.ntmps214 rfl (rs:= [.cell 2 217]) rfl rfl fun hb LF=>?_
 refine wfb fun b=>?_
 refine wfb fun b2=>?_
 refine endC rfl (.of_eq ?_)
 rfl⟩
instance encodeIdP_ct (x:Ident):FnC Tryz.prog 241 [.agg (eIdent x)] (.agg (eSx (sRef x))):=⟨by
 refine fn_of Tryz.func241 Tryz.ntmps241 rfl (rs:= [.cell 2 217]) rfl rfl fun hb LF=>?_
 refine wf ?_
 refine s_alloc fun b=>?_
 refine wn ?_
 refine pwp_condD (fun h=>?_) (fun h=>?_)
 ·refine wn ?_
  refine pwp_drawN 6 ?_ ?_
  ·decide+kernel
  refine wf ?_
  refine endC rfl (.of_eq ?_)
  rw[sRef,sDig,if_pos h]
 ·refine wn ?_
  refine pwp_drawN 9 ?_ ?_
  ·decide+kernel
  refine wf ?_
  refine endC rfl (.of_eq ?_)
  rw[sRef,sDig,if_neg h]⟩
set_option maxHeartbeats 1000000 in
instance overP_ct (l:List Ident) (t:Tag) [hs:Small (l.length≤1000000)]:FnC Tryz.prog 242 [.slice (l.map eIdent) t] (.agg (eSx (sOver l))):=⟨by
 refine fn_of Tryz.func242 Tryz.ntmps242 rfl (rs:= [.cell 2 217]) rfl rfl fun hb LF=>?_
 have hlen:=hs.out
 refine wfb fun b=>?_
 refine wfb fun b3=>?_
 refine pwp_tok 3 ?_
 refine pwp_loopS (σ:=Nat × Tag × List Sx) (fun k=>k.1≤l.length∧k.2.2=(l.take k.1).map sRef) (fun k=>l.length - k.1) (fun k=> [(2,.raw (.pointer (some ⟨b,0,none⟩))),(3,.raw (.pointer (some ⟨b3,0,none⟩))),(7,.slice (l.map eIdent) t),(8,.raw (.int .i64 l.length)),(9,.raw (.int .i64 k.1))]) (fun k=> .tok k.2.1 k.2.2.length 3:: .box b3 217 (lsC k.2.2 k.2.1):: .box b 217 (eSx Sx.zero)::LF) (0,.nil,[]) ⟨by simp,by simp⟩ ⟨rfl,rfl,rfl,rfl,rfl⟩ (.refl _) ?_
 rintro⟨k,v,out⟩ ⟨hk,he⟩
 dsimp only at hk he
 have hol:out.length=k:=by rw[he];simp;omega
 refine wf ?_
 refine pwp_condD (fun hc=>?_) (fun hc=>?_)
 ·have hlt:k < l.length:=by omega
  have ee:(l.take (k+1)).map sRef=out++ [sRef l[k]]:=by rw[List.take_succ_eq_append_getElem hlt,List.map_append,he];rfl
  refine wz fun b5=>?_
  refine pwp_freezeD 5 ?_
  refine wn ?_
  refine pwp_drawN 5 ?_ ?_
  ·decide+kernel
  refine wfa fun v'=>?_
  refine s_storeP (ay:= .slice ((out++ [sRef l[k]]).map eSx) v') (lsC (out++ [sRef l[k]]) v') rfl rfl Flat.out rfl (by simp) ?_
  refine wf ?_
  refine wf ?_
  exact⟨(k+1,v',out++ [sRef l[k]]),⟨by dsimp only;omega,ee.symm⟩,by dsimp only;omega,⟨rfl,rfl,rfl,rfl,rfl⟩,.refl _⟩
 ·rw[List.take_of_length_le (by omega)]at he
  refine wf ?_
  refine endC rfl ?_
  rw[sOver,←he]
  exact lsC_le _ _⟩
set_option maxHeartbeats 1000000 in
instance encodeLinesP_ct (l:List Str) (t:Tag) [hs:Small (l.length≤1000000)]:FnC Tryz.prog 246 [.slice (l.map eS) t] (.agg (eSx (sList (l.map sAtom)))):=⟨by
 refine fn_of Tryz.func246 Tryz.ntmps246 rfl (rs:= [.cell 2 217]) rfl rfl fun hb LF=>?_
 have hlen:=hs.out
 refine wfb fun b=>?_
 refine wfb fun b3=>?_
 refine pwp_tok 3 ?_
 refine pwp_loopS (σ:=Nat × Tag × List Sx) (fun k=>k.1≤l.length∧k.2.2=(l.take k.1).map sAtom) (fun k=>l.length - k.1) (fun k=> [(2,.raw (.pointer (some ⟨b,0,none⟩))),(3,.raw (.pointer (some ⟨b3,0,none⟩))),(7,.slice (l.map eS) t),(8,.raw (.int .i64 l.length)),(9,.raw (.int .i64 k.1))]) (fun k=> .tok k.2.1 k.2.2.length 3:: .box b3 217 (lsC k.2.2 k.2.1):: .box b 217 (eSx Sx.zero)::LF) (0,.nil,[]) ⟨by simp,by simp⟩ ⟨rfl,rfl,rfl,rfl,rfl⟩ (.refl _) ?_
 rintro⟨k,v,out⟩ ⟨hk,he⟩
 dsimp only at hk he
 have hol:out.length=k:=by rw[he];simp;omega
 refine wf ?_
 refine pwp_condD (fun hc=>?_) (fun hc=>?_)
 ·have hlt:k < l.length:=by omega
  have ee:(l.take (k+1)).map sAtom=out++ [sAtom l[k]]:=by rw[List.take_succ_eq_append_getElem hlt,List.map_append,he];rfl
  refine wn ?_
  refine pwp_drawN 5 ?_ ?_
  ·decide+kernel
  refine wfa fun v'=>?_
  refine s_storeP (ay:= .slice ((out++ [sAtom l[k]]).map eSx) v') (lsC (out++ [sAtom l[k]]) v') rfl rfl Flat.out rfl (by simp) ?_
  refine wf ?_
  refine wf ?_
  exact⟨(k+1,v',out++ [sAtom l[k]]),⟨by dsimp only;omega,ee.symm⟩,by dsimp only;omega,⟨rfl,rfl,rfl,rfl,rfl⟩,.refl _⟩
 ·rw[List.take_of_length_le (by omega)]at he
  refine wf ?_
  refine endC rfl ?_
  rw[←he]
  exact lsC_le _ _⟩
end Go.Proofs
namespace Go.Proofs
open Go Go.Q
attribute [local irreducible] pwp pops PCalls OpN
def fd1 (c:Chg):List Sx:= [sNum c.type]
def fd2 (c:Chg):List Sx:= [sRef c.file,sRef c.parent,sAtom c.name,sOver c.over]
def fd3 (c:Chg):List Sx:= [sRef c.file,sNum c.mode,sOver c.over]
def fd4 (c:Chg):List Sx:= [sRef c.file,sAtom c.data,sOver c.over]
def fd5 (c:Chg):List Sx:= [sRef c.file,sRef c.after,sRef c.before,sList (c.lines.map sAtom)]
def fd6 (c:Chg):List Sx:= [sRef c.file,sRef c.after,sRef c.before,sOver c.over]
def fd7 (c:Chg):List Sx:= [sOver c.over]
instance fd1_ct (c:Chg) [hs:Small (c.lines.length≤100000∧c.over.length≤100000)]:FnC Tryz.prog 239 [.agg (eChg c)] (.slice ((fd1 c).map eSx) .ro):=⟨by
 obtain⟨h1,h2⟩:=hs.out
 have i1:Small (c.over.length≤1000000):=⟨by omega⟩
 have i2:Small (c.lines.length≤1000000):=⟨by omega⟩
 refine fn_of Tryz.func239 Tryz.ntmps239 rfl (rs:= [.tmp 2]) rfl rfl fun hb LF=>?_
 refine wf ?_
 refine end1 (.of_eq ?_)
 rfl⟩
instance fd2_ct (c:Chg) [hs:Small (c.lines.length≤100000∧c.over.length≤100000)]:FnC Tryz.prog 240 [.agg (eChg c)] (.slice ((fd2 c).map eSx) .ro):=⟨by
 obtain⟨h1,h2⟩:=hs.out
 have i1:Small (c.over.length≤1000000):=⟨by omega⟩
 have i2:Small (c.lines.length≤1000000):=⟨by omega⟩
 refine fn_of Tryz.func240 Tryz.ntmps240 rfl (rs:= [.tmp 2]) rfl rfl fun hb LF=>?_
 refine wn ?_
 refine pwp_drawN 14 ?_ ?_
 ·decide+kernel
 refine wf ?_
 refine end1 (.of_eq ?_)
 rfl⟩
instance fd3_ct (c:Chg) [hs:Small (c.lines.length≤100000∧c.over.length≤100000)]:FnC Tryz.prog 243 [.agg (eChg c)] (.slice ((fd3 c).map eSx) .ro):=⟨by
 obtain⟨h1,h2⟩:=hs.out
 have i1:Small (c.over.length≤1000000):=⟨by omega⟩
 have i2:Small (c.lines.length≤1000000):=⟨by omega⟩
 refine fn_of Tryz.func243 Tryz.ntmps243 rfl (rs:= [.tmp 2]) rfl rfl fun hb LF=>?_
 refine wn ?_
 refine pwp_drawN 11 ?_ ?_
 ·decide+kernel
 refine wf ?_
 refine end1 (.of_eq ?_)
 rfl⟩
instance fd4_ct (c:Chg) [hs:Small (c.lines.length≤100000∧c.over.length≤100000)]:FnC Tryz.prog 244 [.agg (eChg c)] (.slice ((fd4 c).map eSx) .ro):=⟨by
 obtain⟨h1,h2⟩:=hs.out
 have i1:Small (c.over.length≤1000000):=⟨by omega⟩
 have i2:Small (c.lines.length≤1000000):=⟨by omega⟩
 refine fn_of Tryz.func244 Tryz.ntmps244 rfl (rs:= [.tmp 2]) rfl rfl fun hb LF=>?_
 refine wn ?_
 refine pwp_drawN 11 ?_ ?_
 ·decide+kernel
 refine wf ?_
 refine end1 (.of_eq ?_)
 rfl⟩
instance fd5_ct (c:Chg) [hs:Small (c.lines.length≤100000∧c.over.length≤100000)]:FnC Tryz.prog 245 [.agg (eChg c)] (.slice ((fd5 c).map eSx) .ro):=⟨by
 obtain⟨h1,h2⟩:=hs.out
 have i1:Small (c.over.length≤1000000):=⟨by omega⟩
 have i2:Small (c.lines.length≤1000000):=⟨by omega⟩
 refine fn_of Tryz.func245 Tryz.ntmps245 rfl (rs:= [.tmp 2]) rfl rfl fun hb LF=>?_
 refine wn ?_
 refine pwp_drawN 14 ?_ ?_
 ·decide+kernel
 refine wf ?_
 refine end1 (.of_eq ?_)
 rfl⟩
instance fd6_ct (c:Chg) [hs:Small (c.lines.length≤100000∧c.over.length≤100000)]:FnC Tryz.prog 247 [.agg (eChg c)] (.slice ((fd6 c).map eSx) .ro):=⟨by
 obtain⟨h1,h2⟩:=hs.out
 have i1:Small (c.over.length≤1000000):=⟨by omega⟩
 have i2:Small (c.lines.length≤1000000):=⟨by omega⟩
 refine fn_of Tryz.func247 Tryz.ntmps247 rfl (rs:= [.tmp 2]) rfl rfl fun hb LF=>?_
 refine wn ?_
 refine pwp_drawN 14 ?_ ?_
 ·decide+kernel
 refine wf ?_
 refine end1 (.of_eq ?_)
 rfl⟩
instance fd7_ct (c:Chg) [hs:Small (c.lines.length≤100000∧c.over.length≤100000)]:FnC Tryz.prog 248 [.agg (eChg c)] (.slice ((fd7 c).map eSx) .ro):=⟨by
 obtain⟨h1,h2⟩:=hs.out
 have i1:Small (c.over.length≤1000000):=⟨by omega⟩
 have i2:Small (c.lines.length≤1000000):=⟨by omega⟩
 refine fn_of Tryz.func248 Tryz.ntmps248 rfl (rs:= [.tmp 2]) rfl rfl fun hb LF=>?_
 refine wf ?_
 refine end1 (.of_eq ?_)
 rfl⟩
def fTab:List (Int × PV):= [(1,.raw (.func (.func 239) #[] #[])),(2,.raw (.func (.func 240) #[] #[])),(3,.raw (.func (.func 243) #[] #[])),(4,.raw (.func (.func 244) #[] #[])),(5,.raw (.func (.func 245) #[] #[])),(6,.raw (.func (.func 247) #[] #[])),(7,.raw (.func (.func 248) #[] #[]))]
theorem fieldsTab_fn:PCalls Tryz.prog 213 [] [] (fun r L'=> ∃ b,r= .raw (.map (some b))∧L'= [.map b (eMap kInt vId fTab)]):=by
 refine pcalls_bd Tryz.func213 rfl Tryz.ntmps213 (rs:= [.tmp 0]) rfl rfl fun hb LF=>?_
 rw[List.nil_append]
 refine wfm fun b=>?_
 exact⟨trivial,_,[.map b (eMap kInt vId fTab)],.cons (.tmp 0) .nil,.refl _,b,rfl,rfl⟩
def fOf (k:Int):Nat:=if k=1 then 239 else if k=2 then 240 else if k=3 then 243 else if k=4 then 244 else if k=5 then 245 else if k=6 then 247 else 248
def fdOf (c:Chg):List Sx:=if c.kind=1 then fd1 c else if c.kind=2 then fd2 c else if c.kind=3 then fd3 c else if c.kind=4 then fd4 c else if c.kind=5 then fd5 c else if c.kind=6 then fd6 c else fd7 c
theorem fdOf_len (c:Chg):(fdOf c).length≤4:=by
 unfold fdOf
 repeat' split
 all_goals simp[fd1,fd2,fd3,fd4,fd5,fd6,fd7]
theorem kinds {k:Int} (h:1≤k∧k≤7):k=1∨k=2∨k=3∨k=4∨k=5∨k=6∨k=7:=by omega
theorem fTab_get {k:Int} (h:1≤k∧k≤7):vId ((mGet k fTab).getD (.raw .nilFunc))= .raw (.func (.func (fOf k)) #[] #[]):=by
 rcases kinds h with h|h|h|h|h|h|h<;>(subst h;rfl)
theorem fOf_fun {k:Int} (h:1≤k∧k≤7):TFun Tryz.prog (fOf k):=by
 rcases kinds h with h|h|h|h|h|h|h<;>(subst h;simp only[fOf];first|exact(inferInstance:TFun Tryz.prog 239)|exact(inferInstance:TFun Tryz.prog 240)|exact(inferInstance:TFun Tryz.prog 243)|exact(inferInstance:TFun Tryz.prog 244)|exact(inferInstance:TFun Tryz.prog 245)|exact(inferInstance:TFun Tryz.prog 247)|exact(inferInstance:TFun Tryz.prog 248))
theorem fd_call (c:Chg) (h:1≤c.kind∧c.kind≤7) [hs:Small (c.lines.length≤100000∧c.over.length≤100000)]:Q.Fn Tryz.prog (fOf c.kind) [.agg (eChg c)] (.slice ((fdOf c).map eSx) .ro):=by
 unfold fOf fdOf
 by_cases h1:c.kind=1
 ·rw[if_pos h1,if_pos h1];exact(fd1_ct c).out
 by_cases h2:c.kind=2
 ·rw[if_neg h1,if_neg h1,if_pos h2,if_pos h2];exact(fd2_ct c).out
 by_cases h3:c.kind=3
 ·rw[if_neg h1,if_neg h1,if_neg h2,if_neg h2,if_pos h3,if_pos h3];exact(fd3_ct c).out
 by_cases h4:c.kind=4
 ·rw[if_neg h1,if_neg h1,if_neg h2,if_neg h2,if_neg h3,if_neg h3,if_pos h4,if_pos h4];exact(fd4_ct c).out
 by_cases h5:c.kind=5
 ·rw[if_neg h1,if_neg h1,if_neg h2,if_neg h2,if_neg h3,if_neg h3,if_neg h4,if_neg h4,if_pos h5,if_pos h5];exact(fd5_ct c).out
 by_cases h6:c.kind=6
 ·rw[if_neg h1,if_neg h1,if_neg h2,if_neg h2,if_neg h3,if_neg h3,if_neg h4,if_neg h4,if_neg h5,if_neg h5,if_pos h6,if_pos h6];exact(fd6_ct c).out
 rw[if_neg h1,if_neg h1,if_neg h2,if_neg h2,if_neg h3,if_neg h3,if_neg h4,if_neg h4,if_neg h5,if_neg h5,if_neg h6,if_neg h6];exact(fd7_ct c).out
def sChgP (c:Chg):Sx:=sList ([sNum c.kind]++fdOf c)
def sPatP (p:Pat):Sx:=sList [sAtom [113,117,105,108,116,49],sAtom p.author,sAtom p.message,sNum p.time,sList (p.deps.map fun d=>sAtom d.bs),sList (p.changes.map sChgP)]
theorem sChgP_eq {c:Chg} (h:1≤c.kind∧c.kind≤7):sChgP c=sChg c:=by
 unfold sChgP sChg sChg1 sChg2 sChg3 fdOf
 rcases kinds h with h|h|h|h|h|h|h<;>simp[h,fd1,fd2,fd3,fd4,fd5,fd6,fd7]
theorem sPatP_eq {p:Pat} (hd: ∀ d∈p.deps,d≠Dig.zero) (hk: ∀ c∈p.changes,1≤c.kind∧c.kind≤7):sPatP p=sPat p:=by
 unfold sPatP sPat
 rw[List.map_congr_left (f:=fun d:Dig=>sAtom d.bs) (g:=sDig) (fun d h=>by rw[sDig,if_neg (hd d h)]),List.map_congr_left (f:=sChgP) (g:=sChg) (fun c h=>sChgP_eq (hk c h))]
structure encOkP (p:Pat):Prop where
 ok:encOk p
 deps: ∀ d∈p.deps,d≠Dig.zero
 kinds: ∀ c∈p.changes,1≤c.kind∧c.kind≤7
set_option maxHeartbeats 2000000 in
instance encodePP_ct (p:Pat) [hs:Small (encOkP p)]:FnC Tryz.prog 171 [.agg (ePat p)] (.tuple [.str (rEnc p),.raw (.int .i64 0)]):=⟨by
 refine fn_of Tryz.func171 Tryz.ntmps171 rfl (rs:= [.tmp 2,.tmp 3]) rfl rfl fun hb LF=>?_
 have hd:=hs.out.ok.deps
 have hch:=hs.out.ok.chgs
 refine wfb fun b4=>?_
 refine s_alloc fun b5=>?_
 refine wf ?_
 refine pwp_tok 3 ?_
 refine pwp_loopS (σ:=Nat × Tag × List Sx) (fun k=>k.1≤p.deps.length∧k.2.2=(p.deps.take k.1).map fun d=>sAtom d.bs) (fun k=>p.deps.length - k.1) (fun k=> [(1,.pt (ePat p) 0),(4,.raw (.pointer (some ⟨b4,0,none⟩))),(5,.raw (.pointer (some ⟨b5,0,none⟩))),(15,.slice (p.deps.map eDig) .ro),(16,.raw (.int .i64 p.deps.length)),(17,.raw (.int .i64 k.1))]) (fun k=> .tok k.2.1 k.2.2.length 3:: .box b5 217 (lsC [] .nil):: .box b4 217 (lsC k.2.2 k.2.1)::LF) (0,.nil,[]) ⟨by simp,by simp⟩ ⟨rfl,rfl,rfl,rfl,rfl,rfl⟩ (.refl _) ?_
 rintro⟨k,v,l⟩ ⟨hk,he⟩
 dsimp only at hk he
 have hll:l.length=k:=by rw[he];simp;omega
 refine wf ?_
 refine pwp_condD (fun hc=>?_) (fun hc=>?_)
 ·have hlt:k < p.deps.length:=by omega
  have ee:(p.deps.take (k+1)).map (fun d=>sAtom d.bs)=l++ [sAtom p.deps[k].bs]:=by rw[List.take_succ_eq_append_getElem hlt,List.map_append,he];rfl
  refine wz fun b7=>?_
  refine pwp_freezeD 7 ?_
  refine wn ?_
  refine pwp_drawN 6 ?_ ?_
  ·decide+kernel
  refine wfa fun v'=>?_
  refine s_storeP (ay:= .slice ((l++ [sAtom p.deps[k].bs]).map eSx) v') (lsC (l++ [sAtom p.deps[k].bs]) v') rfl rfl Flat.out rfl (by simp) ?_
  refine wf ?_
  refine wf ?_
  exact⟨(k+1,v',l++ [sAtom p.deps[k].bs]),⟨by dsimp only;omega,ee.symm⟩,by dsimp only;omega,⟨rfl,rfl,rfl,rfl,rfl,rfl⟩,.refl _⟩
 rw[List.take_of_length_le (by omega)]at he
 clear hll
 refine wf ?_
 refine s_callR (xs:= []) [] (.tok v l.length 3:: .box b5 217 (lsC [] .nil):: .box b4 217 (lsC l v)::LF) (f:=213) (cs:= []) (le_func _) rfl rfl (.refl _) _ fieldsTab_fn fun r L1 ⟨bm,hr,hL1⟩=>?_
 subst hr
 subst hL1
 refine wo ?_
 refine pops_nil ?_
 refine pwp_freezeM [(1,.pt (ePat p) 0),(4,.raw (.pointer (some ⟨b4,0,none⟩))),(5,.raw (.pointer (some ⟨b5,0,none⟩))),(8,.fmap (eMap kInt vId fTab))] ⟨.inl rfl,.inl rfl,.inl rfl,.inr ⟨rfl,rfl⟩⟩ (.refl _) ?_
 refine wf ?_
 refine pwp_tok 3 ?_
 refine pwp_loopS (σ:=Nat × Tag × List Sx) (fun k=>k.1≤p.changes.length∧k.2.2=(p.changes.take k.1).map sChgP) (fun k=>p.changes.length - k.1) (fun k=> [(1,.pt (ePat p) 0),(4,.raw (.pointer (some ⟨b4,0,none⟩))),(5,.raw (.pointer (some ⟨b5,0,none⟩))),(8,.fmap (eMap kInt vId fTab)),(32,.slice (p.changes.map eChg) .ro),(33,.raw (.int .i64 p.changes.length)),(34,.raw (.int .i64 k.1))]) (fun k=> .tok k.2.1 k.2.2.length 3:: .box b5 217 (lsC k.2.2 k.2.1):: .box b4 217 (lsC l v)::LF) (0,.nil,[]) ⟨by simp,by simp⟩ ⟨rfl,rfl,rfl,rfl,rfl,rfl,rfl⟩ (.cons_cons _ (.cons _ (.refl _))) ?_
 rintro⟨k,u,m⟩ ⟨hk,hm⟩
 dsimp only at hk hm
 have hml:m.length=k:=by rw[hm];simp;omega
 refine wf ?_
 refine pwp_condD (fun hc=>?_) (fun hc=>?_)
 ·have hlt:k < p.changes.length:=by omega
  have ee:(p.changes.take (k+1)).map sChgP=m++ [sChgP p.changes[k]]:=by rw[List.take_succ_eq_append_getElem hlt,List.map_append,hm];rfl
  have hcc:=hs.out.ok.chg _ (List.getElem_mem hlt)
  have hkc:=hs.out.kinds _ (List.getElem_mem hlt)
  have:Small (p.changes[k].lines.length≤100000∧p.changes[k].over.length≤100000):=⟨hcc⟩
  have hfun:=fOf_fun hkc
  have hfl:=fdOf_len p.changes[k]
  refine wz fun b10=>?_
  refine pwp_freezeD 10 ?_
  refine pwp_seq ?_
  refine pwp_region (by kernel_rfl) ?_
  refine s_fldF (by rfl) (hr:=(by first|infer_instance|fail)) ?_
  refine s_loadS (by rfl) rfl ?_
  refine j_call1 (by(conv=>lhs;whnf);done) (hN0:=(by first|infer_instance|fail)) (hc:=(by first|infer_instance|fail)) ?_
  refine s_bsT1 (by(conv=>lhs;whnf);done) (hC0:=(by first|infer_instance|fail)) (hf:=(by first|infer_instance|fail)) (by decide) fun t=>?_
  refine wz fun b11=>?_
  refine wn ?_
  refine pwp_drawN 8 ?_ ?_
  ·decide+kernel
  refine wf ?_
  refine s_callV (xs:= [.tmp 49]) (f:=fOf p.changes[k].kind) (cs:= []) (by show Le (vId ((mGet p.changes[k].kind fTab).getD (.raw .nilFunc))) _;rw[fTab_get hkc];exact le_func _) rfl rfl (fd_call p.changes[k] hkc) ?_
  refine wfa fun v'=>?_
  refine s_storeP (ay:= .slice (([sNum p.changes[k].kind]++fdOf p.changes[k]).map eSx) v') (lsC ([sNum p.changes[k].kind]++fdOf p.changes[k]) v') rfl rfl Flat.out rfl (by simp) ?_
  refine wf ?_
  refine wfa fun u'=>?_
  refine s_storeP (ay:= .slice ((m++ [sChgP p.changes[k]]).map eSx) u') (lsC (m++ [sChgP p.changes[k]]) u') rfl rfl Flat.out rfl (by simp) ?_
  refine wf ?_
  exact⟨(k+1,u',m++ [sChgP p.changes[k]]),⟨by dsimp only;omega,ee.symm⟩,by dsimp only;omega,⟨rfl,rfl,rfl,rfl,rfl,rfl,rfl⟩,by dsimp only;repeat(first|exact List.Sublist.refl _|apply List.Sublist.cons_cons|apply List.Sublist.cons)⟩
 rw[List.take_of_length_le (by omega)]at hm
 have e:sPat p=sList [sAtom [113,117,105,108,116,49],sAtom p.author,sAtom p.message,sNum p.time,sList l,sList m]:=by rw[←sPatP_eq hs.out.deps hs.out.kinds,sPatP,←he,←hm]
 have i1:Small (okX (sList [sAtom [113,117,105,108,116,49],sAtom p.author,sAtom p.message,sNum p.time,sList l,sList m])∧(encX 8 (sList [sAtom [113,117,105,108,116,49],sAtom p.author,sAtom p.message,sNum p.time,sList l,sList m])).length≤1000000000):=by
  rw[←e];exact⟨hs.out.ok.ok,hs.out.ok.len⟩
 refine wf ?_
 refine end2 ?_
 rw[rEnc,e]
 exact .refl _⟩
end Go.Proofs
namespace Go.Q
open Go
section
variable {P:Program} {N:Nat} {all:Array Oper} {K:Env→List Res→Prop} {fl:List Bool} {os:List Oper} {ρ:Env} {L:List Res} {Q:PPost} {c:Code} {d:Nat} {ty:TypeId} {pos:String} {af:Array Edge}
theorem s_indexBL {T n E sz by_:Nat} [hT:TArr P T n E] [hE:TSz P E sz by_] {x y:Operand} {b off:Nat} {kk:IntKind} {i:Nat} (hx:ρ.ev x= .raw (.pointer (some ⟨b,off,none⟩))) (hy:ρ.ev y= .raw (.int kk (@OfNat.ofNat Int i _))) (hi:i < n)
  (k:pops P N all K fl.tail os (upd ρ d (.raw (.pointer (some ⟨b,off+(@OfNat.ofNat Nat i _)*sz,none⟩)))) L) (hd:Nat.blt d N=true:=by rfl):pops P N all K fl (⟨some d,.indexAddr T x y,ty,pos,af,none⟩::os) ρ L:=
 s_indexB (i:=i) hx hy hi k hd
theorem s_indexBI {T n E sz by_:Nat} [hT:TArr P T n E] [hE:TSz P E sz by_] {x y:Operand} {b off:Nat} {kk:IntKind} {i:Int} (hx:ρ.ev x= .raw (.pointer (some ⟨b,off,none⟩))) (hy:ρ.ev y= .raw (.int kk i)) (h0:0≤i) (hi:i.toNat < n)
  (k:pops P N all K fl.tail os (upd ρ d (.raw (.pointer (some ⟨b,off+i.toNat*sz,none⟩)))) L) (hd:Nat.blt d N=true:=by rfl):pops P N all K fl (⟨some d,.indexAddr T x y,ty,pos,af,none⟩::os) ρ L:=
 s_indexB (i:=i.toNat) hx (by rw[hy,Int.toNat_of_nonneg h0]) hi k hd
theorem s_indexSI {T:TypeId} [hT:TStr P T] {x y:Operand} {s:Str} {ax:PV} {kk:IntKind} {n:Int} (hx:ρ.ev x=ax) [jx:IsStr ax s] (hy:ρ.ev y= .raw (.int kk n)) (h0:0≤n) (hn:n.toNat < s.length) (k:pops P N all K fl.tail os (upd ρ d (.raw (.int .u8 ((s.getD n.toNat 0).toNat:Int)))) L) (hd:Nat.blt d N=true:=by rfl):
  pops P N all K fl (⟨some d,.index T x y,ty,pos,af,none⟩::os) ρ L:=
 s_indexS (n:=n.toNat) hx (by rw[hy,Int.toNat_of_nonneg h0]) hn (by have e:s[n.toNat]=s.getD n.toNat 0:=by simp[List.getD,hn]
                                                                    rw[e];exact k) hd
theorem s_buildWe {T n E by_:Nat} {z:List PV} [hT:TArr P T n E] [hE:TSz P E 1 by_] [hZ:ZeroE P T z] {parts:Array (Nat × Operand)} (xs:List Operand) (ws:List Nat) (hp:parts=(xs.zipIdx.map fun p=>(p.2,p.1)).toArray) (hx:xs.map ρ.ev=eW ws) (hz:z.length=ws.length) (hn:xs.length=ws.length)
  (k:pops P N all K fl.tail os (upd ρ d (.agg (eW ws))) L) (hd:Nat.blt d N=true:=by rfl):pops P N all K fl (⟨some d,.build T parts,ty,pos,af,none⟩::os) ρ L:=by
 subst hp;exact s_buildW ws hx hz hn k hd
theorem s_quoL {T T':TypeId} {x y:Operand} {m n:Nat} (hx:ρ.ev x= .raw (.int .i64 (m:Int))) (hy:ρ.ev y= .raw (.int .i64 (@OfNat.ofNat Int n _))) (hn:n≠0) (hm:m≤9223372036854775807) (k:pops P N all K fl.tail os (upd ρ d (.raw (.int .i64 ((m / (@OfNat.ofNat Nat n _):Nat):Int)))) L) (hd:Nat.blt d N=true:=by rfl):
  pops P N all K fl (⟨some d,.binOp .quo T x y T',ty,pos,af,none⟩::os) ρ L:=s_quo (n:=n) hx hy hn hm k hd
theorem s_remL {T T':TypeId} {x y:Operand} {m n:Nat} (hx:ρ.ev x= .raw (.int .i64 (m:Int))) (hy:ρ.ev y= .raw (.int .i64 (@OfNat.ofNat Int n _))) (hn:n≠0) (k:pops P N all K fl.tail os (upd ρ d (.raw (.int .i64 ((m % (@OfNat.ofNat Nat n _):Nat):Int)))) L) (hd:Nat.blt d N=true:=by rfl):
  pops P N all K fl (⟨some d,.binOp .rem T x y T',ty,pos,af,none⟩::os) ρ L:=s_rem (n:=n) hx hy hn k hd
theorem walkW {A B:Prop} (k:B) (h:Wrap B→A:=by
  intro hB
  repeat(first
   |refine pops_nil ?_
   |(refine g_move ?_;first|refine s_moveN (by(conv=>lhs;whnf);done) ?_)
   |(refine g_assign ?_;first|refine s_assignN (by(conv=>lhs;whnf);done) ?_)
   |(refine g_load ?_;first|refine s_loadW (by rfl) (by repeat(first|exact List.mem_cons_self|apply List.mem_cons_of_mem)) (by omega) ?_|refine s_loadBL (by rfl) (by repeat(first|exact List.mem_cons_self|apply List.mem_cons_of_mem)) (hl:=(by first|infer_instance|fail)) ?_|refine s_loadD (by rfl) (by repeat(first|exact List.mem_cons_self|apply List.mem_cons_of_mem)) (by omega) ?_)
   |(refine g_fld ?_;first|refine s_fldF (by rfl) (hr:=(by first|infer_instance|fail)) ?_|refine s_fldBq (by rfl) (by(conv=>lhs;whnf);done) ?_)
   |(refine g_len ?_;first|refine s_lenM (by rfl) ?_|refine s_lenS (by(conv=>lhs;whnf);done) (jx:=(by first|infer_instance|fail)) ?_|refine s_len (by rfl) ?_)
   |(refine g_call ?_;first|refine j_call1 (by(conv=>lhs;whnf);done) (hN0:=(by first|infer_instance|fail)) (hc:=(by first|infer_instance|fail)) ?_|refine j_call2 (by(conv=>lhs;whnf);done) (by(conv=>lhs;whnf);done) (hN0:=(by first|infer_instance|fail)) (hN1:=(by first|infer_instance|fail)) (hc:=(by first|infer_instance|fail)) ?_|refine j_call3 (by(conv=>lhs;whnf);done) (by(conv=>lhs;whnf);done) (by(conv=>lhs;whnf);done) (hN0:=(by first|infer_instance|fail)) (hN1:=(by first|infer_instance|fail)) (hN2:=(by first|infer_instance|fail)) (hc:=(by first|infer_instance|fail)) ?_|refine j_call0 (hc:=(by first|infer_instance|fail)) ?_|refine j_call4 (by(conv=>lhs;whnf);done) (by(conv=>lhs;whnf);done) (by(conv=>lhs;whnf);done) (by(conv=>lhs;whnf);done) (hN0:=(by first|infer_instance|fail)) (hN1:=(by first|infer_instance|fail)) (hN2:=(by first|infer_instance|fail)) (hN3:=(by first|infer_instance|fail)) (hc:=(by first|infer_instance|fail)) ?_|refine j_call5 (by(conv=>lhs;whnf);done) (by(conv=>lhs;whnf);done) (by(conv=>lhs;whnf);done) (by(conv=>lhs;whnf);done) (by(conv=>lhs;whnf);done) (hN0:=(by first|infer_instance|fail)) (hN1:=(by first|infer_instance|fail)) (hN2:=(by first|infer_instance|fail)) (hN3:=(by first|infer_instance|fail)) (hN4:=(by first|infer_instance|fail)) (hc:=(by first|infer_instance|fail)) ?_|refine j_call6 (by(conv=>lhs;whnf);done) (by(conv=>lhs;whnf);done) (by(conv=>lhs;whnf);done) (by(conv=>lhs;whnf);done) (by(conv=>lhs;whnf);done) (by(conv=>lhs;whnf);done) (hN0:=(by first|infer_instance|fail)) (hN1:=(by first|infer_instance|fail)) (hN2:=(by first|infer_instance|fail)) (hN3:=(by first|infer_instance|fail)) (hN4:=(by first|infer_instance|fail)) (hN5:=(by first|infer_instance|fail)) (hc:=(by first|infer_instance|fail)) ?_)
   |(refine g_bi ?_;first|refine s_min (by rfl) (by rfl) ?_|refine s_max (by rfl) (by rfl) ?_)
   |(refine g_bin ?_;first|refine s_lss (by rfl) (by rfl) ?_|refine s_leq (by rfl) (by rfl) ?_|refine s_geq (by rfl) (by rfl) ?_|refine s_add (by rfl) (by rfl) (by constructor<;>omega) ?_|refine s_sub (by rfl) (by rfl) (by constructor<;>omega) ?_|refine s_cat (by(conv=>lhs;whnf);done) (by(conv=>lhs;whnf);done) (jx:=(by first|infer_instance|fail)) (jy:=(by first|infer_instance|fail)) (by first|omega|(simp only[List.length_append,List.length_cons,List.length_nil,Nat.zero_add];omega)) ?_|refine s_mul (by rfl) (by rfl) (by constructor<;>omega) ?_|refine s_addW (by rfl) (by rfl) ?_|refine s_xorW (by rfl) (by rfl) ?_|refine s_andW (by rfl) (by rfl) ?_|refine s_orW (by rfl) (by rfl) ?_|refine s_shrW (by rfl) (by rfl) ?_|refine s_shlW (by rfl) (by rfl) ?_|refine s_shrU (by rfl) (by rfl) ?_|refine s_subU (by rfl) (by rfl) (by omega) (by omega) ?_|refine s_mulU (by rfl) (by rfl) (by omega) ?_|refine s_quoL (by rfl) (by rfl) (by decide) (by omega) ?_|refine s_remL (by rfl) (by rfl) (by decide) ?_)
   |(refine g_ix ?_;first|refine s_indexBL (by rfl) (by rfl) (by decide) ?_|refine s_indexB (by rfl) (by rfl) (by omega) ?_|refine s_indexBI (by rfl) (by rfl) (by omega) (by omega) ?_)
   |(refine g_un ?_;first|refine s_not (by rfl) ?_|refine s_neg (by rfl) (by constructor<;>omega) ?_|refine s_notW (by rfl) ?_)
   |(refine g_store ?_;first|refine s_storeX (by rfl) (by rfl) (hB:=(by first|infer_instance|fail)) (hu:=(by first|infer_instance|fail)) (hf:=(by first|infer_instance|fail)) (hlen:=(by first|infer_instance|fail)) (hcs:=(by first|infer_instance|fail)) ?_|refine s_storeW32 (by rfl) (by rfl) (by repeat(first|exact List.mem_cons_self|apply List.mem_cons_of_mem)) (by omega) (hu:=(by first|infer_instance|fail)) ?_|refine s_storeD (by rfl) (by rfl) (by repeat(first|exact List.mem_cons_self|apply List.mem_cons_of_mem)) (by omega) (hu:=(by first|infer_instance|fail)) ?_)
   |(refine g_bs ?_;first|refine s_bs0 ?_|refine s_bs1 (by(conv=>lhs;whnf);done) (hC0:=(by first|infer_instance|fail)) (hf:=(by first|infer_instance|fail)) (by decide) ?_)
   |(refine g_build ?_;first|refine s_build0 ?_|refine s_buildA0 ?_)
   |(refine g_slice ?_;first|refine s_cutL (by rfl) (by rfl) (by omega) ?_|refine s_cutH (by rfl) (by rfl) (by omega) ?_|refine s_cutS (by(conv=>lhs;whnf);done) (by rfl) (by rfl) (jx:=(by first|infer_instance|fail)) (by omega) (by omega) (by omega) ?_|refine s_cutSL (by(conv=>lhs;whnf);done) (by rfl) (jx:=(by first|infer_instance|fail)) (by omega) (by omega) ?_|refine s_sliceD (by rfl) ?_)
   |(refine g_conv ?_;first|refine s_convB (by rfl) ?_|refine s_convW (by rfl) ?_|refine s_convU (by rfl) (by omega) ?_|refine s_strB (by rfl) ?_|refine s_strBox (by rfl) (by repeat(first|exact List.mem_cons_self|apply List.mem_cons_of_mem)) (hs:=(by first|infer_instance|fail)) ?_)
   |(refine g_index ?_;first|refine s_indexSI (by(conv=>lhs;whnf);done) (by rfl) (jx:=(by first|infer_instance|fail)) (by omega) (by omega) ?_)
   |refine pwp_seq ?_
   |refine pwp_region (by kernel_rfl) ?_
   |refine pwp_block ?_
   |refine pwp_skip ?_
   |refine pwp_ret ?_
   |refine pwp_exit ?_
   |refine pwp_drawQ (by decide+kernel) ?_
   |refine pwp_condT (by rfl) ?_
   |refine pwp_condF (by rfl) ?_)
  exact hB.out):A:=h ⟨k⟩
theorem walkWp {A B:Prop} (k:B) (h:Wrap B→A:=by
  intro hB
  refine walkW ?_
  exact hB.out):A:=h ⟨k⟩
theorem walkWb {A:Prop} {B:Nat→Prop} (k: ∀ b,B b) (h:WrapF B→A:=by
  intro hB
  refine walkW ?_
  first|refine s_box (by rfl) fun b=>?_|refine s_alloc fun b=>?_
  refine walkW ?_
  exact hB.out b):A:=h ⟨k⟩
theorem walkWbp {A:Prop} {B:Nat→Prop} (k: ∀ b,B b) (h:WrapF B→A:=by
  intro hB
  refine walkWb fun b=>?_
  exact hB.out b):A:=h ⟨k⟩
theorem walkWn {A B:Prop} (k:B) (h:Wrap B→A:=by
  intro hB
  repeat(first
   |refine pops_nil ?_
   |(refine g_move ?_;first|refine s_moveN (by(conv=>lhs;whnf);done) ?_)
   |(refine g_assign ?_;first|refine s_assignN (by(conv=>lhs;whnf);done) ?_)
   |(refine g_load ?_;first|refine s_loadW (by rfl) (by repeat(first|exact List.mem_cons_self|apply List.mem_cons_of_mem)) (by omega) ?_|refine s_loadBL (by rfl) (by repeat(first|exact List.mem_cons_self|apply List.mem_cons_of_mem)) (hl:=(by first|infer_instance|fail)) ?_|refine s_loadD (by rfl) (by repeat(first|exact List.mem_cons_self|apply List.mem_cons_of_mem)) (by omega) ?_)
   |(refine g_fld ?_;first|refine s_fldF (by rfl) (hr:=(by first|infer_instance|fail)) ?_|refine s_fldBq (by rfl) (by(conv=>lhs;whnf);done) ?_)
   |(refine g_len ?_;first|refine s_lenM (by rfl) ?_|refine s_lenS (by(conv=>lhs;whnf);done) (jx:=(by first|infer_instance|fail)) ?_|refine s_len (by rfl) ?_)
   |(refine g_call ?_;first|refine j_call1 (by(conv=>lhs;whnf);done) (hN0:=(by first|infer_instance|fail)) (hc:=(by first|infer_instance|fail)) ?_|refine j_call2 (by(conv=>lhs;whnf);done) (by(conv=>lhs;whnf);done) (hN0:=(by first|infer_instance|fail)) (hN1:=(by first|infer_instance|fail)) (hc:=(by first|infer_instance|fail)) ?_|refine j_call3 (by(conv=>lhs;whnf);done) (by(conv=>lhs;whnf);done) (by(conv=>lhs;whnf);done) (hN0:=(by first|infer_instance|fail)) (hN1:=(by first|infer_instance|fail)) (hN2:=(by first|infer_instance|fail)) (hc:=(by first|infer_instance|fail)) ?_|refine j_call0 (hc:=(by first|infer_instance|fail)) ?_|refine j_call4 (by(conv=>lhs;whnf);done) (by(conv=>lhs;whnf);done) (by(conv=>lhs;whnf);done) (by(conv=>lhs;whnf);done) (hN0:=(by first|infer_instance|fail)) (hN1:=(by first|infer_instance|fail)) (hN2:=(by first|infer_instance|fail)) (hN3:=(by first|infer_instance|fail)) (hc:=(by first|infer_instance|fail)) ?_|refine j_call5 (by(conv=>lhs;whnf);done) (by(conv=>lhs;whnf);done) (by(conv=>lhs;whnf);done) (by(conv=>lhs;whnf);done) (by(conv=>lhs;whnf);done) (hN0:=(by first|infer_instance|fail)) (hN1:=(by first|infer_instance|fail)) (hN2:=(by first|infer_instance|fail)) (hN3:=(by first|infer_instance|fail)) (hN4:=(by first|infer_instance|fail)) (hc:=(by first|infer_instance|fail)) ?_|refine j_call6 (by(conv=>lhs;whnf);done) (by(conv=>lhs;whnf);done) (by(conv=>lhs;whnf);done) (by(conv=>lhs;whnf);done) (by(conv=>lhs;whnf);done) (by(conv=>lhs;whnf);done) (hN0:=(by first|infer_instance|fail)) (hN1:=(by first|infer_instance|fail)) (hN2:=(by first|infer_instance|fail)) (hN3:=(by first|infer_instance|fail)) (hN4:=(by first|infer_instance|fail)) (hN5:=(by first|infer_instance|fail)) (hc:=(by first|infer_instance|fail)) ?_)
   |(refine g_bi ?_;first|refine s_min (by rfl) (by rfl) ?_|refine s_max (by rfl) (by rfl) ?_)
   |(refine g_bin ?_;first|refine s_lss (by rfl) (by rfl) ?_|refine s_leq (by rfl) (by rfl) ?_|refine s_geq (by rfl) (by rfl) ?_|refine s_add (by rfl) (by rfl) (by constructor<;>omega) ?_|refine s_sub (by rfl) (by rfl) (by constructor<;>omega) ?_|refine s_cat (by(conv=>lhs;whnf);done) (by(conv=>lhs;whnf);done) (jx:=(by first|infer_instance|fail)) (jy:=(by first|infer_instance|fail)) (by first|omega|(simp only[List.length_append,List.length_cons,List.length_nil,Nat.zero_add];omega)) ?_|refine s_mul (by rfl) (by rfl) (by constructor<;>omega) ?_|refine s_addW (by rfl) (by rfl) ?_|refine s_xorW (by rfl) (by rfl) ?_|refine s_andW (by rfl) (by rfl) ?_|refine s_orW (by rfl) (by rfl) ?_|refine s_shrW (by rfl) (by rfl) ?_|refine s_shlW (by rfl) (by rfl) ?_|refine s_shrU (by rfl) (by rfl) ?_|refine s_subU (by rfl) (by rfl) (by omega) (by omega) ?_|refine s_mulU (by rfl) (by rfl) (by omega) ?_|refine s_quoL (by rfl) (by rfl) (by decide) (by omega) ?_|refine s_remL (by rfl) (by rfl) (by decide) ?_)
   |(refine g_ix ?_;first|refine s_indexBL (by rfl) (by rfl) (by decide) ?_|refine s_indexB (by rfl) (by rfl) (by omega) ?_|refine s_indexBI (by rfl) (by rfl) (by omega) (by omega) ?_)
   |(refine g_un ?_;first|refine s_not (by rfl) ?_|refine s_neg (by rfl) (by constructor<;>omega) ?_|refine s_notW (by rfl) ?_)
   |(refine g_store ?_;first|refine s_storeX (by rfl) (by rfl) (hB:=(by first|infer_instance|fail)) (hu:=(by first|infer_instance|fail)) (hf:=(by first|infer_instance|fail)) (hlen:=(by first|infer_instance|fail)) (hcs:=(by first|infer_instance|fail)) ?_|refine s_storeW32 (by rfl) (by rfl) (by repeat(first|exact List.mem_cons_self|apply List.mem_cons_of_mem)) (by omega) (hu:=(by first|infer_instance|fail)) ?_|refine s_storeD (by rfl) (by rfl) (by repeat(first|exact List.mem_cons_self|apply List.mem_cons_of_mem)) (by omega) (hu:=(by first|infer_instance|fail)) ?_)
   |(refine g_bs ?_;first|refine s_bs0 ?_|refine s_bs1 (by(conv=>lhs;whnf);done) (hC0:=(by first|infer_instance|fail)) (hf:=(by first|infer_instance|fail)) (by decide) ?_)
   |(refine g_build ?_;first|refine s_build0 ?_|refine s_buildA0 ?_)
   |(refine g_slice ?_;first|refine s_cutL (by rfl) (by rfl) (by omega) ?_|refine s_cutH (by rfl) (by rfl) (by omega) ?_|refine s_cutS (by(conv=>lhs;whnf);done) (by rfl) (by rfl) (jx:=(by first|infer_instance|fail)) (by omega) (by omega) (by omega) ?_|refine s_cutSL (by(conv=>lhs;whnf);done) (by rfl) (jx:=(by first|infer_instance|fail)) (by omega) (by omega) ?_|refine s_sliceD (by rfl) ?_)
   |(refine g_conv ?_;first|refine s_convB (by rfl) ?_|refine s_convW (by rfl) ?_|refine s_convU (by rfl) (by omega) ?_|refine s_strB (by rfl) ?_|refine s_strBox (by rfl) (by repeat(first|exact List.mem_cons_self|apply List.mem_cons_of_mem)) (hs:=(by first|infer_instance|fail)) ?_)
   |(refine g_index ?_;first|refine s_indexSI (by(conv=>lhs;whnf);done) (by rfl) (jx:=(by first|infer_instance|fail)) (by omega) (by omega) ?_)
   |refine pwp_seq ?_
   |refine pwp_region (by kernel_rfl) ?_
   |refine pwp_block ?_
   |refine pwp_skip ?_
   |refine pwp_ret ?_
   |refine pwp_exit ?_
   |refine pwp_condT (by rfl) ?_
   |refine pwp_condF (by rfl) ?_)
  exact hB.out):A:=h ⟨k⟩
theorem walkWnp {A B:Prop} (k:B) (h:Wrap B→A:=by
  intro hB
  refine walkWn ?_
  exact hB.out):A:=h ⟨k⟩
end
end Go.Q
namespace Go.Proofs
open Go Go.Q
attribute [local irreducible] pwp pops PCalls OpN
def rotW (a n:Nat):Nat:=orW (shrW a n) (shlW a (32 - n))
instance rotate_ct (a n:Nat) [hs:Small (n≤32)]:FnC Tryz.prog 199 [.raw (.int .u32 (a:Int)),.raw (.int .u64 (n:Int))] (.raw (.int .u32 (rotW a n:Nat))):=⟨by
 refine fn_of Tryz.func199 Tryz.ntmps199 rfl (rs:= [.tmp 4]) rfl rfl fun hb LF=>?_
 have hn:=hs.out
 refine walkW ?_
 refine s_subU (a:=32) (by rfl) (by rfl) hn (by decide) ?_
 refine walkWp ?_
 refine end1 (.of_eq ?_)
 rfl⟩
instance rot2_ct (a:Nat):FnC Tryz.prog 199 [.raw (.int .u32 (a:Int)),.raw (.int .u64 2)] (.raw (.int .u32 (rotW a 2:Nat))):=by
 have:Small ((2:Nat)≤32):=⟨by decide⟩
 exact rotate_ct a 2
instance rot6_ct (a:Nat):FnC Tryz.prog 199 [.raw (.int .u32 (a:Int)),.raw (.int .u64 6)] (.raw (.int .u32 (rotW a 6:Nat))):=by
 have:Small ((6:Nat)≤32):=⟨by decide⟩
 exact rotate_ct a 6
instance rot7_ct (a:Nat):FnC Tryz.prog 199 [.raw (.int .u32 (a:Int)),.raw (.int .u64 7)] (.raw (.int .u32 (rotW a 7:Nat))):=by
 have:Small ((7:Nat)≤32):=⟨by decide⟩
 exact rotate_ct a 7
instance rot11_ct (a:Nat):FnC Tryz.prog 199 [.raw (.int .u32 (a:Int)),.raw (.int .u64 11)] (.raw (.int .u32 (rotW a 11:Nat))):=by
 have:Small ((11:Nat)≤32):=⟨by decide⟩
 exact rotate_ct a 11
instance rot13_ct (a:Nat):FnC Tryz.prog 199 [.raw (.int .u32 (a:Int)),.raw (.int .u64 13)] (.raw (.int .u32 (rotW a 13:Nat))):=by
 have:Small ((13:Nat)≤32):=⟨by decide⟩
 exact rotate_ct a 13
instance rot17_ct (a:Nat):FnC Tryz.prog 199 [.raw (.int .u32 (a:Int)),.raw (.int .u64 17)] (.raw (.int .u32 (rotW a 17:Nat))):=by
 have:Small ((17:Nat)≤32):=⟨by decide⟩
 exact rotate_ct a 17
instance rot18_ct (a:Nat):FnC Tryz.prog 199 [.raw (.int .u32 (a:Int)),.raw (.int .u64 18)] (.raw (.int .u32 (rotW a 18:Nat))):=by
 have:Small ((18:Nat)≤32):=⟨by decide⟩
 exact rotate_ct a 18
instance rot19_ct (a:Nat):FnC Tryz.prog 199 [.raw (.int .u32 (a:Int)),.raw (.int .u64 19)] (.raw (.int .u32 (rotW a 19:Nat))):=by
 have:Small ((19:Nat)≤32):=⟨by decide⟩
 exact rotate_ct a 19
instance rot22_ct (a:Nat):FnC Tryz.prog 199 [.raw (.int .u32 (a:Int)),.raw (.int .u64 22)] (.raw (.int .u32 (rotW a 22:Nat))):=by
 have:Small ((22:Nat)≤32):=⟨by decide⟩
 exact rotate_ct a 22
instance rot25_ct (a:Nat):FnC Tryz.prog 199 [.raw (.int .u32 (a:Int)),.raw (.int .u64 25)] (.raw (.int .u32 (rotW a 25:Nat))):=by
 have:Small ((25:Nat)≤32):=⟨by decide⟩
 exact rotate_ct a 25
theorem foldl_range_succ {α:Type} (f:α→Nat→α) (a:α) (k:Nat):(List.range (k+1)).foldl f a=f ((List.range k).foldl f a) k:=by
 rw[List.range_succ,List.foldl_append];rfl
instance zeros_ct (n:Int) [hs:Small (0≤n∧n≤1000)]:FnC Tryz.prog 196 [.raw (.int .i64 n)] (.str (List.replicate n.toNat 0)):=⟨by
 refine fn_of Tryz.func196 Tryz.ntmps196 rfl (rs:= [.tmp 2]) rfl rfl fun hb LF=>?_
 obtain⟨h0,h1⟩:=hs.out
 refine walk ?_
 refine pwp_loopS (σ:=Nat × Str) (fun k=>k.1≤n.toNat∧k.2=List.replicate k.1 0) (fun k=>n.toNat - k.1) (fun k=> [(0,.raw (.int .i64 n)),(3,.str k.2),(4,.raw (.int .i64 k.1))]) (fun _=>LF) (0,[]) ⟨by simp,by simp⟩ ⟨rfl,rfl,rfl⟩ (.refl _) ?_
 rintro⟨k,s⟩ ⟨hk,he⟩
 dsimp only at hk he
 have hl:s.length=k:=by rw[he];simp
 refine walk ?_
 refine pwp_condD (fun hc=>?_) (fun hc=>?_)
 ·refine walk ?_
  refine⟨(k+1,s++ [0]),⟨by dsimp only;omega,by dsimp only;rw[he,List.replicate_succ']⟩,by dsimp only;omega,⟨rfl,rfl,rfl⟩,.refl _⟩
 ·refine walk ?_
  refine end1 (.of_eq ?_)
  rw[he,show k=n.toNat by omega]⟩
def padTail (bits:Nat) (j:Nat):Str:=(List.range j).map fun i=>UInt8.ofNat (bits / 2 ^ (min (8*(7 - i)) 64))
def rPad (s:Str):Str:=(s++ [128])++List.replicate ((120 - (s.length+1) % 64) % 64) 0++padTail (s.length*8) 8
theorem rPad_len (s:Str):(rPad s).length=s.length+1+(120 - (s.length+1) % 64) % 64+8:=by simp[rPad,padTail];omega
set_option maxHeartbeats 1000000 in
instance padded_ct (s:Str) [hs:Small (s.length≤1000000)]:FnC Tryz.prog 157 [.str s] (.str (rPad s)):=⟨by
 refine fn_of Tryz.func157 Tryz.ntmps157 rfl (rs:= [.tmp 2]) rfl rfl fun hb LF=>?_
 have hl:=hs.out
 have e1:(((120:Int) - (((s++ [128]).length % 64:Nat):Int)).tmod 64)=(((120 - (s.length+1) % 64) % 64:Nat):Int):=by
  rw[List.length_append,List.length_singleton]
  have:(120:Int) - (((s.length+1) % 64:Nat):Int)=((120 - (s.length+1) % 64:Nat):Int):=by omega
  rw[this];exact(Int.ofNat_tmod _ _).symm
 have i1:Small (0≤(((120 - (s.length+1) % 64) % 64:Nat):Int)∧(((120 - (s.length+1) % 64) % 64:Nat):Int)≤1000):=⟨by omega,by omega⟩
 refine walk ?_
 refine s_remL (by rfl) (by rfl) (by decide) ?_
 refine walkp ?_
 refine s_int (v:= .int .i64 (((120 - (s.length+1) % 64) % 64:Nat):Int)) (by rfl) (by rfl) (fun w=>?_) ?_
 ·have h3:(64:Int)≠0:=by decide
  simp only[binOp,ne_eq,not_true_eq_false,if_false,Op.intDiv,h3,e1];rfl
 have hz:(List.replicate (((120 - (s.length+1) % 64) % 64:Nat):Int).toNat (0:UInt8)).length=(120 - (s.length+1) % 64) % 64:=by rw[List.length_replicate];omega
 refine walkp ?_
 refine s_mulU (b:=8) (by rfl) (by rfl) (by omega) ?_
 refine walkp ?_
 refine pwp_loopS (σ:=Nat × Str) (fun k=>k.1≤8∧k.2=(s++ [128])++List.replicate ((120 - (s.length+1) % 64) % 64) 0++padTail (s.length*8) k.1) (fun k=>8 - k.1) (fun k=> [(3,.str k.2),(4,.raw (.int .u64 ((s.length*8:Nat):Int))),(5,.raw (.int .i64 (7 - (k.1:Int))))]) (fun _=>LF) (0,(s++ [128])++List.replicate ((120 - (s.length+1) % 64) % 64) 0) ⟨by simp,by simp[padTail]⟩ ⟨rfl,rfl,rfl⟩ (.refl _) ?_
 rintro⟨k,o⟩ ⟨hk,he⟩
 dsimp only at hk he
 have hol:o.length≤1000100:=by rw[he];simp[padTail];omega
 refine walk ?_
 refine pwp_condD (fun hc=>?_) (fun hc=>?_)
 ·refine walk ?_
  have e8:(8:Int)*(7 - (k:Int))=((8*(7 - k):Nat):Int):=by omega
  refine s_convU (a:=8*(7 - k)) (by show PV.raw (.int .i64 ((8:Int)*(7 - (k:Int))))=_;rw[e8]) (by omega) ?_
  refine walkp ?_
  refine⟨(k+1,o++ [UInt8.ofNat (s.length*8 / 2 ^ (min (8*(7 - k)) 64))]),⟨by dsimp only;omega,?_⟩,by dsimp only;omega,⟨rfl,rfl,?_⟩,.refl _⟩
  ·dsimp only
   rw[he,padTail,padTail,List.range_succ,List.map_append,←List.append_assoc];rfl
  ·show PV.raw (Value.int .i64 _)=PV.raw (Value.int .i64 _)
   congr 2;dsimp only;omega
 ·refine walk ?_
  refine end1 (.of_eq ?_)
  rw[he,show k=8 by omega,rPad]⟩
end Go.Proofs
namespace Go.Proofs
open Go Go.Q
attribute [local irreducible] pwp pops PCalls OpN
def rK:List Nat:= [1116352408,1899447441,3049323471,3921009573,961987163,1508970993,2453635748,2870763221,3624381080,310598401,607225278,1426881987,1925078388,2162078206,2614888103,3248222580,3835390401,4022224774,264347078,604807628,770255983,1249150122,1555081692,1996064986,2554220882,2821834349,2952996808,3210313671,3336571891,3584528711,113926993,338241895,666307205,773529912,1294757372,1396182291,1695183700,1986661051,2177026350,2456956037,2730485921,2820302411,3259730800,3345764771,3516065817,3600352804,4094571909,275423344,430227734,506948616,659060556,883997877,958139571,1322822218,1537002063,1747873779,1955562222,2024104815,2227730452,2361852424,2428436474,2756734187,3204031479,3329325298]
instance constants_ct:FnC Tryz.prog 198 [] (.agg (eW rK)):=⟨by
 refine fn_of Tryz.func198 Tryz.ntmps198 rfl (rs:= [.cell 0 199]) rfl rfl fun hb LF=>?_
 refine walkWb fun b=>?_
 refine s_buildWe [.const (.int .u32 1116352408),.const (.int .u32 1899447441),.const (.int .u32 3049323471),.const (.int .u32 3921009573),.const (.int .u32 961987163),.const (.int .u32 1508970993),.const (.int .u32 2453635748),.const (.int .u32 2870763221),.const (.int .u32 3624381080),.const (.int .u32 310598401),.const (.int .u32 607225278),.const (.int .u32 1426881987),.const (.int .u32 1925078388),.const (.int .u32 2162078206),.const (.int .u32 2614888103),.const (.int .u32 3248222580),.const (.int .u32 3835390401),.const (.int .u32 4022224774),.const (.int .u32 264347078),.const (.int .u32 604807628),.const (.int .u32 770255983),.const (.int .u32 1249150122),.const (.int .u32 1555081692),.const (.int .u32 1996064986),.const (.int .u32 2554220882),.const (.int .u32 2821834349),.const (.int .u32 2952996808),.const (.int .u32 3210313671),.const (.int .u32 3336571891),.const (.int .u32 3584528711),.const (.int .u32 113926993),.const (.int .u32 338241895),.const (.int .u32 666307205),.const (.int .u32 773529912),.const (.int .u32 1294757372),.const (.int .u32 1396182291),.const (.int .u32 1695183700),.const (.int .u32 1986661051),.const (.int .u32 2177026350),.const (.int .u32 2456956037),.const (.int .u32 2730485921),.const (.int .u32 2820302411),.const (.int .u32 3259730800),.const (.int .u32 3345764771),.const (.int .u32 3516065817),.const (.int .u32 3600352804),.const (.int .u32 4094571909),.const (.int .u32 275423344),.const (.int .u32 430227734),.const (.int .u32 506948616),.const (.int .u32 659060556),.const (.int .u32 883997877),.const (.int .u32 958139571),.const (.int .u32 1322822218),.const (.int .u32 1537002063),.const (.int .u32 1747873779),.const (.int .u32 1955562222),.const (.int .u32 2024104815),.const (.int .u32 2227730452),.const (.int .u32 2361852424),.const (.int .u32 2428436474),.const (.int .u32 2756734187),.const (.int .u32 3204031479),.const (.int .u32 3329325298)] rK rfl rfl rfl rfl ?_
 have i1:LenIs (eW rK) 64:=⟨rfl⟩
 have i2:LenIs (eW (List.replicate 64 0)) 64:=⟨rfl⟩
 refine walkWp ?_
 exact endC rfl (.refl _) (hn:=(rfl:(eW rK).length=64))⟩
def rWord (b:Str) (t:Nat):Nat:=orW (orW (orW (shlW ((b.getD (4*(t:Int)).toNat 0).toNat % 4294967296) 24) (shlW ((b.getD (4*(t:Int)+1).toNat 0).toNat % 4294967296) 16)) (shlW ((b.getD (4*(t:Int)+2).toNat 0).toNat % 4294967296) 8)) ((b.getD (4*(t:Int)+3).toNat 0).toNat % 4294967296)
def rSched1 (b:Str) (w:List Nat) (t:Nat):List Nat:=w.set t (rWord b t)
def rSigma (w:List Nat) (t:Nat):Nat:=
 let x:=w.getD (t+1) 0
 let y:=w.getD (t+14) 0
 addW (addW (addW (xorW (xorW (rotW y 17) (rotW y 19)) (shrW y 10)) (w.getD (t+9) 0)) (xorW (xorW (rotW x 7) (rotW x 18)) (shrW x 3))) (w.getD t 0)
theorem rSigma_int (v:List Nat) (k:Nat):rSigma v k=addW (addW (addW (xorW (xorW (rotW (v.getD (((k+16:Nat):Int) - 2).toNat 0) 17) (rotW (v.getD (((k+16:Nat):Int) - 2).toNat 0) 19)) (shrW (v.getD (((k+16:Nat):Int) - 2).toNat 0) 10)) (v.getD (((k+16:Nat):Int) - 7).toNat 0)) (xorW (xorW (rotW (v.getD (((k+16:Nat):Int) - 15).toNat 0) 7) (rotW (v.getD (((k+16:Nat):Int) - 15).toNat 0) 18)) (shrW (v.getD (((k+16:Nat):Int) - 15).toNat 0) 3))) (v.getD (((k+16:Nat):Int) - 16).toNat 0):=by
 have e2:(((k+16:Nat):Int) - 2).toNat=k+14:=by omega
 have e7:(((k+16:Nat):Int) - 7).toNat=k+9:=by omega
 have e15:(((k+16:Nat):Int) - 15).toNat=k+1:=by omega
 have e16:(((k+16:Nat):Int) - 16).toNat=k:=by omega
 rw[e2,e7,e15,e16];rfl
def rSched2 (w:List Nat) (t:Nat):List Nat:=w.set (t+16) (rSigma w t)
def rSched (b:Str):List Nat:=(List.range 48).foldl rSched2 ((List.range 16).foldl (rSched1 b) (List.replicate 64 0))
theorem fold1_len (b:Str) (k:Nat):((List.range k).foldl (rSched1 b) (List.replicate 64 0)).length=64:=by
 induction k with
 |zero=>rfl
 |succ k ih=>rw[foldl_range_succ,rSched1,List.length_set,ih]
theorem fold2_len {w:List Nat} (h:w.length=64) (k:Nat):((List.range k).foldl rSched2 w).length=64:=by
 induction k with
 |zero=>exact h
 |succ k ih=>rw[foldl_range_succ,rSched2,List.length_set,ih]
theorem rSched_len (b:Str):(rSched b).length=64:=fold2_len (fold1_len b 16) 48
set_option maxHeartbeats 2000000 in
instance schedule_ct (s:Str) [hs:Small (s.length=64)]:FnC Tryz.prog 197 [.str s] (.agg (eW (rSched s))):=⟨by
 refine fn_of Tryz.func197 Tryz.ntmps197 rfl (rs:= [.cell 2 199]) rfl rfl fun hb LF=>?_
 have hl:=hs.out
 have i2:LenIs (eW (List.replicate 64 0)) 64:=⟨rfl⟩
 refine walkWb fun b=>?_
 refine walkWbp fun b2=>?_
 refine pwp_loopS (σ:=Nat × List Nat) (fun k=>k.1≤16∧k.2.length=64∧k.2=(List.range k.1).foldl (rSched1 s) (List.replicate 64 0)) (fun k=>16 - k.1) (fun k=> [(0,.str s),(2,.raw (.pointer (some ⟨b,0,none⟩))),(3,.raw (.pointer (some ⟨b2,0,none⟩))),(4,.raw (.int .i64 k.1))]) (fun k=> .box b2 199 (eW k.2):: .box b 199 (eW (List.replicate 64 0))::LF) (0,List.replicate 64 0) ⟨by simp,by simp,by simp⟩ ⟨rfl,rfl,rfl,rfl⟩ (.refl _) ?_
 rintro⟨k,w⟩ ⟨hk,hw,he⟩
 dsimp only at hk hw he ⊢
 refine walkW ?_
 refine pwp_condD (fun hc=>?_) (fun hc=>?_)
 ·refine walkWn ?_
  refine pwp_drawN 31 ?_ ?_
  ·decide+kernel
  refine walkWp ?_
  refine⟨(k+1,w.set k (rWord s k)),⟨by dsimp only;omega,by dsimp only;rw[List.length_set,hw],by dsimp only;rw[foldl_range_succ,←he];rfl⟩,by dsimp only;omega,⟨rfl,rfl,rfl,rfl⟩,.refl _⟩
 have hkk:k=16:=by omega
 subst hkk
 refine walkW ?_
 refine pwp_loopS (σ:=Nat × List Nat) (fun k=>k.1≤48∧k.2.length=64∧k.2=(List.range k.1).foldl rSched2 w) (fun k=>48 - k.1) (fun k=> [(2,.raw (.pointer (some ⟨b,0,none⟩))),(3,.raw (.pointer (some ⟨b2,0,none⟩))),(5,.raw (.int .i64 ((k.1+16:Nat):Int)))]) (fun k=> .box b2 199 (eW k.2):: .box b 199 (eW (List.replicate 64 0))::LF) (0,w) ⟨by simp,hw,by simp⟩ ⟨rfl,rfl,rfl⟩ (.refl _) ?_
 rintro⟨k,v⟩ ⟨hk,hv,hve⟩
 dsimp only at hk hv hve ⊢
 have i3:LenIs (eW v) 64:=⟨by rw[len_eW,hv]⟩
 refine walkW ?_
 refine pwp_condD (fun hc=>?_) (fun hc=>?_)
 ·refine walkWn ?_
  refine pwp_drawQ (by decide+kernel) ?_
  refine walkWnp ?_
  refine pwp_drawN 29 ?_ ?_
  ·decide+kernel
  refine walkWp ?_
  refine⟨(k+1,v.set (k+16) (rSigma v k)),⟨by dsimp only;omega,by dsimp only;rw[List.length_set,hv],by dsimp only;rw[foldl_range_succ,←hve];rfl⟩,by dsimp only;omega,⟨rfl,rfl,?_⟩,?_⟩
  ·show PV.raw (Value.int .i64 _)=PV.raw (Value.int .i64 _)
   congr 2
  ·dsimp only;rw[rSigma_int];exact .refl _
 ·refine walkW ?_
  refine endC rfl (.of_eq ?_) (hn:=(by rw[len_eW,hv]:(eW v).length=64))
  have hkk:k=48:=by omega
  subst hkk
  rw[rSched,hve,he]⟩
end Go.Proofs
namespace Go.Proofs
open Go Go.Q
attribute [local irreducible] pwp pops PCalls OpN
def rT1 (w v:List Nat) (t:Nat):Nat:=addW (addW (addW (addW (v.getD 7 0) (xorW (xorW (rotW (v.getD 4 0) 6) (rotW (v.getD 4 0) 11)) (rotW (v.getD 4 0) 25))) (xorW (andW (v.getD 4 0) (v.getD 5 0)) (andW (notW (v.getD 4 0)) (v.getD 6 0)))) (rK.getD t 0)) (w.getD t 0)
def rT2 (v:List Nat):Nat:=addW (xorW (xorW (rotW (v.getD 0 0) 2) (rotW (v.getD 0 0) 13)) (rotW (v.getD 0 0) 22)) (xorW (xorW (andW (v.getD 0 0) (v.getD 1 0)) (andW (v.getD 0 0) (v.getD 2 0))) (andW (v.getD 1 0) (v.getD 2 0)))
def rRound (w v:List Nat) (t:Nat):List Nat:= [addW (rT1 w v t) (rT2 v),v.getD 0 0,v.getD 1 0,v.getD 2 0,addW (v.getD 3 0) (rT1 w v t),v.getD 4 0,v.getD 5 0,v.getD 6 0]
def rRounds (h:List Nat) (b:Str):List Nat:=(List.range 64).foldl (rRound (rSched b)) h
def rAdd8 (v x:List Nat) (i:Nat):List Nat:=x.set i (addW (x.getD i 0) (v.getD i 0))
def rStep (h:List Nat) (b:Str):List Nat:=(List.range 8).foldl (rAdd8 (rRounds h b)) h
theorem fold8_len {v h:List Nat} (hh:h.length=8) (k:Nat):((List.range k).foldl (rAdd8 v) h).length=8:=by
 induction k with
 |zero=>exact hh
 |succ k ih=>rw[foldl_range_succ,rAdd8,List.length_set,ih]
theorem rStep_len {h:List Nat} {b:Str} (hh:h.length=8):(rStep h b).length=8:=fold8_len hh 8
theorem hx8 {ρ:Env} {x0 x1 x2 x3 x4 x5 x6 x7:Operand} {a0 a1 a2 a3 a4 a5 a6 a7:Nat} (h0:ρ.ev x0= .raw (.int .u32 (a0:Int))) (h1:ρ.ev x1= .raw (.int .u32 (a1:Int))) (h2:ρ.ev x2= .raw (.int .u32 (a2:Int))) (h3:ρ.ev x3= .raw (.int .u32 (a3:Int))) (h4:ρ.ev x4= .raw (.int .u32 (a4:Int))) (h5:ρ.ev x5= .raw (.int .u32 (a5:Int))) (h6:ρ.ev x6= .raw (.int .u32 (a6:Int))) (h7:ρ.ev x7= .raw (.int .u32 (a7:Int))):
  [x0,x1,x2,x3,x4,x5,x6,x7].map ρ.ev=eW [a0,a1,a2,a3,a4,a5,a6,a7]:=by simp[eW,h0,h1,h2,h3,h4,h5,h6,h7]
set_option maxHeartbeats 600000 in
instance step_ct (h:List Nat) (s:Str) [hs:Small (s.length=64)] [hh:Small (h.length=8)]:FnC Tryz.prog 158 [.agg (eW h),.str s] (.agg (eW (rStep h s))):=⟨by
 refine fn_of Tryz.func158 Tryz.ntmps158 rfl (rs:= [.cell 4 171]) rfl rfl fun hb LF=>?_
 have hl:=hh.out
 have hsl:=rSched_len s
 have j1:LenIs (eW (List.replicate 64 0)) 64:=⟨rfl⟩
 have j2:LenIs (eW (List.replicate 8 0)) 8:=⟨rfl⟩
 have j3:LenIs (eW h) 8:=⟨by rw[len_eW,hl]⟩
 have j4:LenIs (eW rK) 64:=⟨rfl⟩
 have j5:LenIs (eW (rSched s)) 64:=⟨by rw[len_eW,hsl]⟩
 have hkl:rK.length=64:=rfl
 refine walkWb fun b2=>?_
 refine walkWbp fun b4=>?_
 refine walkWbp fun b5=>?_
 refine walkWbp fun b6=>?_
 refine walkWbp fun b7=>?_
 refine pwp_loopS (σ:=Nat × List Nat) (fun k=>k.1≤64∧k.2.length=8∧k.2=(List.range k.1).foldl (rRound (rSched s)) h) (fun k=>64 - k.1) (fun k=> [(2,.raw (.pointer (some ⟨b2,0,none⟩))),(4,.raw (.pointer (some ⟨b4,0,none⟩))),(5,.raw (.pointer (some ⟨b5,0,none⟩))),(6,.raw (.pointer (some ⟨b6,0,none⟩))),(7,.raw (.pointer (some ⟨b7,0,none⟩))),(8,.raw (.int .i64 k.1))]) (fun k=> .box b7 171 (eW k.2):: .box b6 199 (eW rK):: .box b5 199 (eW (rSched s)):: .box b4 171 (eW (List.replicate 8 0)):: .box b2 171 (eW h)::LF) (0,h) ⟨by simp,hl,by simp⟩ ⟨rfl,rfl,rfl,rfl,rfl,rfl⟩ (.refl _) ?_
 rintro⟨k,v⟩ ⟨hk,hv,hve⟩
 dsimp only at hk hv hve ⊢
 have j6:LenIs (eW v) 8:=⟨by rw[len_eW,hv]⟩
 have j7:LenIs (eW (rRound (rSched s) v k)) 8:=⟨rfl⟩
 refine walkW ?_
 refine pwp_condD (fun hc=>?_) (fun hc=>?_)
 ·refine walkWn ?_
  refine pwp_drawQ (by decide+kernel) ?_
  refine walkWnp ?_
  refine pwp_drawQ (by decide+kernel) ?_
  refine pops_cutE [(2,.raw (.pointer (some ⟨b2,0,none⟩))),(4,.raw (.pointer (some ⟨b4,0,none⟩))),(5,.raw (.pointer (some ⟨b5,0,none⟩))),(6,.raw (.pointer (some ⟨b6,0,none⟩))),(7,.raw (.pointer (some ⟨b7,0,none⟩))),(8,.raw (.int .i64 k)),(9,.raw (.int .u32 ((v.getD 0 0:Nat):Int))),(11,.raw (.int .u32 ((rT1 (rSched s) v k:Nat):Int)))] (.box b7 171 (eW v):: .box b6 199 (eW rK):: .box b5 199 (eW (rSched s)):: .box b4 171 (eW (List.replicate 8 0)):: .box b2 171 (eW h)::LF) ?_ ?_
  ·refine walkWp ?_
   exact⟨⟨rfl,rfl,rfl,rfl,rfl,rfl,rfl,rfl⟩,.refl _⟩
  refine walkWn ?_
  refine pwp_drawQ (by decide+kernel) ?_
  refine pops_cutE [(2,.raw (.pointer (some ⟨b2,0,none⟩))),(4,.raw (.pointer (some ⟨b4,0,none⟩))),(5,.raw (.pointer (some ⟨b5,0,none⟩))),(6,.raw (.pointer (some ⟨b6,0,none⟩))),(7,.raw (.pointer (some ⟨b7,0,none⟩))),(8,.raw (.int .i64 k)),(11,.raw (.int .u32 ((rT1 (rSched s) v k:Nat):Int))),(12,.raw (.int .u32 ((rT2 v:Nat):Int)))] (.box b7 171 (eW v):: .box b6 199 (eW rK):: .box b5 199 (eW (rSched s)):: .box b4 171 (eW (List.replicate 8 0)):: .box b2 171 (eW h)::LF) ?_ ?_
  ·refine walkWp ?_
   exact⟨⟨rfl,rfl,rfl,rfl,rfl,rfl,rfl,rfl⟩,.refl _⟩
  refine walkW ?_
  refine s_buildWe [.tmp 82,.tmp 84,.tmp 86,.tmp 88,.tmp 92,.tmp 94,.tmp 96,.tmp 98] (rRound (rSched s) v k) rfl (hx8 (by rfl) (by rfl) (by rfl) (by rfl) (by rfl) (by rfl) (by rfl) (by rfl)) (by simp[rRound]) (by simp[rRound]) ?_
  refine walkWp ?_
  refine⟨(k+1,rRound (rSched s) v k),⟨by dsimp only;omega,rfl,by dsimp only;rw[foldl_range_succ,←hve]⟩,by dsimp only;omega,⟨rfl,rfl,rfl,rfl,rfl,rfl⟩,.refl _⟩
 have hkk:k=64:=by omega
 subst hkk
 replace hve:v=rRounds h s:=hve
 subst hve
 refine walkW ?_
 refine pwp_loopS (σ:=Nat × List Nat) (fun k=>k.1≤8∧k.2.length=8∧k.2=(List.range k.1).foldl (rAdd8 (rRounds h s)) h) (fun k=>8 - k.1) (fun k=> [(2,.raw (.pointer (some ⟨b2,0,none⟩))),(4,.raw (.pointer (some ⟨b4,0,none⟩))),(7,.raw (.pointer (some ⟨b7,0,none⟩))),(13,.raw (.int .i64 k.1))]) (fun k=> .box b7 171 (eW (rRounds h s)):: .box b4 171 (eW (List.replicate 8 0)):: .box b2 171 (eW k.2)::LF) (0,h) ⟨by simp,hl,by simp⟩ ⟨rfl,rfl,rfl,rfl⟩ (.cons_cons _ (.cons _ (.cons _ (.refl _)))) ?_
 rintro⟨k,x⟩ ⟨hk,hx,hxe⟩
 dsimp only at hk hx hxe ⊢
 have j8:LenIs (eW x) 8:=⟨by rw[len_eW,hx]⟩
 refine walkW ?_
 refine pwp_condD (fun hc=>?_) (fun hc=>?_)
 ·refine walkWn ?_
  refine pwp_drawN 9 ?_ ?_
  ·decide+kernel
  refine walkWp ?_
  refine⟨(k+1,x.set k (addW (x.getD k 0) ((rRounds h s).getD k 0))),⟨by dsimp only;omega,by dsimp only;rw[List.length_set,hx],by dsimp only;rw[foldl_range_succ,←hxe];rfl⟩,by dsimp only;omega,⟨rfl,rfl,rfl,rfl⟩,.refl _⟩
 ·refine walkW ?_
  refine endC rfl (.of_eq ?_) (hn:=(by rw[len_eW,hx]:(eW x).length=8))
  have hkk:k=8:=by omega
  subst hkk
  rw[rStep,hxe]⟩
end Go.Proofs
namespace Go.Proofs
open Go Go.Q
attribute [local irreducible] pwp pops PCalls OpN
def rH:List Nat:= [1779033703,3144134277,1013904242,2773480762,1359893119,2600822924,528734635,1541459225]
def rBlocks (m:Str) (n:Nat):List Nat:=(List.range n).foldl (fun h k=>rStep h ((m.drop (64*k)).take 64)) rH
theorem rBlocks_len (m:Str) (n:Nat):(rBlocks m n).length=8:=by
 unfold rBlocks
 induction n with
 |zero=>rfl
 |succ n ih=>rw[foldl_range_succ];exact rStep_len ih
def rByte (h:List Nat) (d:Dig) (i:Nat):Dig:=d.put i (UInt8.ofNat (shrW (h.getD (i / 4) 0) (24 - 8*(i % 4))))
def rSum (s:Str):Dig:=(List.range 32).foldl (rByte (rBlocks (rPad s) ((rPad s).length / 64))) Dig.zero
set_option maxHeartbeats 2000000 in
instance Sum_ct (s:Str) [hs:Small (s.length≤1000000)]:FnC Tryz.prog 121 [.str s] (.agg (eDig (rSum s))):=⟨by
 refine fn_of Tryz.func121 Tryz.ntmps121 rfl (rs:= [.cell 2 37]) rfl rfl fun hb LF=>?_
 have hl:=hs.out
 have hpl:=rPad_len s
 have j2:LenIs (eW (List.replicate 8 0)) 8:=⟨rfl⟩
 have j3:LenIs (eW rH) 8:=⟨rfl⟩
 refine walkWb fun b2=>?_
 refine s_buildWe [.const (.int .u32 1779033703),.const (.int .u32 3144134277),.const (.int .u32 1013904242),.const (.int .u32 2773480762),.const (.int .u32 1359893119),.const (.int .u32 2600822924),.const (.int .u32 528734635),.const (.int .u32 1541459225)] rH rfl rfl (by simp[rH]) rfl ?_
 refine walkWbp fun b3=>?_
 unfold rSum
 generalize rPad s=m at hpl ⊢
 refine pwp_loopS (σ:=Nat) (fun k=>64*k≤m.length) (fun k=>m.length+64 - 64*k) (fun k=> [(2,.raw (.pointer (some ⟨b2,0,none⟩))),(3,.raw (.pointer (some ⟨b3,0,none⟩))),(4,.str m),(5,.raw (.int .i64 ((64*k:Nat):Int)))]) (fun k=> .box b3 171 (eW (rBlocks m k)):: .box b2 37 (eDig Dig.zero)::LF) 0 (by simp) ⟨rfl,rfl,rfl,rfl⟩ (.refl _) ?_
 intro k hk
 have hbl:=rBlocks_len m k
 have j4:LenIs (eW (rBlocks m k)) 8:=⟨by rw[len_eW,hbl]⟩
 have j5:LenIs (eW (rStep (rBlocks m k) ((m.drop (64*k)).take (64*k+64 - 64*k)))) 8:=⟨by rw[len_eW,rStep_len hbl]⟩
 refine walkW ?_
 refine pwp_condD (fun hc=>?_) (fun hc=>?_)
 ·have hc':64*k+64≤m.length:=by omega
  have j6:Small (((m.drop (64*k)).take (64*k+64 - 64*k)).length=64):=⟨by rw[List.length_take,List.length_drop];omega⟩
  have j7:Small ((rBlocks m k).length=8):=⟨hbl⟩
  refine walkWn ?_
  refine pwp_drawN 7 ?_ ?_
  ·decide+kernel
  refine walkWp ?_
  refine⟨k+1,by omega,by dsimp only;omega,⟨rfl,rfl,rfl,?_⟩,?_⟩
  ·show PV.raw (Value.int .i64 _)=PV.raw (Value.int .i64 _)
   congr 2
  ·dsimp only
   have e:rBlocks m (k+1)=rStep (rBlocks m k) ((m.drop (64*k)).take (64*k+64 - 64*k)):=by
    rw[show 64*k+64 - 64*k=64 by omega];unfold rBlocks;rw[foldl_range_succ]
   rw[e];exact .refl _
 have hkk:k=m.length / 64:=by omega
 subst hkk
 refine walkWb fun b6=>?_
 generalize rBlocks m (m.length / 64)=h at hbl ⊢
 refine pwp_loopS (σ:=Nat × Dig) (fun k=>k.1≤32∧k.2=(List.range k.1).foldl (rByte h) Dig.zero) (fun k=>32 - k.1) (fun k=> [(2,.raw (.pointer (some ⟨b2,0,none⟩))),(3,.raw (.pointer (some ⟨b3,0,none⟩))),(6,.raw (.pointer (some ⟨b6,0,none⟩))),(7,.raw (.int .i64 k.1))]) (fun k=> .box b6 37 (eDig k.2):: .box b3 171 (eW h):: .box b2 37 (eDig Dig.zero)::LF) (0,Dig.zero) ⟨by simp,by simp⟩ ⟨rfl,rfl,rfl,rfl⟩ (.refl _) ?_
 rintro⟨k,d⟩ ⟨hk,hd⟩
 dsimp only at hk hd ⊢
 refine walkW ?_
 refine pwp_condD (fun hc=>?_) (fun hc=>?_)
 ·refine walkW ?_
  have e8:(24:Int) - 8*((k % 4:Nat):Int)=((24 - 8*(k % 4):Nat):Int):=by omega
  refine s_convU (a:=24 - 8*(k % 4)) (by show PV.raw (.int .i64 ((24:Int) - 8*((k % 4:Nat):Int)))=_;rw[e8]) (by omega) ?_
  refine walkWp ?_
  refine⟨(k+1,rByte h d k),⟨by dsimp only;omega,by dsimp only;rw[foldl_range_succ,←hd]⟩,by dsimp only;omega,⟨rfl,rfl,rfl,rfl⟩,.refl _⟩
 ·refine walkW ?_
  refine endC rfl (.of_eq ?_)
  have hkk:k=32:=by omega
  subst hkk
  rw[hd]⟩
end Go.Proofs
namespace Go.Proofs
open Go Go.Q
attribute [local irreducible] pwp pops PCalls OpN
def sumLen (l:List Str):Nat:=(l.map List.length).sum
def rG4 (l:List Str):Bool:=decide (40 < (l.length:Int))||decide (3000 < (sumLen l:Int))
theorem sumLen_take {l:List Str} {k:Nat} (h:k < l.length):sumLen (l.take (k+1))=sumLen (l.take k)+l[k].length:=by
 unfold sumLen;rw[List.take_succ_eq_append_getElem h,List.map_append,List.sum_append];simp
theorem sumLen_le {l:List Str} {B:Nat} (h: ∀ s∈l,s.length≤B):sumLen l≤l.length*B:=by
 unfold sumLen
 induction l with
 |nil=>simp
 |cons x l ih=>
  have h1:=h x (by simp)
  have h2:=ih fun s hs=>h s (by simp[hs])
  simp only[List.map_cons,List.sum_cons,List.length_cons,Nat.add_mul];omega
instance Great4_ct (l:List Str) (t:Tag):FnC Tryz.prog 94 [.slice (l.map eS) t] (.raw (.bool (rG4 l))):=⟨by
 refine fn_of Tryz.func94 Tryz.ntmps94 rfl (rs:= [.tmp 2]) rfl rfl fun hb LF=>?_
 have hbs:=hb (.slice (l.map eS) t) (by simp)
 have hlen:l.length≤140737488355328:=hbs.slice_map
 have hel: ∀ s∈l,s.length≤140737488355328:=fun s hs=>(hbs.slice_at hs (c:= .str s) (by simp[eS])).str_len
 refine walk ?_
 refine pwp_loopS (σ:=Nat × Int) (fun k=>k.1≤l.length∧(l.length≤40→k.2=(sumLen (l.take k.1):Int))) (fun k=>l.length - k.1) (fun k=> [(0,.slice (l.map eS) t),(3,.raw (.int .i64 k.2)),(4,.raw (.int .i64 k.1))]) (fun _=>LF) (0,0) ⟨by simp,fun _=>by simp[sumLen]⟩ ⟨rfl,rfl,rfl⟩ (.refl _) ?_
 rintro⟨k,n⟩ ⟨hk,hn⟩
 dsimp only at hk hn ⊢
 obtain⟨v,hv⟩: ∃ v,v=Value.int .i64 n:=⟨_,rfl⟩
 rw[←hv]
 refine walk ?_
 refine pwp_condD (fun hc=>?_) (fun hc=>?_)
 ·have hlt:k < l.length:=by omega
  refine walk ?_
  refine s_addG (by rfl) (by rfl) hv fun v1 hv1=>?_
  refine walkp ?_
  subst hv1
  refine⟨(k+1,IntKind.i64.wrap (n+(l[k].length:Int))),⟨by dsimp only;omega,fun h40=>?_⟩,by dsimp only;omega,⟨rfl,rfl,rfl⟩,.refl _⟩
  have h1:=hn h40
  have h2:=sumLen_take hlt
  have h3:=hel _ (List.getElem_mem hlt)
  have h4:=sumLen_le (l:=l.take k) (B:=140737488355328) fun s hs=>hel s (List.mem_of_mem_take hs)
  have h5:(l.take k).length≤40:=by rw[List.length_take];omega
  have h6:(l.take k).length*140737488355328≤40*140737488355328:=Nat.mul_le_mul_right _ h5
  dsimp only
  rw[IntWalk.i64_in _ (by omega),h1,h2];omega
 ·subst hv
  refine walk ?_
  rw[List.take_of_length_le (by omega)]at hn
  refine pops_if (fun hp=>?_) (fun hp=>?_)
  ·refine walkp ?_
   refine end1 (.of_eq ?_)
   rw[rG4,hp,Bool.true_or]
  ·refine walkp ?_
   refine end1 (.of_eq ?_)
   have:=of_decide_eq_false hp
   rw[rG4,hp,Bool.false_or,hn (by omega)]⟩
def rTotC (c:Chg):Nat:=c.name.length+c.data.length
def rTot (p:Pat):Nat:=p.author.length+p.message.length+(p.changes.map rTotC).sum
def rGC (c:Chg):Bool:=rG4 c.lines||decide (40 < (c.over.length:Int))
def rGreat (p:Pat):Bool:=p.changes.any rGC||decide (3000 < (rTot p:Int))||decide (20 < (p.deps.length:Int))||decide (20 < (p.changes.length:Int))
theorem sum_map_le {α:Type} {l:List α} {f:α→Nat} {B:Nat} (h: ∀ s∈l,f s≤B):(l.map f).sum≤l.length*B:=by
 induction l with
 |nil=>simp
 |cons x l ih=>
  have h1:=h x (by simp)
  have h2:=ih fun s hs=>h s (by simp[hs])
  simp only[List.map_cons,List.sum_cons,List.length_cons,Nat.add_mul];omega
theorem sum_map_take {α:Type} {l:List α} {f:α→Nat} {k:Nat} (h:k < l.length):((l.take (k+1)).map f).sum=((l.take k).map f).sum+f l[k]:=by
 rw[List.take_succ_eq_append_getElem h,List.map_append,List.sum_append];simp
set_option maxHeartbeats 1000000 in
instance Great16_ct (p:Pat):FnC Tryz.prog 49 [.agg (ePat p)] (.raw (.bool (rGreat p))):=⟨by
 refine fn_of Tryz.func49 Tryz.ntmps49 rfl (rs:= [.tmp 2]) rfl rfl fun hb LF=>?_
 have hbp:=hb (.agg (ePat p)) (by simp)
 have ha:p.author.length≤140737488355328:=(hbp.agg_at (c:= .str p.author) (by simp[ePat])).str_len
 have hm:p.message.length≤140737488355328:=(hbp.agg_at (c:= .str p.message) (by simp[ePat])).str_len
 have hbc:=hbp.agg_at (c:= .slice (p.changes.map eChg) .ro) (by simp[ePat])
 have hlen:p.changes.length≤140737488355328:=hbc.slice_map
 have hcn: ∀ c∈p.changes,c.name.length≤140737488355328:=fun c hc=>(hbc.slice_at hc (c:= .str c.name) (by simp[eChg])).str_len
 have hcd: ∀ c∈p.changes,c.data.length≤140737488355328:=fun c hc=>(hbc.slice_at hc (c:= .str c.data) (by simp[eChg])).str_len
 refine walkb fun b=>?_
 refine pwp_loopS (σ:=Nat × Int) (fun k=>k.1≤p.changes.length∧(∀ i (h:i < p.changes.length),i < k.1→rGC p.changes[i]=false)∧(p.changes.length≤20→k.2=((p.author.length+p.message.length+((p.changes.take k.1).map rTotC).sum:Nat):Int))) (fun k=>p.changes.length - k.1) (fun k=> [(1,.raw (.pointer (some ⟨b,0,none⟩))),(3,.raw (.int .i64 k.2)),(4,.raw (.int .i64 k.1))]) (fun _=> .box b 57 (ePat p)::LF) (0,(p.author.length:Int)+(p.message.length:Int)) ⟨by simp,by simp,fun _=>by simp⟩ ⟨rfl,rfl,rfl⟩ (.refl _) ?_
 rintro⟨k,n⟩ ⟨hk,hg,hn⟩
 dsimp only at hk hg hn ⊢
 obtain⟨v,hv⟩: ∃ v,v=Value.int .i64 n:=⟨_,rfl⟩
 rw[←hv]
 refine walk ?_
 refine pwp_condD (fun hc=>?_) (fun hc=>?_)
 ·have hlt:k < p.changes.length:=by omega
  refine walkb fun b2=>?_
  refine pops_cutE [(33,.raw (.bool (rGC p.changes[k]))),(1,.raw (.pointer (some ⟨b,0,none⟩))),(3,.raw v),(4,.raw (.int .i64 k)),(5,.raw (.pointer (some ⟨b2,0,none⟩)))] (.box b2 119 (eChg p.changes[k]):: .box b 57 (ePat p)::LF) ?_ ?_
  ·repeat' (first|(refine pwp_condD (fun h=>?_) (fun h=>?_)<;>refine walk ?_)|(refine pwp_condN (fun h=>?_) (fun h=>?_)<;>refine walk ?_)|(refine pwp_condB (fun h=>?_) (fun h=>?_)<;>refine walk ?_)|(refine pops_if (fun h=>?_) (fun h=>?_)<;>(have h2:=h;(try simp only[decide_eq_true_eq,decide_eq_false_iff_not,Bool.not_eq_true',Bool.not_eq_false']at h2);refine walkp ?_)))
   all_goals (refine⟨⟨holdsB (by rfl) ?_,rfl,rfl,rfl,rfl⟩,.refl _⟩;simp_all[rGC])
  refine walk ?_
  refine pwp_condB (fun h=>?_) (fun h=>?_)
  ·refine walk ?_
   refine end1 (.of_eq ?_)
   have:p.changes.any rGC=true:=by rw[List.any_eq_true];exact⟨_,List.getElem_mem hlt,h⟩
   rw[rGreat,this];rfl
  refine walk ?_
  refine s_addG (by rfl) (by rfl) hv fun v1 hv1=>?_
  refine walkp ?_
  refine s_addG (by rfl) (by rfl) hv1 fun v2 hv2=>?_
  refine walkp ?_
  subst hv2
  refine⟨(k+1,IntKind.i64.wrap (IntKind.i64.wrap (n+(p.changes[k].name.length:Int))+(p.changes[k].data.length:Int))),⟨by dsimp only;omega,fun i hi hik=>?_,fun h20=>?_⟩,by dsimp only;omega,⟨rfl,rfl,rfl⟩,.cons _ (.refl _)⟩
  ·rcases Nat.lt_or_ge i k with h'|h'
   ·exact hg i hi h'
   ·have:i=k:=by dsimp only at hik;omega
    subst this;exact h
  ·have h1:=hn h20
   have h2:=sum_map_take (f:=rTotC) hlt
   have h3:=hcn _ (List.getElem_mem hlt)
   have h3':=hcd _ (List.getElem_mem hlt)
   have h4:=sum_map_le (l:=p.changes.take k) (f:=rTotC) (B:=281474976710656) fun c hc=>by
    have q1:=hcn c (List.mem_of_mem_take hc)
    have q2:=hcd c (List.mem_of_mem_take hc)
    unfold rTotC;omega
   have h5:(p.changes.take k).length≤20:=by rw[List.length_take];omega
   have h6:(p.changes.take k).length*281474976710656≤20*281474976710656:=Nat.mul_le_mul_right _ h5
   dsimp only
   have h7:rTotC p.changes[k]=p.changes[k].name.length+p.changes[k].data.length:=rfl
   rw[IntWalk.i64_in (n+_) (by omega),IntWalk.i64_in _ (by omega),h1,h2];omega
 ·subst hv
  refine walk ?_
  rw[List.take_of_length_le (by omega)]at hn
  have hany:p.changes.any rGC=false:=by
   rw[List.any_eq_false];intro c hc'
   obtain⟨i,hi,rfl⟩:=List.mem_iff_getElem.1 hc'
   simp[hg i hi (by omega)]
  have key:rGreat p=(decide (3000 < n)||decide (20 < (p.deps.length:Int))||decide (20 < (p.changes.length:Int))):=by
   rw[rGreat,hany,Bool.false_or]
   by_cases h20:p.changes.length≤20
   ·rw[hn h20];rfl
   ·have:decide (20 < (p.changes.length:Int))=true:=decide_eq_true (by omega)
    rw[this,Bool.or_true,Bool.or_true]
  rw[key]
  clear key hany hn hg
  repeat' (first|(refine pwp_condD (fun h=>?_) (fun h=>?_)<;>refine walk ?_)|(refine pwp_condN (fun h=>?_) (fun h=>?_)<;>refine walk ?_)|(refine pwp_condB (fun h=>?_) (fun h=>?_)<;>refine walk ?_)|(refine pops_if (fun h=>?_) (fun h=>?_)<;>(have h2:=h;(try simp only[decide_eq_true_eq,decide_eq_false_iff_not,Bool.not_eq_true',Bool.not_eq_false']at h2);refine walkp ?_)))
  all_goals (refine end1 (.of_eq ?_);first|(simp_all;done)|grind)⟩
end Go.Proofs
