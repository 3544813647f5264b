/- Contracts of the program: trees of strings: checked, encoded. -/
import Derived.Test.YtaibdmankdppkaaGreatDoorZaj
import Derived.Test.YtaibdmankdppkaaGreatDoorZae
set_option linter.unusedSimpArgs false
set_option linter.unusedVariables false
set_option maxHeartbeats 8000000
namespace Go.Proofs
open Go Go.Q
attribute [local irreducible] ER AU BA Fk
theorem ec: ∀ (d:Nat) (x:Sx),PE d x→ ∀ (b:Nat) (l:List UInt8) (L:List Res),sg b l L→l.length+(Dq d x).length≤1000000000→BA Tryz.prog 250 [.raw (HZ b),.agg (eSx x)] L (fun _ L'=>sg b (l++Dq d x) L')
 |0,x,hw,_,_,_,_,_=>hw.elim
 |d+1,x,hw,b,l,L,hL,hl=>by
  have ih:=ec d
  refine C4 Tryz.func250 rfl Tryz.ntmps250 (rs:= []) rfl rfl fun hb LF=>?_
  have hlen:x.list.length≤140737488355328:=by
   have:=(hb (.agg (eSx x)) (by simp)).agg_at (c:= .slice (x.list.map eSx) .ro) (by rw[Fw];simp)
   exact this.slice_map
  refine wf ?_
  refine AW (fun h2=>?_) (fun h2=>?_)
  ·have hB:x.isList=false:=by simpa using h2
   rcases hw with ⟨_,h3,h4⟩|⟨h3,_⟩
   ·have:B0 (-140737488355328≤(x.atom.length:Int)∧(x.atom.length:Int)≤140737488355328):=⟨by omega,by omega⟩
    have e:JH (x.atom.length:Int)=IH x.atom.length:=by
     rw[JH,if_neg (by omega)];rfl
    have he:Dq (d+1) x=IH x.atom.length++58::x.atom:=by simp[Dq,hB]
    rw[he]at hl ⊢
    simp only[AA,AL]at hl
    refine wf ?_
    refine CQ (xs:= [.tmp 9,.tmp 13]) L LF (f:=290) (cs:= []) (C5 _) rfl rfl (.refl _) _ (Ns b l (JH (x.atom.length:Int)) L hL (by rw[e];omega)) fun r L1 hL1=>?_
    rw[e]at hL1
    refine wf ?_
    refine wf ?_
    refine CQ (xs:= [.tmp 15,.const (.int .u8 58)]) L1 LF (f:=291) (cs:= []) (C5 _) rfl rfl (.refl _) _ (Mj b (l++IH x.atom.length) 58 L1 hL1 (by simp only[AA];omega)) fun r L2 hL2=>?_
    refine wf ?_
    refine wf ?_
    refine CQ (xs:= [.tmp 17,.tmp 19]) L2 LF (f:=290) (cs:= []) (C5 _) rfl rfl (.refl _) _ (Ns b (l++IH x.atom.length++ [58]) x.atom L2 hL2 (by simp only[AA,AL,Af];omega)) fun r L3 hL3=>?_
    refine wf ?_
    refine wf ?_
    exact⟨trivial,_,L3,.nil,.refl _,by simpa using hL3⟩
   ·rw[hB]at h3;cases h3
  have hB:x.isList=true:=by simpa using h2
  rcases hw with ⟨h3,_⟩|⟨_,ha,hw⟩
  ·rw[hB]at h3;cases h3
  have he:Dq (d+1) x=40::(x.list.flatMap (Dq d)++ [41]):=by simp[Dq,hB]
  rw[he]at hl ⊢
  simp only[AL,AA,Af]at hl
  refine wf ?_
  refine CQ (xs:= [.tmp 21,.const (.int .u8 40)]) L LF (f:=291) (cs:= []) (C5 _) rfl rfl (.refl _) _ (Mj b l 40 L hL (by omega)) fun r L1 hL1=>?_
  refine wf ?_
  refine wf ?_
  refine Ab (σ:=Nat × List Res) (fun k=>k.1≤x.list.length∧sg b (l++40::(x.list.take k.1).flatMap (Dq d)) k.2) (fun k=>x.list.length - k.1) (fun k=> [(0,.raw (HZ b)),(24,.slice (x.list.map eSx) .ro),(25,.raw (.int .i64 x.list.length)),(26,.raw (.int .i64 k.1))]) (fun k=>k.2++LF) (0,L1) ⟨by simp,by simpa using hL1⟩ ⟨rfl,rfl,rfl,rfl⟩ (.refl _) ?_
  rintro⟨k,L2⟩ ⟨hk,hL2⟩
  dsimp only at hk hL2 ⊢
  have hsl:=JW (l:=x.list) (f:=Dq d) (k:=k)
  refine wf ?_
  refine A6 (fun hc=>?_) (fun hc=>?_)
  ·have hlt:k < x.list.length:=by omega
   have hel:=JW (l:=x.list) (f:=Dq d) (k:=k+1)
   rw[J3 hlt,AA]at hel
   refine wz fun b5=>?_
   refine Al 5 ?_
   refine wf ?_
   refine CQ (xs:= [.tmp 30,.tmp 31]) L2 LF (f:=250) (cs:= []) (C5 _) rfl rfl (.refl _) _ (ih x.list[k] (hw _ (AB hlt)) b _ L2 hL2 (by simp only[AA,AL];omega)) fun r L3 hL3=>?_
   refine wf ?_
   refine wf ?_
   refine⟨(k+1,L3),⟨by dsimp only;omega,?_⟩,by dsimp only;omega,⟨rfl,rfl,rfl,rfl⟩,.refl _⟩
   dsimp only
   rw[J3 hlt]
   simpa using hL3
  ·rw[AF (by omega)]at hL2
   refine wf ?_
   refine CQ (xs:= [.tmp 34,.const (.int .u8 41)]) L2 LF (f:=291) (cs:= []) (C5 _) rfl rfl (.refl _) _ (Mj b _ 41 L2 hL2 (by simp only[AA,AL];omega)) fun r L3 hL3=>?_
   refine wf ?_
   refine wf ?_
   exact⟨trivial,_,L3,.nil,.refl _,by simpa using hL3⟩
def UC (b:Nat) (n:Int):Res:= .box b 293 [.raw (.int .i64 n),.raw (.bool false)]
theorem fB: ∀ (d:Nat) (x:Sx),PE d x→ ∀ (b:Nat) (n lv:Int),0≤n→n+Im d x≤20000→1≤lv→lv+d≤13→BA Tryz.prog 288 [.raw (HZ b),.agg (eSx x),.raw (.int .i64 lv)] [UC b n] (fun _ L'=>L'= [UC b (n+Im d x)])
 |0,x,hw,_,_,_,_,_,_,_=>hw.elim
 |d+1,x,hw,b,n,lv,hn0,hn,hl0,hl=>by
  have ih:=fB d
  have hpos:1≤Im (d+1) x:=by unfold Im;split<;>omega
  refine C4 Tryz.func288 rfl Tryz.ntmps288 (rs:= []) rfl rfl fun hb LF=>?_
  have hlen:x.list.length≤140737488355328:=by
   have:=(hb (.agg (eSx x)) (by simp)).agg_at (c:= .slice (x.list.map eSx) .ro) (by rw[Fw];simp)
   exact this.slice_map
  rw[show [UC b n]++LF= .box b 293 [.raw (.int .i64 n),.raw (.bool false)]::LF from rfl]
  refine wf ?_
  refine IA [.raw (.int .i64 (n+1)),.raw (.bool false)] rfl rfl rfl rfl (by simp) ?_
  refine wf ?_
  refine wf ?_
  refine Ay (fun hp=>?_) (fun hp=>?_)
  ·have:=BJ hp;omega
  refine wf ?_
  refine A6 (fun h1=>?_) (fun h1=>?_)
  ·omega
  refine wf ?_
  refine AW (fun h2=>?_) (fun h2=>?_)
  ·refine wf ?_
   have:x.isList=false:=by simpa using h2
   exact⟨trivial,_,[UC b (n+1)],.nil,.refl _,by simp[Im,this]⟩
  have hB:x.isList=true:=by simpa using h2
  rcases hw with ⟨h3,_⟩|⟨_,_,hw⟩
  ·rw[hB]at h3;cases h3
  have hnd:Im (d+1) x=1+(x.list.map (Im d)).sum:=by simp[Im,hB]
  rw[hnd]at hn ⊢
  refine wf ?_
  refine Ab (σ:=Nat) (fun k=>k≤x.list.length) (fun k=>x.list.length - k) (fun k=> [(0,.raw (HZ b)),(2,.raw (.int .i64 lv)),(31,.slice (x.list.map eSx) .ro),(32,.raw (.int .i64 x.list.length)),(33,.raw (.int .i64 k))]) (fun k=>UC b (n+(1+((x.list.map (Im d)).take k).sum:Nat))::LF) 0 (by simp) ⟨rfl,rfl,rfl,rfl,rfl⟩ (by simp;exact .refl _) ?_
  intro k hk
  have hsk:=Kx (l:=x.list.map (Im d)) (k:=k)
  have hsk1:=Kx (l:=x.list.map (Im d)) (k:=k+1)
  refine wf ?_
  refine A6 (fun hc=>?_) (fun hc=>?_)
  ·have hlt:k < x.list.length:=by omega
   have e:((x.list.map (Im d)).take (k+1)).sum=((x.list.map (Im d)).take k).sum+Im d x.list[k]:=by
    rw[A7 (by simpa using hlt),GM];simp
   refine wz fun b7=>?_
   refine Al 7 ?_
   rw[show UC b (n+(1+((x.list.map (Im d)).take k).sum:Nat))::LF= .box b 293 [.raw (.int .i64 (n+(1+((x.list.map (Im d)).take k).sum:Nat))),.raw (.bool false)]::LF from rfl]
   refine wf ?_
   refine CQ (xs:= [.tmp 41,.tmp 42,.tmp 44]) [UC b (n+(1+((x.list.map (Im d)).take k).sum:Nat))] LF (f:=288) (cs:= []) (C5 _) rfl rfl (.refl _) _ (ih x.list[k] (hw _ (AB hlt)) b _ (lv+1) (by omega) (by omega) (by omega) (by omega)) fun r L3 hL3=>?_
   subst hL3
   refine wf ?_
   refine wf ?_
   refine⟨k+1,by omega,by dsimp only;omega,⟨rfl,rfl,rfl,rfl,rfl⟩,?_⟩
   show(UC b (n+((1+((x.list.map (Im d)).take (k+1)).sum:Nat):Int))::LF).Sublist _
   rw[e,show n+((1+(((x.list.map (Im d)).take k).sum+Im d x.list[k]):Nat):Int)=n+((1+((x.list.map (Im d)).take k).sum:Nat):Int)+(Im d x.list[k]:Int) by omega]
   exact .refl _
  ·refine wf ?_
   rw[AF (by simp;omega)]
   exact⟨trivial,_,[UC b (n+(1+(x.list.map (Im d)).sum:Nat))],.nil,.refl _,rfl⟩
theorem VZ: ∀ (d:Nat) (x:Sx),PE d x→Q.Fn Tryz.prog 289 [.agg (eSx x)] (.raw (.int .i64 0))
 |0,x,hw=>hw.elim
 |d+1,x,hw=>by
  have ih: ∀ (y:Sx),[B0 (PE d y)]→C8 Tryz.prog 289 [.agg (eSx y)] (.raw (.int .i64 0)):=fun y h=>⟨VZ d y h.out⟩
  refine Av Tryz.func289 Tryz.ntmps289 rfl (rs:= [.tmp 2]) rfl rfl fun hb LF=>?_
  have hlen:x.list.length≤140737488355328:=by
   have:=(hb (.agg (eSx x)) (by simp)).agg_at (c:= .slice (x.list.map eSx) .ro) (by rw[Fw];simp)
   exact this.slice_map
  have hsh:(x.isList=true→x.atom= [])∧(x.isList=false→x.list= [])∧x.atom.length≤65536∧ ∀ y∈x.list,PE d y:=by
   rcases hw with ⟨h1,h2,h3⟩|⟨h1,h2,h3⟩
   ·exact⟨fun h=>(by rw[h1]at h;cases h),fun _=>h2,h3,fun y hy=>(by rw[h2]at hy;cases hy)⟩
   ·exact⟨fun _=>h2,fun h=>(by rw[h1]at h;cases h),by rw[h2];simp,h3⟩
  refine wf ?_
  refine BT [(6,.raw (.bool (false))),(1,.pt (eSx x) 0)] (LF) ?_ ?_
  ·repeat' (first|(refine A6 (fun h=>?_) (fun h=>?_)<;>refine wf ?_)|(refine AX (fun h=>?_) (fun h=>?_)<;>refine wf ?_)|(refine AW (fun h=>?_) (fun h=>?_)<;>refine wf ?_)|(refine Ay (fun h=>?_) (fun h=>?_)<;>(have h2:=h;(try simp only[AD,A8,AI,AN]at h2);refine wf ?_)))
   all_goals (refine⟨⟨C9 (by rfl) ?_,rfl⟩,.refl _⟩;(have:=hsh.1;have:=hsh.2.1;cases hB:x.isList<;>simp_all))
  refine wf ?_
  refine A6 (fun h5=>?_) (fun h5=>?_)
  ·have:=hsh.2.2.1;omega
  refine wf ?_
  refine Ab (σ:=Nat) (fun k=>k≤x.list.length) (fun k=>x.list.length - k) (fun k=> [(31,.slice (x.list.map eSx) .ro),(32,.raw (.int .i64 x.list.length)),(33,.raw (.int .i64 k))]) (fun _=>LF) 0 (by simp) ⟨rfl,rfl,rfl⟩ (.refl _) ?_
  intro k hk
  refine wf ?_
  refine A6 (fun hc=>?_) (fun hc=>?_)
  ·have hlt:k < x.list.length:=by omega
   have:B0 (PE d x.list[k]):=⟨hsh.2.2.2 _ (AB hlt)⟩
   refine wz fun b4=>?_
   refine Al 4 ?_
   refine wf ?_
   exact⟨k+1,by omega,by dsimp only;omega,⟨rfl,rfl,rfl⟩,.refl _⟩
  ·refine wf ?_
   exact B1 (.refl _)
instance :Ck Tryz.prog 293 [.raw (.int .i64 0),.raw (.bool false)]:=Ck.of (us:= [PV.raw (.int .i64 0),.raw (.bool false)].map zv) (by kernel_rfl) (by kernel_rfl)
instance vO (x:Sx) [hs:B0 (pF x)]:C8 Tryz.prog 249 [.agg (eSx x)] (.raw (.int .i64 0)):=⟨by
 obtain⟨h1,h2⟩:=hs.out
 have i2:C8 Tryz.prog 289 [.agg (eSx x)] (.raw (.int .i64 0)):=⟨VZ 8 x h1⟩
 refine Av Tryz.func249 Tryz.ntmps249 rfl (rs:= [.tmp 2]) rfl rfl fun hb LF=>?_
 refine vV fun b1=>?_
 refine vV fun b5=>?_
 refine CQ (xs:= [.tmp 6,.tmp 7,.const (.int .i64 1)]) [UC b5 0] (.box b1 196 (eSx x)::LF) (f:=288) (cs:= []) (C5 _) rfl rfl (.refl _) _ (fB 8 x h1 b5 0 1 (by omega) (by omega) (by omega) (by omega)) fun r L3 hL3=>?_
 subst hL3
 rw[show [UC b5 (0+Im 8 x)]++(.box b1 196 (eSx x)::LF)= .box b5 293 [.raw (.int .i64 (0+Im 8 x)),.raw (.bool false)]:: .box b1 196 (eSx x)::LF from rfl]
 refine wk ?_
 refine wk ?_
 exact B1 (.refl _)⟩
instance :Ck Tryz.prog 263 [.raw (.pointer none),.raw (.slice none 0 0)]:=Ck.of (us:= [PV.raw (.pointer none),.raw (.slice none 0 0)].map zv) (by kernel_rfl) (by kernel_rfl)
theorem qD {d:Nat} {x:Sx} (h:PE d x):Dq d x≠ []:=by
 cases d with
 |zero=>exact h.elim
 |succ d=>unfold Dq;split<;>simp
instance sd (x:Sx) [hs:B0 (pF x∧(Dq 8 x).length≤1000000000)]:C8 Tryz.prog 200 [.agg (eSx x)] (.tuple [.str (Dq 8 x),.raw (.int .i64 0)]):=⟨by
 obtain⟨h1,h2⟩:=hs.out
 have:B0 (pF x):=⟨h1⟩
 refine Av Tryz.func200 Tryz.ntmps200 rfl (rs:= [.tmp 2,.tmp 3]) rfl rfl fun hb LF=>?_
 refine YD fun b=>?_
 rw[show Res.box b 263 [.raw (.pointer none),.raw (.slice none 0 0)]::LF= [OV b (.pointer none) (.slice none 0 0)]++LF from rfl]
 refine CQ (xs:= [.tmp 5,.tmp 11]) [OV b (.pointer none) (.slice none 0 0)] LF (f:=250) (cs:= []) (C5 _) rfl rfl (.refl _) _ (ec 8 x h1.1 b [] _ ⟨.pointer none,.slice none 0 0,[],.inl rfl,.nil,rfl⟩ (by simpa using h2)) fun r L1 hL1=>?_
 rw[BB]at hL1
 refine wf ?_
 refine wf ?_
 refine CQ (xs:= [.tmp 5]) L1 LF (f:=251) (cs:= []) (C5 _) rfl rfl (.refl _) _ (fL b (Dq 8 x) L1 hL1 (qD h1.1) (by omega)) fun r L2 ⟨hr,hL2⟩=>?_
 subst hr
 subst hL2
 refine wf ?_
 refine wf ?_
 refine HT ?_
 exact .refl _⟩
instance zS (n:Int):C8 Tryz.prog 248 [.raw (.int .i64 n)] (.tuple [.agg (eSx (Rl n).1),.raw (.int .i64 (Rl n).2)]):=⟨by
 refine Av Tryz.func248 Tryz.ntmps248 rfl (rs:= [.cell 2 196,.tmp 3]) rfl rfl fun hb LF=>?_
 refine YD fun b=>?_
 refine BT [(9,.raw (.bool (decide (n < -1099511627776∨1099511627776 < n)))),(0,.raw (.int .i64 n)),(2,.raw (.pointer (some ⟨b,0,none⟩)))] (.box b 196 (eSx Sx.zero)::LF) ?_ ?_
 ·repeat' (first|(refine A6 (fun h=>?_) (fun h=>?_)<;>refine wf ?_)|(refine AX (fun h=>?_) (fun h=>?_)<;>refine wf ?_)|(refine AW (fun h=>?_) (fun h=>?_)<;>refine wf ?_)|(refine Ay (fun h=>?_) (fun h=>?_)<;>(have h2:=h;(try simp only[AD,A8,AI,AN]at h2);refine wf ?_)))
  all_goals (refine⟨⟨C9 (by rfl) ?_,rfl,rfl⟩,.refl _⟩;first|(simp_all;done)|grind)
 refine wf ?_
 refine A6 (fun h=>?_) (fun h=>?_)
 ·refine wf ?_
  refine Jq rfl (.of_eq ?_)
  rw[Rl,if_pos h]
 ·have:B0 (-140737488355328≤n∧n≤140737488355328):=⟨by omega⟩
  refine wf ?_
  refine Jq rfl (.of_eq ?_)
  rw[Rl,if_neg h];rfl⟩
instance yL (s:Str):C8 Tryz.prog 197 [.str s] (.agg (eSx (Cf s))):=⟨by
 refine Av Tryz.func197 Tryz.ntmps197 rfl (rs:= [.cell 2 196]) rfl rfl fun hb LF=>?_
 refine YD fun b=>?_
 refine Fv rfl (.of_eq ?_)
 rfl⟩
@[reducible] def Sn (l:List Sx) (t:CC):List PV:= [.raw (.bool true),.str [],.slice (l.map eSx) t]
theorem kx (l:List Sx):Sn l .ro=eSx (E6 l):=by rw[Fw];rfl
theorem cA (l:List Sx) (t:CC):Le (.agg (Sn l t)) (.agg (eSx (E6 l))):=fun g v hv=>by
 obtain⟨vs,rfl,h⟩:=hv.agg_inv
 match vs,h with
 | [a,b,c],h=>
   rw[←kx]
   exact ED.agg (.cons h.uncons.1 (.cons h.uncons.2.uncons.1 (.cons h.uncons.2.uncons.2.uncons.1.ro (.nil g))))
 | [],h=>have:=h.len;simp at this
 | [_],h=>have:=h.len;simp at this
 | [_,_],h=>have:=h.len;simp at this
 |_::_::_::_::_,h=>have:=h.len;simp at this
instance (l:List Sx) (t:CC):GP (.agg (Sn l t)) eSx (E6 l):=⟨fun g v hv=>Dn.agg _ g v (cA l t g v hv)⟩
instance {x y z:PV}:At [x,y,z] 2 z:=⟨rfl⟩
instance (c:Sx) (l:List Sx) (t:CC):FO (eSx c) 0 (Sn l t) (Sn l t):=⟨by rw[Fw];simp⟩
instance (l:List Sx) (t:CC):Cy (Sn l t) 3:=⟨rfl⟩
instance (l:List Sx) (t:CC):Dx (Sn l t):=by unfold Sn;infer_instance
theorem UG (l:List Sx) (t:CC):Q.Fn Tryz.prog 196 [.slice (l.map eSx) t] (.agg (Sn l t)):=by
 refine Av Tryz.func196 Tryz.ntmps196 rfl (rs:= [.cell 2 196]) rfl rfl fun hb LF=>?_
 refine DZ ?_
 refine CK (by kernel_rfl) ?_
 refine Bx fun b=>?_
 refine AE ?_
 refine DZ ?_
 refine CK (by kernel_rfl) ?_
 refine KD (by(conv=>lhs;whnf);done) ?_
 refine Yi (z:=eSx Sx.zero) (c0:= [.raw (.bool true)]) (c1:= [.slice (l.map eSx) t]) (r1:=Sn l t) (hP0:=⟨rfl,by simp⟩) (hP1:=⟨rfl,by simp⟩) ?_ ?_ rfl rfl ?_
 ·exact Dn.one (c:= .raw (.bool true)) Dx.out
 ·exact Dn.one (c:= .slice (l.map eSx) t) Dx.out
 refine wf ?_
 exact Fv rfl (.refl _)
instance xj (l:List Sx):C8 Tryz.prog 196 [.slice (l.map eSx) .ro] (.agg (eSx (E6 l))):=⟨kx l ▸ UG l .ro⟩
instance (priority:=low) xh (l:List Sx) (t:CC):C8 Tryz.prog 196 [.slice (l.map eSx) t] (.agg (Sn l t)):=⟨UG l t⟩
instance xk:C8 Tryz.prog 196 [.slice [] .nil] (.agg (Sn [] .nil)):=⟨UG [] .nil⟩
instance uB (n:Int):C8 Tryz.prog 199 [.raw (.int .i64 n)] (.agg (eSx (GJ n))):=⟨by
 refine Av Tryz.func199 Tryz.ntmps199 rfl (rs:= [.cell 2 196]) rfl rfl fun hb LF=>?_
 refine YD fun b=>?_
 refine YD fun b2=>?_
 refine Fv rfl (.of_eq ?_)
 rfl⟩
instance qC (x:Ident):C8 Tryz.prog 240 [.agg (eIdent x)] (.agg (eSx (GI x))):=⟨by
 refine Av Tryz.func240 Tryz.ntmps240 rfl (rs:= [.cell 2 196]) rfl rfl fun hb LF=>?_
 refine wf ?_
 refine Bx fun b=>?_
 refine wn ?_
 refine A6 (fun h=>?_) (fun h=>?_)
 ·refine wn ?_
  refine BZ 6 ?_ ?_
  ·decide+kernel
  refine wf ?_
  refine Fv rfl (.of_eq ?_)
  rw[GI,KE,if_pos h]
 ·refine wn ?_
  refine BZ 9 ?_ ?_
  ·decide+kernel
  refine wf ?_
  refine Fv rfl (.of_eq ?_)
  rw[GI,KE,if_neg h]⟩
instance xW (l:List Ident) (t:CC) [hs:B0 (l.length≤1000000)]:C8 Tryz.prog 241 [.slice (l.map eIdent) t] (.agg (eSx (JF l))):=⟨by
 refine Av Tryz.func241 Tryz.ntmps241 rfl (rs:= [.cell 2 196]) rfl rfl fun hb LF=>?_
 have hlen:=hs.out
 refine YD fun b=>?_
 refine YD fun b3=>?_
 refine EO 3 ?_
 refine Ab (σ:=Nat × CC × List Sx) (fun k=>k.1≤l.length∧k.2.2=(l.take k.1).map GI) (fun k=>l.length - k.1) (fun k=> [(2,.raw (.pointer (some ⟨b,0,none⟩))),(3,.raw (.pointer (some ⟨b3,0,none⟩))),(7,.slice (l.map eIdent) t),(8,.raw (.int .i64 l.length)),(9,.raw (.int .i64 k.1))]) (fun k=> .tok k.2.1 k.2.2.length 3:: .box b3 196 (Sn k.2.2 k.2.1):: .box b 196 (eSx Sx.zero)::LF) (0,.nil,[]) ⟨by simp,by simp⟩ ⟨rfl,rfl,rfl,rfl,rfl⟩ (.refl _) ?_
 rintro⟨k,v,out⟩ ⟨hk,he⟩
 dsimp only at hk he
 have hol:out.length=k:=by rw[he];simp;omega
 refine wf ?_
 refine A6 (fun hc=>?_) (fun hc=>?_)
 ·have hlt:k < l.length:=by omega
  have ee:(l.take (k+1)).map GI=out++ [GI l[k]]:=by rw[A7 hlt,Aq,he];rfl
  refine wz fun b5=>?_
  refine Al 5 ?_
  refine wn ?_
  refine BZ 5 ?_ ?_
  ·decide+kernel
  refine dR fun v'=>?_
  refine GU (ay:= .slice ((out++ [GI l[k]]).map eSx) v') (Sn (out++ [GI l[k]]) v') rfl rfl Dx.out rfl (by simp) ?_
  refine wf ?_
  refine wf ?_
  exact⟨(k+1,v',out++ [GI l[k]]),⟨by dsimp only;omega,ee.symm⟩,by dsimp only;omega,⟨rfl,rfl,rfl,rfl,rfl⟩,.refl _⟩
 ·rw[AF (by omega)]at he
  refine wf ?_
  refine Fv rfl ?_
  rw[JF,←he]
  exact cA _ _⟩
instance jA (l:List Str) (t:CC) [hs:B0 (l.length≤1000000)]:C8 Tryz.prog 245 [.slice (l.map eS) t] (.agg (eSx (E6 (l.map Cf)))):=⟨by
 refine Av Tryz.func245 Tryz.ntmps245 rfl (rs:= [.cell 2 196]) rfl rfl fun hb LF=>?_
 have hlen:=hs.out
 refine YD fun b=>?_
 refine YD fun b3=>?_
 refine EO 3 ?_
 refine Ab (σ:=Nat × CC × List Sx) (fun k=>k.1≤l.length∧k.2.2=(l.take k.1).map Cf) (fun k=>l.length - k.1) (fun k=> [(2,.raw (.pointer (some ⟨b,0,none⟩))),(3,.raw (.pointer (some ⟨b3,0,none⟩))),(7,.slice (l.map eS) t),(8,.raw (.int .i64 l.length)),(9,.raw (.int .i64 k.1))]) (fun k=> .tok k.2.1 k.2.2.length 3:: .box b3 196 (Sn k.2.2 k.2.1):: .box b 196 (eSx Sx.zero)::LF) (0,.nil,[]) ⟨by simp,by simp⟩ ⟨rfl,rfl,rfl,rfl,rfl⟩ (.refl _) ?_
 rintro⟨k,v,out⟩ ⟨hk,he⟩
 dsimp only at hk he
 have hol:out.length=k:=by rw[he];simp;omega
 refine wf ?_
 refine A6 (fun hc=>?_) (fun hc=>?_)
 ·have hlt:k < l.length:=by omega
  have ee:(l.take (k+1)).map Cf=out++ [Cf l[k]]:=by rw[A7 hlt,Aq,he];rfl
  refine wn ?_
  refine BZ 5 ?_ ?_
  ·decide+kernel
  refine dR fun v'=>?_
  refine GU (ay:= .slice ((out++ [Cf l[k]]).map eSx) v') (Sn (out++ [Cf l[k]]) v') rfl rfl Dx.out rfl (by simp) ?_
  refine wf ?_
  refine wf ?_
  exact⟨(k+1,v',out++ [Cf l[k]]),⟨by dsimp only;omega,ee.symm⟩,by dsimp only;omega,⟨rfl,rfl,rfl,rfl,rfl⟩,.refl _⟩
 ·rw[AF (by omega)]at he
  refine wf ?_
  refine Fv rfl ?_
  rw[←he]
  exact cA _ _⟩
def zE (c:Chg):List Sx:= [GJ c.type]
def zD (c:Chg):List Sx:= [GI c.file,GI c.parent,Cf c.name,JF c.over]
def zC (c:Chg):List Sx:= [GI c.file,GJ c.mode,JF c.over]
def zB (c:Chg):List Sx:= [GI c.file,Cf c.data,JF c.over]
def zA (c:Chg):List Sx:= [GI c.file,GI c.after,GI c.before,E6 (c.lines.map Cf)]
def z8 (c:Chg):List Sx:= [GI c.file,GI c.after,GI c.before,JF c.over]
def z7 (c:Chg):List Sx:= [JF c.over]
instance ug (c:Chg) [hs:B0 (c.lines.length≤100000∧c.over.length≤100000)]:C8 Tryz.prog 238 [.agg (eChg c)] (.slice ((zE c).map eSx) .ro):=⟨by
 obtain⟨h1,h2⟩:=hs.out
 have i1:B0 (c.over.length≤1000000):=⟨by omega⟩
 have i2:B0 (c.lines.length≤1000000):=⟨by omega⟩
 refine Av Tryz.func238 Tryz.ntmps238 rfl (rs:= [.tmp 2]) rfl rfl fun hb LF=>?_
 refine wf ?_
 refine B1 (.of_eq ?_)
 rfl⟩
instance uf (c:Chg) [hs:B0 (c.lines.length≤100000∧c.over.length≤100000)]:C8 Tryz.prog 239 [.agg (eChg c)] (.slice ((zD c).map eSx) .ro):=⟨by
 obtain⟨h1,h2⟩:=hs.out
 have i1:B0 (c.over.length≤1000000):=⟨by omega⟩
 have i2:B0 (c.lines.length≤1000000):=⟨by omega⟩
 refine Av Tryz.func239 Tryz.ntmps239 rfl (rs:= [.tmp 2]) rfl rfl fun hb LF=>?_
 refine wn ?_
 refine BZ 14 ?_ ?_
 ·decide+kernel
 refine wf ?_
 refine B1 (.of_eq ?_)
 rfl⟩
instance ue (c:Chg) [hs:B0 (c.lines.length≤100000∧c.over.length≤100000)]:C8 Tryz.prog 242 [.agg (eChg c)] (.slice ((zC c).map eSx) .ro):=⟨by
 obtain⟨h1,h2⟩:=hs.out
 have i1:B0 (c.over.length≤1000000):=⟨by omega⟩
 have i2:B0 (c.lines.length≤1000000):=⟨by omega⟩
 refine Av Tryz.func242 Tryz.ntmps242 rfl (rs:= [.tmp 2]) rfl rfl fun hb LF=>?_
 refine wn ?_
 refine BZ 11 ?_ ?_
 ·decide+kernel
 refine wf ?_
 refine B1 (.of_eq ?_)
 rfl⟩
instance ud (c:Chg) [hs:B0 (c.lines.length≤100000∧c.over.length≤100000)]:C8 Tryz.prog 243 [.agg (eChg c)] (.slice ((zB c).map eSx) .ro):=⟨by
 obtain⟨h1,h2⟩:=hs.out
 have i1:B0 (c.over.length≤1000000):=⟨by omega⟩
 have i2:B0 (c.lines.length≤1000000):=⟨by omega⟩
 refine Av Tryz.func243 Tryz.ntmps243 rfl (rs:= [.tmp 2]) rfl rfl fun hb LF=>?_
 refine wn ?_
 refine BZ 11 ?_ ?_
 ·decide+kernel
 refine wf ?_
 refine B1 (.of_eq ?_)
 rfl⟩
instance uc (c:Chg) [hs:B0 (c.lines.length≤100000∧c.over.length≤100000)]:C8 Tryz.prog 244 [.agg (eChg c)] (.slice ((zA c).map eSx) .ro):=⟨by
 obtain⟨h1,h2⟩:=hs.out
 have i1:B0 (c.over.length≤1000000):=⟨by omega⟩
 have i2:B0 (c.lines.length≤1000000):=⟨by omega⟩
 refine Av Tryz.func244 Tryz.ntmps244 rfl (rs:= [.tmp 2]) rfl rfl fun hb LF=>?_
 refine wn ?_
 refine BZ 14 ?_ ?_
 ·decide+kernel
 refine wf ?_
 refine B1 (.of_eq ?_)
 rfl⟩
instance ub (c:Chg) [hs:B0 (c.lines.length≤100000∧c.over.length≤100000)]:C8 Tryz.prog 246 [.agg (eChg c)] (.slice ((z8 c).map eSx) .ro):=⟨by
 obtain⟨h1,h2⟩:=hs.out
 have i1:B0 (c.over.length≤1000000):=⟨by omega⟩
 have i2:B0 (c.lines.length≤1000000):=⟨by omega⟩
 refine Av Tryz.func246 Tryz.ntmps246 rfl (rs:= [.tmp 2]) rfl rfl fun hb LF=>?_
 refine wn ?_
 refine BZ 14 ?_ ?_
 ·decide+kernel
 refine wf ?_
 refine B1 (.of_eq ?_)
 rfl⟩
instance ua (c:Chg) [hs:B0 (c.lines.length≤100000∧c.over.length≤100000)]:C8 Tryz.prog 247 [.agg (eChg c)] (.slice ((z7 c).map eSx) .ro):=⟨by
 obtain⟨h1,h2⟩:=hs.out
 have i1:B0 (c.over.length≤1000000):=⟨by omega⟩
 have i2:B0 (c.lines.length≤1000000):=⟨by omega⟩
 refine Av Tryz.func247 Tryz.ntmps247 rfl (rs:= [.tmp 2]) rfl rfl fun hb LF=>?_
 refine wf ?_
 refine B1 (.of_eq ?_)
 rfl⟩
def iC:List (Int × PV):= [(1,.raw (.func (.func 238) #[] #[])),(2,.raw (.func (.func 239) #[] #[])),(3,.raw (.func (.func 242) #[] #[])),(4,.raw (.func (.func 243) #[] #[])),(5,.raw (.func (.func 244) #[] #[])),(6,.raw (.func (.func 246) #[] #[])),(7,.raw (.func (.func 247) #[] #[]))]
theorem Xp:BA Tryz.prog 198 [] [] (fun r L'=> ∃ b,r= .raw (.map (some b))∧L'= [.map b (BO kInt vId iC)]):=by
 refine C4 Tryz.func198 rfl Tryz.ntmps198 (rs:= [.tmp 0]) rfl rfl fun hb LF=>?_
 rw[BB]
 refine zd fun b=>?_
 exact⟨trivial,_,[.map b (BO kInt vId iC)],.cons (.tmp 0) .nil,.refl _,b,rfl,rfl⟩
def vw (k:Int):Nat:=if k=1 then 238 else if k=2 then 239 else if k=3 then 242 else if k=4 then 243 else if k=5 then 244 else if k=6 then 246 else 247
def aD (c:Chg):List Sx:=if c.kind=1 then zE c else if c.kind=2 then zD c else if c.kind=3 then zC c else if c.kind=4 then zB c else if c.kind=5 then zA c else if c.kind=6 then z8 c else z7 c
theorem lg (c:Chg):(aD c).length≤4:=by
 unfold aD
 repeat' split
 all_goals simp[zE,zD,zC,zB,zA,z8,z7]
theorem kinds {k:Int} (h:1≤k∧k≤7):k=1∨k=2∨k=3∨k=4∨k=5∨k=6∨k=7:=by omega
theorem lh {k:Int} (h:1≤k∧k≤7):vId ((CB k iC).getD (.raw .nilFunc))= .raw (.func (.func (vw k)) #[] #[]):=by
 rcases kinds h with h|h|h|h|h|h|h<;>(subst h;rfl)
theorem qA {k:Int} (h:1≤k∧k≤7):B2 Tryz.prog (vw k):=by
 rcases kinds h with h|h|h|h|h|h|h<;>(subst h;simp only[vw];first|exact(inferInstance:B2 Tryz.prog 238)|exact(inferInstance:B2 Tryz.prog 239)|exact(inferInstance:B2 Tryz.prog 242)|exact(inferInstance:B2 Tryz.prog 243)|exact(inferInstance:B2 Tryz.prog 244)|exact(inferInstance:B2 Tryz.prog 246)|exact(inferInstance:B2 Tryz.prog 247))
theorem py (c:Chg) (h:1≤c.kind∧c.kind≤7) [hs:B0 (c.lines.length≤100000∧c.over.length≤100000)]:Q.Fn Tryz.prog (vw c.kind) [.agg (eChg c)] (.slice ((aD c).map eSx) .ro):=by
 unfold vw aD
 by_cases h1:c.kind=1
 ·rw[if_pos h1,if_pos h1];exact(ug c).out
 by_cases h2:c.kind=2
 ·rw[if_neg h1,if_neg h1,if_pos h2,if_pos h2];exact(uf c).out
 by_cases h3:c.kind=3
 ·rw[if_neg h1,if_neg h1,if_neg h2,if_neg h2,if_pos h3,if_pos h3];exact(ue c).out
 by_cases h4:c.kind=4
 ·rw[if_neg h1,if_neg h1,if_neg h2,if_neg h2,if_neg h3,if_neg h3,if_pos h4,if_pos h4];exact(ud c).out
 by_cases h5:c.kind=5
 ·rw[if_neg h1,if_neg h1,if_neg h2,if_neg h2,if_neg h3,if_neg h3,if_neg h4,if_neg h4,if_pos h5,if_pos h5];exact(uc c).out
 by_cases h6:c.kind=6
 ·rw[if_neg h1,if_neg h1,if_neg h2,if_neg h2,if_neg h3,if_neg h3,if_neg h4,if_neg h4,if_neg h5,if_neg h5,if_pos h6,if_pos h6];exact(ub c).out
 rw[if_neg h1,if_neg h1,if_neg h2,if_neg h2,if_neg h3,if_neg h3,if_neg h4,if_neg h4,if_neg h5,if_neg h5,if_neg h6,if_neg h6];exact(ua c).out
def PZ (c:Chg):Sx:=E6 ([GJ c.kind]++aD c)
def kH (p:Pat):Sx:=E6 [Cf [113,117,105,108,116,49],Cf p.author,Cf p.message,GJ p.time,E6 (p.deps.map fun d=>Cf d.bs),E6 (p.changes.map PZ)]
theorem kJ {c:Chg} (h:1≤c.kind∧c.kind≤7):PZ c=Kr c:=by
 unfold PZ Kr K5 Ie Ky aD
 rcases kinds h with h|h|h|h|h|h|h<;>simp[h,zE,zD,zC,zB,zA,z8,z7]
theorem kG {p:Pat} (hd: ∀ d∈p.deps,d≠Dig.zero) (hk: ∀ c∈p.changes,1≤c.kind∧c.kind≤7):kH p=XA p:=by
 unfold kH XA
 rw[Ca (f:=fun d:Dig=>Cf d.bs) (g:=KE) (fun d h=>by rw[KE,if_neg (hd d h)]),Ca (f:=PZ) (g:=Kr) (fun c h=>kJ (hk c h))]
structure cZ (p:Pat):Prop where
 ok:WI p
 deps: ∀ d∈p.deps,d≠Dig.zero
 kinds: ∀ c∈p.changes,1≤c.kind∧c.kind≤7
instance sD (p:Pat) [hs:B0 (cZ p)]:C8 Tryz.prog 144 [.agg (Bn p)] (.tuple [.str (Nk p),.raw (.int .i64 0)]):=⟨by
 refine Av Tryz.func144 Tryz.ntmps144 rfl (rs:= [.tmp 2,.tmp 3]) rfl rfl fun hb LF=>?_
 have hd:=hs.out.ok.deps
 have hch:=hs.out.ok.chgs
 refine YD fun b4=>?_
 refine Bx fun b5=>?_
 refine wf ?_
 refine EO 3 ?_
 refine Ab (σ:=Nat × CC × List Sx) (fun k=>k.1≤p.deps.length∧k.2.2=(p.deps.take k.1).map fun d=>Cf d.bs) (fun k=>p.deps.length - k.1) (fun k=> [(1,.pt (Bn p) 0),(4,.raw (.pointer (some ⟨b4,0,none⟩))),(5,.raw (.pointer (some ⟨b5,0,none⟩))),(15,.slice (p.deps.map eDig) .ro),(16,.raw (.int .i64 p.deps.length)),(17,.raw (.int .i64 k.1))]) (fun k=> .tok k.2.1 k.2.2.length 3:: .box b5 196 (Sn [] .nil):: .box b4 196 (Sn k.2.2 k.2.1)::LF) (0,.nil,[]) ⟨by simp,by simp⟩ ⟨rfl,rfl,rfl,rfl,rfl,rfl⟩ (.refl _) ?_
 rintro⟨k,v,l⟩ ⟨hk,he⟩
 dsimp only at hk he
 have hll:l.length=k:=by rw[he];simp;omega
 refine wf ?_
 refine A6 (fun hc=>?_) (fun hc=>?_)
 ·have hlt:k < p.deps.length:=by omega
  have ee:(p.deps.take (k+1)).map (fun d=>Cf d.bs)=l++ [Cf p.deps[k].bs]:=by rw[A7 hlt,Aq,he];rfl
  refine wz fun b7=>?_
  refine Al 7 ?_
  refine wn ?_
  refine BZ 6 ?_ ?_
  ·decide+kernel
  refine dR fun v'=>?_
  refine GU (ay:= .slice ((l++ [Cf p.deps[k].bs]).map eSx) v') (Sn (l++ [Cf p.deps[k].bs]) v') rfl rfl Dx.out rfl (by simp) ?_
  refine wf ?_
  refine wf ?_
  exact⟨(k+1,v',l++ [Cf p.deps[k].bs]),⟨by dsimp only;omega,ee.symm⟩,by dsimp only;omega,⟨rfl,rfl,rfl,rfl,rfl,rfl⟩,.refl _⟩
 rw[AF (by omega)]at he
 clear hll
 refine wf ?_
 refine CQ (xs:= []) [] (.tok v l.length 3:: .box b5 196 (Sn [] .nil):: .box b4 196 (Sn l v)::LF) (f:=198) (cs:= []) (C5 _) rfl rfl (.refl _) _ Xp fun r L1 ⟨bm,hr,hL1⟩=>?_
 subst hr
 subst hL1
 refine wo ?_
 refine AE ?_
 refine L8 [(1,.pt (Bn p) 0),(4,.raw (.pointer (some ⟨b4,0,none⟩))),(5,.raw (.pointer (some ⟨b5,0,none⟩))),(8,.fmap (BO kInt vId iC))] ⟨.inl rfl,.inl rfl,.inl rfl,.inr ⟨rfl,rfl⟩⟩ (.refl _) ?_
 refine wf ?_
 refine EO 3 ?_
 refine Ab (σ:=Nat × CC × List Sx) (fun k=>k.1≤p.changes.length∧k.2.2=(p.changes.take k.1).map PZ) (fun k=>p.changes.length - k.1) (fun k=> [(1,.pt (Bn p) 0),(4,.raw (.pointer (some ⟨b4,0,none⟩))),(5,.raw (.pointer (some ⟨b5,0,none⟩))),(8,.fmap (BO kInt vId iC)),(32,.slice (p.changes.map eChg) .ro),(33,.raw (.int .i64 p.changes.length)),(34,.raw (.int .i64 k.1))]) (fun k=> .tok k.2.1 k.2.2.length 3:: .box b5 196 (Sn k.2.2 k.2.1):: .box b4 196 (Sn l v)::LF) (0,.nil,[]) ⟨by simp,by simp⟩ ⟨rfl,rfl,rfl,rfl,rfl,rfl,rfl⟩ (.cons_cons _ (.cons _ (.refl _))) ?_
 rintro⟨k,u,m⟩ ⟨hk,hm⟩
 dsimp only at hk hm
 have hml:m.length=k:=by rw[hm];simp;omega
 refine wf ?_
 refine A6 (fun hc=>?_) (fun hc=>?_)
 ·have hlt:k < p.changes.length:=by omega
  have ee:(p.changes.take (k+1)).map PZ=m++ [PZ p.changes[k]]:=by rw[A7 hlt,Aq,hm];rfl
  have hcc:=hs.out.ok.chg _ (AB hlt)
  have hkc:=hs.out.kinds _ (AB hlt)
  have:B0 (p.changes[k].lines.length≤100000∧p.changes[k].over.length≤100000):=⟨hcc⟩
  have hfun:=qA hkc
  have hfl:=lg p.changes[k]
  refine wz fun b10=>?_
  refine Al 10 ?_
  refine DZ ?_
  refine CK (by kernel_rfl) ?_
  refine bR (by rfl) (hr:=(by first|infer_instance|fail)) ?_
  refine dZ (by rfl) rfl ?_
  refine XT (by(conv=>lhs;whnf);done) (hN0:=(by first|infer_instance|fail)) (hc:=(by first|infer_instance|fail)) ?_
  refine k9 (by(conv=>lhs;whnf);done) (hC0:=(by first|infer_instance|fail)) (hf:=(by first|infer_instance|fail)) (by decide) fun t=>?_
  refine wz fun b11=>?_
  refine wn ?_
  refine BZ 8 ?_ ?_
  ·decide+kernel
  refine wf ?_
  refine X9 (xs:= [.tmp 49]) (f:=vw p.changes[k].kind) (cs:= []) (by show Le (vId ((CB p.changes[k].kind iC).getD (.raw .nilFunc))) _;rw[lh hkc];exact C5 _) rfl rfl (py p.changes[k] hkc) ?_
  refine dR fun v'=>?_
  refine GU (ay:= .slice (([GJ p.changes[k].kind]++aD p.changes[k]).map eSx) v') (Sn ([GJ p.changes[k].kind]++aD p.changes[k]) v') rfl rfl Dx.out rfl (by simp) ?_
  refine wf ?_
  refine dR fun u'=>?_
  refine GU (ay:= .slice ((m++ [PZ p.changes[k]]).map eSx) u') (Sn (m++ [PZ p.changes[k]]) u') rfl rfl Dx.out rfl (by simp) ?_
  refine wf ?_
  exact⟨(k+1,u',m++ [PZ p.changes[k]]),⟨by dsimp only;omega,ee.symm⟩,by dsimp only;omega,⟨rfl,rfl,rfl,rfl,rfl,rfl,rfl⟩,by dsimp only;repeat(first|exact EZ _|apply List.Sublist.cons_cons|apply List.Sublist.cons)⟩
 rw[AF (by omega)]at hm
 have e:XA p=E6 [Cf [113,117,105,108,116,49],Cf p.author,Cf p.message,GJ p.time,E6 l,E6 m]:=by rw[←kG hs.out.deps hs.out.kinds,kH,←he,←hm]
 have i1:B0 (pF (E6 [Cf [113,117,105,108,116,49],Cf p.author,Cf p.message,GJ p.time,E6 l,E6 m])∧(Dq 8 (E6 [Cf [113,117,105,108,116,49],Cf p.author,Cf p.message,GJ p.time,E6 l,E6 m])).length≤1000000000):=by
  rw[←e];exact⟨hs.out.ok.ok,hs.out.ok.len⟩
 refine wf ?_
 refine HT ?_
 rw[Nk,e]
 exact .refl _⟩
def LK (l:List Str):Nat:=(l.map List.length).sum
def vh (l:List Str):Bool:=decide (40 < (l.length:Int))||decide (3000 < (LK l:Int))
theorem YL {l:List Str} {k:Nat} (h:k < l.length):LK (l.take (k+1))=LK (l.take k)+l[k].length:=by
 unfold LK;rw[A7 h,Aq,GM];simp
theorem fK {l:List Str} {B:Nat} (h: ∀ s∈l,s.length≤B):LK l≤l.length*B:=by
 unfold LK
 induction l with
 |nil=>simp
 |cons x l ih=>
  have h1:=h x (by simp)
  have h2:=ih fun s hs=>h s (by simp[hs])
  simp only[Ar,DY,AL,C7];omega
instance wI (l:List Str) (t:CC):C8 Tryz.prog 203 [.slice (l.map eS) t] (.raw (.bool (vh l))):=⟨by
 refine Av Tryz.func203 Tryz.ntmps203 rfl (rs:= [.tmp 2]) rfl rfl fun hb LF=>?_
 have hbs:=hb (.slice (l.map eS) t) (by simp)
 have hlen:l.length≤140737488355328:=hbs.slice_map
 have hel: ∀ s∈l,s.length≤140737488355328:=fun s hs=>(hbs.slice_at hs (c:= .str s) (by simp[eS])).str_len
 refine AZ ?_
 refine Ab (σ:=Nat × Int) (fun k=>k.1≤l.length∧(l.length≤40→k.2=(LK (l.take k.1):Int))) (fun k=>l.length - k.1) (fun k=> [(0,.slice (l.map eS) t),(3,.raw (.int .i64 k.2)),(4,.raw (.int .i64 k.1))]) (fun _=>LF) (0,0) ⟨by simp,fun _=>by simp[LK]⟩ ⟨rfl,rfl,rfl⟩ (.refl _) ?_
 rintro⟨k,n⟩ ⟨hk,hn⟩
 dsimp only at hk hn ⊢
 obtain⟨v,hv⟩: ∃ v,v=Value.int .i64 n:=⟨_,rfl⟩
 rw[←hv]
 refine AZ ?_
 refine A6 (fun hc=>?_) (fun hc=>?_)
 ·have hlt:k < l.length:=by omega
  refine AZ ?_
  refine bU (by rfl) (by rfl) hv fun v1 hv1=>?_
  refine CH ?_
  subst hv1
  refine⟨(k+1,IntKind.i64.wrap (n+(l[k].length:Int))),⟨by dsimp only;omega,fun h40=>?_⟩,by dsimp only;omega,⟨rfl,rfl,rfl⟩,.refl _⟩
  have h1:=hn h40
  have h2:=YL hlt
  have h3:=hel _ (AB hlt)
  have h4:=fK (l:=l.take k) (B:=140737488355328) fun s hs=>hel s (Et hs)
  have h5:(l.take k).length≤40:=by rw[Aa];omega
  have h6:(l.take k).length*140737488355328≤40*140737488355328:=B6 _ h5
  dsimp only
  rw[IntWalk.i64_in _ (by omega),h1,h2];omega
 ·subst hv
  refine AZ ?_
  rw[AF (by omega)]at hn
  refine Ay (fun hp=>?_) (fun hp=>?_)
  ·refine CH ?_
   refine B1 (.of_eq ?_)
   rw[vh,hp,Bool.true_or]
  ·refine CH ?_
   refine B1 (.of_eq ?_)
   have:=Bh hp
   rw[vh,hp,Gd,hn (by omega)]⟩
def IE (c:Chg):Nat:=c.name.length+c.data.length
def XB (p:Pat):Nat:=p.author.length+p.message.length+(p.changes.map IE).sum
def fi (c:Chg):Bool:=vh c.lines||decide (40 < (c.over.length:Int))
def GV (p:Pat):Bool:=p.changes.any fi||decide (3000 < (XB p:Int))||decide (20 < (p.deps.length:Int))||decide (20 < (p.changes.length:Int))
def KF (c:Chg):Nat:=1+c.lines.length+c.over.length
def E7 (p:Pat):Bool:=p.changes.any (fun c=>fi c||decide (3000 < (IE c:Int)))||decide (30000 < (XB p:Int))||decide (200 < (p.deps.length:Int))||decide (200 < (p.changes.length:Int))||decide (2000 < ((p.changes.map KF).sum:Int))
theorem FF {α:Type} {l:List α} {f:α→Nat} {B:Nat} (h: ∀ s∈l,f s≤B):(l.map f).sum≤l.length*B:=by
 induction l with
 |nil=>simp
 |cons x l ih=>
  have h1:=h x (by simp)
  have h2:=ih fun s hs=>h s (by simp[hs])
  simp only[Ar,DY,AL,C7];omega
theorem KA {α:Type} {l:List α} {f:α→Nat} {k:Nat} (h:k < l.length):((l.take (k+1)).map f).sum=((l.take k).map f).sum+f l[k]:=by
 rw[A7 h,Aq,GM];simp
instance vI (p:Pat):C8 Tryz.prog 151 [.agg (Bn p)] (.raw (.bool (GV p))):=⟨by
 refine Av Tryz.func151 Tryz.ntmps151 rfl (rs:= [.tmp 2]) rfl rfl fun hb LF=>?_
 have hbp:=hb (.agg (Bn p)) (by simp)
 have ha:p.author.length≤140737488355328:=(hbp.agg_at (c:= .str p.author) (by simp[Bn])).str_len
 have hm:p.message.length≤140737488355328:=(hbp.agg_at (c:= .str p.message) (by simp[Bn])).str_len
 have hbc:=hbp.agg_at (c:= .slice (p.changes.map eChg) .ro) (by simp[Bn])
 have hlen:p.changes.length≤140737488355328:=hbc.slice_map
 have hcn: ∀ c∈p.changes,c.name.length≤140737488355328:=fun c hc=>(hbc.slice_at hc (c:= .str c.name) (by simp[eChg])).str_len
 have hcd: ∀ c∈p.changes,c.data.length≤140737488355328:=fun c hc=>(hbc.slice_at hc (c:= .str c.data) (by simp[eChg])).str_len
 refine DU fun b=>?_
 refine Ab (σ:=Nat × Int) (fun k=>k.1≤p.changes.length∧(∀ i (h:i < p.changes.length),i < k.1→fi p.changes[i]=false)∧(p.changes.length≤20→k.2=((p.author.length+p.message.length+((p.changes.take k.1).map IE).sum:Nat):Int))) (fun k=>p.changes.length - k.1) (fun k=> [(1,.raw (.pointer (some ⟨b,0,none⟩))),(3,.raw (.int .i64 k.2)),(4,.raw (.int .i64 k.1))]) (fun _=> .box b 40 (Bn p)::LF) (0,(p.author.length:Int)+(p.message.length:Int)) ⟨by simp,by simp,fun _=>by simp⟩ ⟨rfl,rfl,rfl⟩ (.refl _) ?_
 rintro⟨k,n⟩ ⟨hk,hg,hn⟩
 dsimp only at hk hg hn ⊢
 obtain⟨v,hv⟩: ∃ v,v=Value.int .i64 n:=⟨_,rfl⟩
 rw[←hv]
 refine AZ ?_
 refine A6 (fun hc=>?_) (fun hc=>?_)
 ·have hlt:k < p.changes.length:=by omega
  refine DU fun b2=>?_
  refine BT [(33,.raw (.bool (fi p.changes[k]))),(1,.raw (.pointer (some ⟨b,0,none⟩))),(3,.raw v),(4,.raw (.int .i64 k)),(5,.raw (.pointer (some ⟨b2,0,none⟩)))] (.box b2 73 (eChg p.changes[k]):: .box b 40 (Bn p)::LF) ?_ ?_
  ·repeat' (first|(refine A6 (fun h=>?_) (fun h=>?_)<;>refine AZ ?_)|(refine AX (fun h=>?_) (fun h=>?_)<;>refine AZ ?_)|(refine AW (fun h=>?_) (fun h=>?_)<;>refine AZ ?_)|(refine Ay (fun h=>?_) (fun h=>?_)<;>(have h2:=h;(try simp only[AD,A8,AI,AN]at h2);refine CH ?_)))
   all_goals (refine⟨⟨C9 (by rfl) ?_,rfl,rfl,rfl,rfl⟩,.refl _⟩;simp_all[fi])
  refine AZ ?_
  refine AW (fun h=>?_) (fun h=>?_)
  ·refine AZ ?_
   refine B1 (.of_eq ?_)
   have:p.changes.any fi=true:=by rw[Bw];exact⟨_,AB hlt,h⟩
   rw[GV,this];rfl
  refine AZ ?_
  refine bU (by rfl) (by rfl) hv fun v1 hv1=>?_
  refine CH ?_
  refine bU (by rfl) (by rfl) hv1 fun v2 hv2=>?_
  refine CH ?_
  subst hv2
  refine⟨(k+1,IntKind.i64.wrap (IntKind.i64.wrap (n+(p.changes[k].name.length:Int))+(p.changes[k].data.length:Int))),⟨by dsimp only;omega,fun i hi hik=>?_,fun h20=>?_⟩,by dsimp only;omega,⟨rfl,rfl,rfl⟩,.cons _ (.refl _)⟩
  ·rcases B8 i k with h'|h'
   ·exact hg i hi h'
   ·have:i=k:=by dsimp only at hik;omega
    subst this;exact h
  ·have h1:=hn h20
   have h2:=KA (f:=IE) hlt
   have h3:=hcn _ (AB hlt)
   have h3':=hcd _ (AB hlt)
   have h4:=FF (l:=p.changes.take k) (f:=IE) (B:=281474976710656) fun c hc=>by
    have q1:=hcn c (Et hc)
    have q2:=hcd c (Et hc)
    unfold IE;omega
   have h5:(p.changes.take k).length≤20:=by rw[Aa];omega
   have h6:(p.changes.take k).length*281474976710656≤20*281474976710656:=B6 _ h5
   dsimp only
   have h7:IE p.changes[k]=p.changes[k].name.length+p.changes[k].data.length:=rfl
   rw[IntWalk.i64_in (n+_) (by omega),IntWalk.i64_in _ (by omega),h1,h2];omega
 ·subst hv
  refine AZ ?_
  rw[AF (by omega)]at hn
  have hany:p.changes.any fi=false:=by
   rw[Br];intro c hc'
   obtain⟨i,hi,rfl⟩:=AY.1 hc'
   simp[hg i hi (by omega)]
  have key:GV p=(decide (3000 < n)||decide (20 < (p.deps.length:Int))||decide (20 < (p.changes.length:Int))):=by
   rw[GV,hany,Gd]
   by_cases h20:p.changes.length≤20
   ·rw[hn h20];rfl
   ·have:decide (20 < (p.changes.length:Int))=true:=BF (by omega)
    rw[this,Bool.or_true,Bool.or_true]
  rw[key]
  clear key hany hn hg
  repeat' (first|(refine A6 (fun h=>?_) (fun h=>?_)<;>refine AZ ?_)|(refine AX (fun h=>?_) (fun h=>?_)<;>refine AZ ?_)|(refine AW (fun h=>?_) (fun h=>?_)<;>refine AZ ?_)|(refine Ay (fun h=>?_) (fun h=>?_)<;>(have h2:=h;(try simp only[AD,A8,AI,AN]at h2);refine CH ?_)))
  all_goals (refine B1 (.of_eq ?_);first|(simp_all;done)|grind)⟩
theorem K9 (d:Nat) {s:Str} (h:s.length≤65536):PE (d+1) (Cf s):= .inl ⟨rfl,rfl,h⟩
theorem au (d:Nat) (n:Int):PE (d+1) (GJ n):=by
 unfold GJ Rl
 split
 ·exact .inl ⟨rfl,rfl,by decide⟩
 ·refine K9 d ?_
  have:=Ou (n:=n) ⟨by omega,by omega⟩
  omega
theorem jH (d:Nat) (x:Dig):PE (d+1) (KE x):=by
 unfold KE
 split
 ·exact K9 d (by decide)
 ·exact K9 d (by rw[x.len];decide)
theorem Ml {d:Nat} {l:List Sx} (h: ∀ y∈l,PE d y):PE (d+1) (E6 l):= .inr ⟨rfl,rfl,h⟩
theorem jG (d:Nat) (x:Ident):PE (d+2) (GI x):=Ml fun y hy=>by
 simp only[AH,Ai,or_false]at hy
 rcases hy with rfl|rfl
 ·exact jH d _
 ·exact au d _
theorem nW (d:Nat) (l:List Ident):PE (d+3) (JF l):=Ml fun y hy=>by
 obtain⟨x,_,rfl⟩:=AQ.1 hy
 exact jG d x
theorem XN (d:Nat) (s:Str):Im (d+1) (Cf s)=1:=rfl
theorem U7 (d:Nat) (n:Int):Im (d+1) (GJ n)=1:=by
 unfold GJ Rl
 split<;>rfl
theorem kr (d:Nat) (x:Dig):Im (d+1) (KE x)=1:=by
 unfold KE;split<;>rfl
theorem P0 (d:Nat) (l:List Sx):Im (d+1) (E6 l)=1+(l.map (Im d)).sum:=rfl
theorem XM (d:Nat) (x:Ident):Im (d+2) (GI x)=3:=by
 rw[GI,P0];simp only[Ar,CY,DY,LZ,kr,U7];rfl
theorem pO (d:Nat) (l:List Ident):Im (d+3) (JF l)≤1+l.length*3:=by
 rw[JF,P0,CR]
 have:=FF (l:=l) (f:=Im (d+2) ∘ GI) (B:=3) fun x _=>by simp[XM]
 omega
theorem Ja (d:Nat) {s:Str} (h:s.length≤140737488355328):(Dq (d+1) (Cf s)).length≤16+s.length:=by
 show(IH s.length++58::s).length≤_
 have:=Kc h
 rw[AA,AL];omega
theorem cB (d:Nat) (n:Int):(Dq (d+1) (GJ n)).length≤32:=by
 unfold GJ Rl
 split
 ·exact Cz (Ja d (s:= []) (by decide)) (by decide)
 ·rename_i h
  have h1:=Ou (n:=n) ⟨by omega,by omega⟩
  have h2:=Ja d (s:=JH n) (by omega)
  dsimp only;omega
theorem kz (d:Nat) (x:Dig):(Dq (d+1) (KE x)).length≤48:=by
 unfold KE
 split
 ·exact Cz (Ja d (s:= []) (by decide)) (by decide)
 ·have h:=Ja d (s:=x.bs) (by rw[x.len];decide)
  rw[x.len]at h;exact h
theorem Zy {α β:Type} (l:List α) (f:α→List β):(l.flatMap f).length=(l.map fun a=>(f a).length).sum:=by
 induction l with
 |nil=>rfl
 |cons x l ih=>simp[ih]
theorem NH (d:Nat) (l:List Sx):(Dq (d+1) (E6 l)).length=2+(l.map fun a=>(Dq d a).length).sum:=by
 show(40::(l.flatMap (Dq d)++ [41])).length=_
 rw[AL,AA,Zy,Au];omega
theorem ky (d:Nat) (x:Ident):(Dq (d+2) (GI x)).length≤82:=by
 rw[GI,NH]
 have h1:=kz d x.patch
 have h2:=cB d x.n
 simp only[Ar,CY,DY,LZ];omega
theorem pW (d:Nat) (l:List Ident):(Dq (d+3) (JF l)).length≤2+l.length*82:=by
 rw[JF,NH,CR]
 have:=FF (l:=l) (f:=(fun a=>(Dq (d+2) a).length) ∘ GI) (B:=82) fun x _=>ky d x
 omega
structure WM (c:Chg):Prop where
 lines:c.lines.length≤40
 line: ∀ s∈c.lines,s.length≤3000
 over:c.over.length≤40
 name:c.name.length≤3000
 data:c.data.length≤3000
theorem WJ {c:Chg} {q:Sx→Prop} (h1: ∀ n,q (GJ n)) (h2: ∀ x,q (GI x)) (h3:q (Cf c.name)) (h4:q (Cf c.data)) (h5:q (E6 (c.lines.map Cf))) (h6:q (JF c.over)): ∀ y∈([GJ c.kind]++K5 c++Ie c)++Ky c,q y:=by
 intro y hy
 simp only[Aj,Ah]at hy
 rcases hy with ((rfl|hy)|hy)|hy
 ·exact h1 _
 ·unfold K5 at hy
  split at hy
  ·simp only[Ah]at hy;subst hy;exact h2 _
  ·cases hy
 ·unfold Ie at hy
  repeat' split at hy
  all_goals simp only[AH,Ai,or_false]at hy
  ·subst hy;exact h1 _
  ·rcases hy with rfl|rfl
   ·exact h2 _
   ·exact h3
  ·subst hy;exact h1 _
  ·subst hy;exact h4
  ·rcases hy with rfl|rfl<;>exact h2 _
 ·unfold Ky at hy
  repeat' split at hy
  all_goals simp only[AH,Ai,or_false]at hy
  ·subst hy;exact h5
  ·subst hy;exact h6
theorem qL (c:Chg):(([GJ c.kind]++K5 c++Ie c)++Ky c).length≤5:=by
 have h1:=Ri c
 have h2:=Rh c
 have h3:(Ky c).length≤1:=by unfold Ky;repeat' split
                             all_goals simp
 simp only[AA,Au];omega
theorem sk (d:Nat) {c:Chg} (h:WM c):PE (d+4) (Kr c):=
 Ml (WJ (fun n=>au (d+2) n) (fun x=>jG (d+1) x) (K9 (d+2) (by have:=h.name;omega)) (K9 (d+2) (by have:=h.data;omega))
  (Ml fun y hy=>by
   obtain⟨s,hs,rfl⟩:=AQ.1 hy
   exact K9 (d+1) (by have:=h.line s hs;omega)) (nW d c.over))
theorem ks (d:Nat) (c:Chg):(([GJ c.kind]++K5 c++Ie c).map (Im (d+3))).sum≤12:=by
 have h:=FF (l:= [GJ c.kind]++K5 c++Ie c) (f:=Im (d+3)) (B:=3) fun y hy=>by
  simp only[Aj,Ah]at hy
  rcases hy with (rfl|hy)|hy
  ·rw[U7 (d+2)];decide
  ·unfold K5 at hy
   split at hy
   ·simp only[Ah]at hy;subst hy;rw[XM (d+1)];decide
   ·cases hy
  ·unfold Ie at hy
   repeat' split at hy
   all_goals simp only[AH,Ai,or_false]at hy
   ·subst hy;rw[U7 (d+2)];decide
   ·rcases hy with rfl|rfl
    ·rw[XM (d+1)];decide
    ·rw[XN (d+2)];decide
   ·subst hy;rw[U7 (d+2)];decide
   ·subst hy;rw[XN (d+2)];decide
   ·rcases hy with rfl|rfl<;>(rw[XM (d+1)];decide)
 have h1:=Ri c
 have h2:=Rh c
 simp only[AA,Au]at h
 omega
theorem pQ (d:Nat) (c:Chg):((Ky c).map (Im (d+3))).sum≤3*KF c:=by
 unfold Ky KF
 repeat' split
 ·simp only[Ar,CY,DY,LZ]
  rw[P0 (d+2),CR]
  have:=FF (l:=c.lines) (f:=Im (d+2) ∘ Cf) (B:=1) fun s _=>Ak _
  omega
 ·simp only[Ar,CY,DY,LZ]
  have:=pO d c.over
  omega
 ·simp
theorem uC (d:Nat) (c:Chg):Im (d+4) (Kr c)≤13+3*KF c:=by
 rw[Kr,P0,Aq,GM]
 have h1:=ks d c
 have h2:=pQ d c
 omega
theorem YK {α:Type} {l:List α} {f g:α→Nat} {a b:Nat} (h: ∀ s∈l,f s≤a+b*g s):(l.map f).sum≤l.length*a+b*(l.map g).sum:=by
 induction l with
 |nil=>simp
 |cons x l ih=>
  have h1:=h x (by simp)
  have h2:=ih fun s hs=>h s (by simp[hs])
  simp only[Ar,DY,AL,C7,Nat.mul_add];omega
theorem uH (d:Nat) {c:Chg} (h:WM c):(Dq (d+4) (Kr c)).length≤650000:=by
 rw[Kr,NH]
 have h1:=FF (f:=fun y=>(Dq (d+3) y).length) (B:=121000) (WJ (c:=c) (q:=fun y=>(Dq (d+3) y).length≤121000) (fun n=>Cz (cB (d+2) n) (by decide)) (fun x=>Cz (ky (d+1) x) (by decide))
  (Cz (Ja (d+2) (s:=c.name) (by have:=h.name;omega)) (by have:=h.name;omega)) (Cz (Ja (d+2) (s:=c.data) (by have:=h.data;omega)) (by have:=h.data;omega))
  (by
   rw[NH (d+2),CR]
   have:=FF (l:=c.lines) (f:=(fun a=>(Dq (d+2) a).length) ∘ Cf) (B:=3016) fun s hs=>by
    have h3:=h.line s hs
    exact Cz (Ja (d+1) (s:=s) (by omega)) (by omega)
   have:=h.lines;omega)
  (by have:=pW d c.over;have:=h.over;omega))
 have h2:=B6 121000 (qL c)
 omega
theorem JT {α:Type} {l:List α} {f:α→Nat} {a:α} (h:a∈l):f a≤(l.map f).sum:=by
 induction l with
 |nil=>cases h
 |cons x l ih=>
  simp only[Ar,DY]
  rcases AH.1 h with rfl|h
  ·omega
  ·have:=ih h;omega
theorem OE {p:Pat} (h:GV p=false):p.author.length≤3000∧p.message.length≤3000∧p.deps.length≤20∧p.changes.length≤20∧ ∀ c∈p.changes,WM c:=by
 unfold GV at h
 simp only[Cr,A8,Br]at h
 obtain⟨⟨⟨h1,h2⟩,h3⟩,h4⟩:=h
 have ht:XB p=p.author.length+p.message.length+(p.changes.map IE).sum:=rfl
 refine⟨by omega,by omega,by omega,by omega,fun c hc=>?_⟩
 have h5:=h1 c hc
 simp only[fi,vh,Jv,Cr,A8]at h5
 obtain⟨⟨h6,h7⟩,h8⟩:=h5
 have h9:=JT (f:=IE) hc
 have h10:IE c=c.name.length+c.data.length:=rfl
 refine⟨by omega,fun s hs=>?_,by omega,by omega,by omega⟩
 have:=JT (f:=List.length) hs
 unfold LK at h7
 omega
theorem Xy {p:Pat} (h:GV p=false):E7 p=false:=by
 obtain⟨h1,h2,h3,h4,h5⟩:=OE h
 have hs:=FF (l:=p.changes) (f:=KF) (B:=81) fun c hc=>by have a:=(h5 c hc).lines;have b:=(h5 c hc).over;unfold KF;omega
 unfold GV at h
 unfold E7
 simp only[Cr,A8,Br]at h ⊢
 obtain⟨⟨⟨g1,g2⟩,g3⟩,g4⟩:=h
 refine⟨⟨⟨⟨fun c hc=>?_,by omega⟩,by omega⟩,by omega⟩,by omega⟩
 have k1:=g1 c hc
 have k2: ¬3000 < (IE c:Int):=by
  have:=JT (f:=IE) hc
  have ht:XB p=p.author.length+p.message.length+(p.changes.map IE).sum:=rfl
  omega
 simp only[Jv]at k1
 simp[k1,k2]
theorem EW {p:Pat} (h:E7 p=false):p.author.length≤30000∧p.message.length≤30000∧p.deps.length≤200∧p.changes.length≤200∧ ∀ c∈p.changes,WM c:=by
 unfold E7 at h
 simp only[Cr,A8,Br]at h
 obtain⟨⟨⟨⟨h1,h2⟩,h3⟩,h4⟩,_⟩:=h
 have ht:XB p=p.author.length+p.message.length+(p.changes.map IE).sum:=rfl
 refine⟨by omega,by omega,by omega,by omega,fun c hc=>?_⟩
 have h5:=h1 c hc
 simp only[fi,vh,Jv,Cr,A8]at h5
 obtain⟨⟨⟨h6,h7⟩,h8⟩,h9⟩:=h5
 have h10:IE c=c.name.length+c.data.length:=rfl
 refine⟨by omega,fun s hs=>?_,by omega,by omega,by omega⟩
 have:=JT (f:=List.length) hs
 unfold LK at h7
 omega
theorem qT {p:Pat} (h:E7 p=false):(p.changes.map KF).sum≤2000:=by
 unfold E7 at h
 simp only[Cr,A8]at h
 omega
theorem OM {p:Pat} (h:E7 p=false):WI p:=by
 obtain⟨h1,h2,h3,h4,h5⟩:=EW h
 have hsum:=qT h
 refine⟨by omega,by omega,fun c hc=>⟨by have:=(h5 c hc).lines;omega,by have:=(h5 c hc).over;omega⟩,⟨?_,?_⟩,?_⟩
 ·refine Ml (d:=7) fun y hy=>?_
  simp only[AH,Ai,or_false]at hy
  rcases hy with rfl|rfl|rfl|rfl|rfl|rfl
  ·exact K9 6 (by decide)
  ·exact K9 6 (by omega)
  ·exact K9 6 (by omega)
  ·exact au 6 _
  ·exact Ml fun y hy=>by obtain⟨x,_,rfl⟩:=AQ.1 hy;exact jH 5 x
  ·exact Ml fun y hy=>by obtain⟨x,hx,rfl⟩:=AQ.1 hy;exact sk 2 (h5 x hx)
 ·rw[XA,P0 7]
  simp only[Ar,CY,DY,LZ,XN 6,U7 6,P0 6,CR]
  have e1:=FF (l:=p.deps) (f:=Im 6 ∘ KE) (B:=1) fun x _=>EF (kr 5 x)
  have e2:=YK (l:=p.changes) (f:=Im 6 ∘ Kr) (g:=KF) (a:=13) (b:=3) fun x _=>uC 2 x
  have e3:=B6 13 h4
  omega
 ·rw[Nk,XA,NH 7]
  simp only[Ar,CY,DY,LZ]
  have e0:(Dq 7 (Cf [113,117,105,108,116,49])).length≤22:=Ja 6 (s:= [113,117,105,108,116,49]) (by decide)
  have e1:(Dq 7 (Cf p.author)).length≤16+p.author.length:=Ja 6 (s:=p.author) (by omega)
  have e2:(Dq 7 (Cf p.message)).length≤16+p.message.length:=Ja 6 (s:=p.message) (by omega)
  have e3:(Dq 7 (GJ p.time)).length≤32:=cB 6 p.time
  have e8:(Dq 7 (E6 (p.deps.map KE))).length=2+((p.deps.map KE).map fun a=>(Dq 6 a).length).sum:=NH 6 _
  have e9:(Dq 7 (E6 (p.changes.map Kr))).length=2+((p.changes.map Kr).map fun a=>(Dq 6 a).length).sum:=NH 6 _
  rw[CR]at e8 e9
  have e4:=FF (l:=p.deps) (f:=(fun a=>(Dq 6 a).length) ∘ KE) (B:=48) fun x _=>kz 5 x
  have e5:=FF (l:=p.changes) (f:=(fun a=>(Dq 6 a).length) ∘ Kr) (B:=650000) fun x hx=>uH 2 (h5 x hx)
  have e6:=B6 650000 h4
  have e7:=B6 48 h3
  omega
def CV (p:Pat):Str × Int:=if(CA p).2≠0 then([],(CA p).2)else KG p
theorem Qi (p:Pat):(CV p).1.length≤65536:=by
 unfold CV KG
 split
 ·simp
 ·split
  ·simp
  ·dsimp only;omega
instance vL (p:Pat) [hs:B0 (E7 p=false)]:C8 Tryz.prog 55 [.agg (Bn p)] (.tuple [.str (CV p).1,.raw (.int .i64 (CV p).2)]):=⟨by
 have i1:B0 (WI p):=⟨OM hs.out⟩
 refine Av Tryz.func55 Tryz.ntmps55 rfl (rs:= [.tmp 2,.tmp 3]) rfl rfl fun hb LF=>?_
 refine DU fun b=>?_
 refine AX (fun h=>?_) (fun h=>?_)
 ·refine AZ ?_
  refine HT ?_
  rw[CV,if_pos h]
  exact .refl _
 ·refine AZ ?_
  refine HT ?_
  rw[CV,if_neg (by simp[h])]
  exact .refl _⟩
instance wT (p:Pat) [hs:B0 (E7 p=false)]:C8 Tryz.prog 19 [.agg (Bn p)] (.raw (.int .i64 (CV p).2)):=⟨by
 refine Av Tryz.func19 Tryz.ntmps19 rfl (rs:= [.tmp 2]) rfl rfl fun hb LF=>?_
 refine DU fun b=>?_
 exact B1 (.refl _)⟩
def Ej (p:Pat):Dig × Int:=if(CV p).2≠0 then(Dig.zero,(CV p).2)else(fh (CV p).1,0)
instance A09 (p:Pat) [hs:B0 (E7 p=false)]:C8 Tryz.prog 86 [.agg (Bn p)] (.tuple [.agg (eDig (Ej p).1),.raw (.int .i64 (Ej p).2)]):=⟨by
 have i1:B0 ((CV p).1.length≤1000000):=⟨by have:=Qi p;omega⟩
 refine Av Tryz.func86 Tryz.ntmps86 rfl (rs:= [.cell 2 31,.tmp 3]) rfl rfl fun hb LF=>?_
 refine DU fun b=>?_
 refine Fq fun b2=>?_
 refine AX (fun h=>?_) (fun h=>?_)
 ·refine AZ ?_
  refine Jq rfl (.of_eq ?_)
  rw[Ej,if_pos h]
 ·refine AZ ?_
  refine Jq rfl (.of_eq ?_)
  rw[Ej,if_neg (by simp[h])]⟩
end Go.Proofs
namespace Go.Q
open Go
structure vE {α β:Type} (B:α→β→Prop):Prop where
 out: ∀ a b,B a b
section
variable {P:Program} {N:Nat} {all:Array Oper} {K:Env→List Res→Prop} {fl:List Bool} {os:List Oper} {ρ:Env} {L:List Res} {Q:PPost} {c:Code} {d:Nat} {ty:TypeId} {pos:String} {af:Array Edge}
theorem tR {T sz by_:Nat} [hE:Gf P T sz by_] {x0 x1 x2 x3:Operand} {a0 a1 a2 a3:PV} {α:Type} {f:α→List PV} {e0 e1 e2 e3:α} (q0:ρ.ev x0=a0) (q1:ρ.ev x1=a1) (q2:ρ.ev x2=a2) (q3:ρ.ev x3=a3) [hC0:GP a0 f e0] [hC1:GP a1 f e1] [hC2:GP a2 f e2] [hC3:GP a3 f e3] [hf:NS f sz] (h24:4*sz≤16777216)
  (k: ∀ t,AU P N all K fl.tail os (CU ρ d (.slice ([e0,e1,e2,e3].map f) t)) (.tok t [e0,e1,e2,e3].length sz::L)) (hd:Nat.blt d N=true:=by rfl) (hfl:fl.headD true=true:=by rfl):AU P N all K fl (⟨some d,.buildSlice T 4 #[(0,x0),(1,x1),(2,x2),(3,x3)],ty,pos,af,none⟩::os) ρ L:=
 Dd rfl (Ph hd) hfl (dx (n:=4) (xs:= [x0,x1,x2,x3]) (cs:= [e0,e1,e2,e3].map f) rfl rfl h24 (by decide) (fun i h1 h2=>by
  match i,h1,h2 with
  |0,_,_=>exact⟨q0 ▸ hC0.out,hf.out e0⟩
  |1,_,_=>exact⟨q1 ▸ hC1.out,hf.out e1⟩
  |2,_,_=>exact⟨q2 ▸ hC2.out,hf.out e2⟩
  |3,_,_=>exact⟨q3 ▸ hC3.out,hf.out e3⟩
  |m+4,h1,_=>exact absurd h1 (by simp only[AL,Af];omega)) k)
theorem nX {A:Prop} {B:Nat→CC→Prop} (k: ∀ b t,B b t) (h:vE B→A:=by
  intro hB
  refine jI ?_
  first|refine Yk (by rfl) fun b=>?_|refine Bx fun b=>?_
  refine jI ?_
  refine tR (by(conv=>lhs;whnf);done) (by(conv=>lhs;whnf);done) (by(conv=>lhs;whnf);done) (by(conv=>lhs;whnf);done) (hC0:=(by first|infer_instance|fail)) (hC1:=(by first|infer_instance|fail)) (hC2:=(by first|infer_instance|fail)) (hC3:=(by first|infer_instance|fail)) (hf:=(by first|infer_instance|fail)) (by decide) fun t=>?_
  refine AZ ?_
  exact hB.out b t):A:=h ⟨k⟩
end
def HB (l:List Dig):Prop:=l.Pairwise Dig.lt
theorem HB.nil:HB []:=List.Pairwise.nil
theorem HB.nodup {l:List Dig} (h:HB l):l.Nodup:=List.Pairwise.imp (fun h=>Dig.ne_of_lt h) h
theorem KV {x d:Dig}: ∀ {l:List Dig},x∈FX l d↔x=d∨x∈l
 | []=>by simp[FX]
 |y::l=>by
  unfold FX
  split
  ·simp only[AH,KV (l:=l)]
   constructor
   ·rintro(h|h|h)
    ·exact .inr (.inl h)
    ·exact .inl h
    ·exact .inr (.inr h)
   ·rintro(h|h|h)
    ·exact .inr (.inl h)
    ·exact .inl h
    ·exact .inr (.inr h)
  ·split
   ·rename_i h;subst h
    simp only[AH]
    constructor
    ·exact .inr
    ·rintro(h|h)
     ·exact .inl h
     ·exact h
   ·simp only[AH]
theorem Lk {d:Dig}: ∀ {l:List Dig},HB l→HB (FX l d)
 | [],_=>by unfold FX;exact GG _ _
 |y::l,h=>by
  obtain⟨h1,h2⟩:=Bq.1 h
  unfold FX
  split
  ·rename_i hy
   refine Bq.2 ⟨fun z hz=>?_,Lk h2⟩
   rcases KV.1 hz with rfl|hz
   ·exact hy
   ·exact h1 z hz
  ·rename_i hy
   split
   ·exact h
   ·rename_i hne
    have hlt:Dig.lt d y:=by
     rcases Dig.tri d y with h'|h'|h'
     ·exact h'
     ·exact absurd h'.symm hne
     ·exact absurd h' hy
    refine Bq.2 ⟨fun z hz=>?_,h⟩
    rcases AH.1 hz with rfl|hz
    ·exact hlt
    ·exact Dig.lt_trans hlt (h1 z hz)
theorem fE {l:List Dig} {d:Dig}:(FX l d).length≤l.length+1:=by
 induction l with
 |nil=>simp[FX]
 |cons y l ih=>
  unfold FX
  split
  ·simp only[AL];omega
  ·split<;>simp only[AL]<;>omega
theorem HB.ext: ∀ {l m:List Dig},HB l→HB m→(∀ d,d∈l↔d∈m)→l=m
 | [],[],_,_,_=>rfl
 | [],y::m,_,_,h=>absurd ((h y).2 (by simp)) (by simp)
 |x::l,[],_,_,h=>absurd ((h x).1 (by simp)) (by simp)
 |x::l,y::m,hl,hm,h=>by
  obtain⟨l1,l2⟩:=Bq.1 hl
  obtain⟨m1,m2⟩:=Bq.1 hm
  have e:x=y:=by
   rcases AH.1 ((h x).1 (by simp))with h1|h1
   ·exact h1
   ·rcases AH.1 ((h y).2 (by simp))with h2|h2
    ·exact h2.symm
    ·exact absurd (l1 y h2) (Dig.lt_asymm (m1 x h1))
  subst e
  congr 1
  refine HB.ext l2 m2 fun d=>?_
  have hd:=h d
  simp only[AH]at hd
  constructor
  ·intro h1
   rcases hd.1 (.inr h1)with h2|h2
   ·subst h2;exact absurd (l1 _ h1) (Dig.lt_irrefl _)
   ·exact h2
  ·intro h1
   rcases hd.2 (.inr h1)with h2|h2
   ·subst h2;exact absurd (m1 _ h1) (Dig.lt_irrefl _)
   ·exact h2
def Di (l m:List Dig):List Dig:=m.foldl FX l
theorem HR {x:Dig}: ∀ {m l:List Dig},x∈Di l m↔x∈l∨x∈m
 | [],l=>by simp[Di]
 |d::m,l=>by
  show x∈Di (FX l d) m↔_
  rw[HR,KV,AH]
  constructor
  ·rintro((h|h)|h)
   ·exact .inr (.inl h)
   ·exact .inl h
   ·exact .inr (.inr h)
  ·rintro(h|h|h)
   ·exact .inl (.inr h)
   ·exact .inl (.inl h)
   ·exact .inr h
theorem GB: ∀ {m l:List Dig},HB l→HB (Di l m)
 | [],_,h=>h
 |d::m,l,h=>by show HB (Di (FX l d) m);exact GB (Lk h)
theorem Nt: ∀ {m l:List Dig},(Di l m).length≤l.length+m.length
 | [],_=>by simp[Di]
 |d::m,l=>by
  show(Di (FX l d) m).length≤_
  have h1:=Nt (m:=m) (l:=FX l d)
  have h2:=fE (l:=l) (d:=d)
  simp only[AL];omega
theorem El {α:Type} [DecidableEq α] {l:List α} (hl:l.Nodup) {m:List α} (h: ∀ d∈l,d∈m):l.length≤m.length:=by
 induction l generalizing m with
 |nil=>simp
 |cons x l ih=>
  obtain⟨h1,h2⟩:=Bo.1 hl
  have hx:x∈m:=h x (by simp)
  have:=ih h2 (m:=m.erase x) fun d hd=>by
   have hne:d≠x:=fun e=>h1 (e ▸ hd)
   exact(List.mem_erase_of_ne hne).2 (h d (by simp[hd]))
  rw[List.length_erase_of_mem hx]at this
  have hp:0 < m.length:=List.length_pos_of_mem hx
  simp only[AL];omega
def Pv (nd:Dig→List Dig) (out:List Dig):List Dig:=out.foldl (fun m x=>Di m (nd x)) out
def MN (nd:Dig→List Dig):Nat→List Dig→List Dig
 |0,out=>out
 |n+1,out=>MN nd n (Pv nd out)
inductive Reach (nd:Dig→List Dig) (ids:List Dig):Dig→Prop
 |base {d:Dig} (h:d∈ids):Reach nd ids d
 |step {x d:Dig} (h:Reach nd ids x) (hd:d∈nd x):Reach nd ids d
section
variable {nd:Dig→List Dig}
theorem Vx {y:Dig}: ∀ {l m:List Dig},y∈l.foldl (fun m x=>Di m (nd x)) m↔y∈m∨ ∃ x∈l,y∈nd x
 | [],m=>by simp
 |x::l,m=>by
  rw[Bp,Vx,HR]
  simp only[AH,exists_eq_or_imp]
  rw[or_assoc]
theorem WA: ∀ {l m:List Dig},HB m→HB (l.foldl (fun m x=>Di m (nd x)) m)
 | [],_,h=>h
 |x::l,m,h=>by rw[Bp];exact WA (GB h)
theorem JU {y:Dig} {out:List Dig}:y∈Pv nd out↔y∈out∨ ∃ x∈out,y∈nd x:=Vx
theorem Ps {out:List Dig} (h:HB out):HB (Pv nd out):=WA h
theorem P4: ∀ {n:Nat} {out:List Dig},HB out→HB (MN nd n out)
 |0,_,h=>h
 |n+1,_,h=>P4 (n:=n) (Ps h)
theorem Sa {ids:List Dig}: ∀ {n:Nat} {out:List Dig},(∀ d∈out,Reach nd ids d)→ ∀ d∈MN nd n out,Reach nd ids d
 |0,_,h=>h
 |n+1,out,h=>Sa (n:=n) fun d hd=>by
  rcases JU.1 hd with h1|⟨x,hx,h1⟩
  ·exact h d h1
  ·exact .step (h x hx) h1
theorem Zf {U:List Dig} (hU: ∀ x∈U,∀ d∈nd x,d∈U): ∀ {n:Nat} {out:List Dig},(∀ d∈out,d∈U)→ ∀ d∈MN nd n out,d∈U
 |0,_,h=>h
 |n+1,out,h=>Zf hU (n:=n) fun d hd=>by
  rcases JU.1 hd with h1|⟨x,hx,h1⟩
  ·exact h d h1
  ·exact hU x (h x hx) d h1
theorem W3: ∀ {n:Nat} {out:List Dig} {d:Dig},d∈out→d∈MN nd n out
 |0,_,_,h=>h
 |n+1,_,_,h=>W3 (n:=n) (JU.2 (.inl h))
theorem Qw {U:List Dig} (hU: ∀ x∈U,∀ d∈nd x,d∈U): ∀ {n:Nat} {out:List Dig},HB out→(∀ d∈out,d∈U)→U.length+1≤out.length+n∨out= []∨(∀ x∈out,∀ d∈nd x,d∈out)→ ∀ x∈MN nd n out,∀ d∈nd x,d∈MN nd n out
 |0,out,ha,hu,h=>by
  rcases h with h|h|h
  ·have:=El ha.nodup hu
   omega
  ·subst h;intro x hx;cases hx
  ·exact h
 |n+1,out,ha,hu,h=>by
  have hu': ∀ d∈Pv nd out,d∈U:=Zf hU (n:=1) hu
  refine Qw hU (n:=n) (Ps ha) hu' ?_
  by_cases hc: ∀ x∈out,∀ d∈nd x,d∈out
  ·refine .inr (.inr ?_)
   have e:Pv nd out=out:=HB.ext (Ps ha) ha fun d=>by
    rw[JU]
    constructor
    ·rintro(h1|⟨x,hx,h1⟩)
     ·exact h1
     ·exact hc x hx d h1
    ·exact .inl
   rw[e];exact hc
  ·rcases h with h|h|h
   ·refine .inl ?_
    have:out.length+1≤(Pv nd out).length:=by
     have⟨x,hx⟩:=Classical.not_forall.1 hc
     have⟨hx1,hx2⟩:=Classical.not_imp.1 hx
     have⟨d,hd⟩:=Classical.not_forall.1 hx2
     have⟨hd1,hd2⟩:=Classical.not_imp.1 hd
     have hn:(d::out).Nodup:=Bo.2 ⟨hd2,ha.nodup⟩
     have:=El hn (m:=Pv nd out) fun y hy=>by
      rcases AH.1 hy with rfl|hy
      ·exact JU.2 (.inr ⟨x,hx1,hd1⟩)
      ·exact JU.2 (.inl hy)
     simpa using this
    omega
   ·subst h
    exact absurd (fun x hx=>by cases hx) hc
   ·exact absurd h hc
theorem MJ {U ids:List Dig} (hU: ∀ x∈U,∀ d∈nd x,d∈U) (hi: ∀ d∈ids,d∈U) {n:Nat} (hn:U.length≤n) {d:Dig}:d∈MN nd n (Di [] ids)↔Reach nd ids d:=by
 have hin: ∀ d∈Di [] ids,d∈U:=fun d hd=>by
  rcases HR.1 hd with h|h
  ·cases h
  ·exact hi d h
 refine⟨fun h=>Sa (fun d hd=>?_) d h,fun h=>?_⟩
 ·rcases HR.1 hd with h|h
  ·cases h
  ·exact .base h
 ·have ha:HB (Di [] ids):=GB .nil
  have hcl:=Qw (nd:=nd) hU (n:=n) ha hin (by
   cases hw:Di [] ids with
   |nil=>exact .inr (.inl rfl)
   |cons x l=>exact .inl (by simp;omega))
  induction h with
  |base h=>exact W3 (HR.2 (.inr h))
  |step h hd ih=>exact hcl _ ih _ hd
theorem Reach.in_ {U ids:List Dig} (hU: ∀ x∈U,∀ d∈nd x,d∈U) (hi: ∀ d∈ids,d∈U) {d:Dig} (h:Reach nd ids d):d∈U:=by
 induction h with
 |base h=>exact hi _ h
 |step h hd ih=>exact hU _ ih _ hd
end
section
variable (clo:Dig→List Dig)
end
end Go.Q
namespace Go.Proofs
open Go Go.Q
attribute [local irreducible] ER AU BA Fk
def Ks (c:Chg):List Ident:= [c.file,c.parent,c.after,c.before]++c.over
def Fe (l:List Ident):List Dig:=(l.filter fun x=>!decide (x.patch=Dig.zero)).map (·.patch)
def Ot (m:List Dig) (c:Chg):List Dig:=Di m (Fe (Ks c))
def B7 (p:Pat):List Dig:=if(CV p).2≠0 then []else p.changes.foldl Ot (Di [] p.deps)
theorem QO (l m:List Dig) (d:Dig):Di l (m++ [d])=FX (Di l m) d:=by
 unfold Di;rw[BX];rfl
theorem XD (l:List Ident):(Fe l).length≤l.length:=by
 unfold Fe;rw[AR];exact Eb _ _
theorem V7 {l:List Ident} {k:Nat} (h:k < l.length):Fe (l.take (k+1))=Fe (l.take k)++(if l[k].patch=Dig.zero then []else [l[k].patch]):=by
 unfold Fe
 rw[A7 h,Eo,Aq]
 by_cases hz:l[k].patch=Dig.zero<;>simp[hz]
instance yR (p:Pat) [hs:B0 (E7 p=false)]:C8 Tryz.prog 69 [.agg (Bn p)] (.slice ((B7 p).map eDig) .ro):=⟨by
 obtain⟨_,_,hd,hch,hcs⟩:=EW hs.out
 refine Av Tryz.func69 Tryz.ntmps69 rfl (rs:= [.tmp 2]) rfl rfl fun hb LF=>?_
 refine DU fun b=>?_
 refine AX (fun h=>?_) (fun h=>?_)
 ·refine AZ ?_
  refine B1 ?_
  rw[B7,if_pos h]
  exact .ro _ _
 rw[B7,if_neg (by simp[h])]
 refine AZ ?_
 refine Ab (σ:=Nat × List Dig × CC) (fun k=>k.1≤p.deps.length∧k.2.1=Di [] (p.deps.take k.1)) (fun k=>p.deps.length - k.1) (fun k=> [(1,.raw (.pointer (some ⟨b,0,none⟩))),(3,.slice (k.2.1.map eDig) k.2.2),(4,.raw (.int .i64 k.1))]) (fun _=> .box b 40 (Bn p)::LF) (0,[],.nil) ⟨by simp,by simp[Di]⟩ ⟨rfl,rfl,rfl⟩ (.refl _) ?_
 rintro⟨k,out,t⟩ ⟨hk,ho⟩
 dsimp only at hk ho ⊢
 have hol:out.length≤200:=by
  rw[ho]
  have:=Nt (m:=p.deps.take k) (l:= [])
  simp only[Aa,Af]at this;omega
 refine AZ ?_
 refine A6 (fun hc=>?_) (fun hc=>?_)
 ·have hlt:k < p.deps.length:=by omega
  have:B0 (out.length≤1000000):=⟨by omega⟩
  refine AZ ?_
  refine⟨(k+1,FX out p.deps[k],.ro),⟨by dsimp only;omega,by dsimp only;rw[A7 hlt,QO,ho]⟩,by dsimp only;omega,⟨rfl,rfl,rfl⟩,.refl _⟩
 rw[AF (by omega)]at ho
 refine AZ ?_
 refine Ab (σ:=Nat × List Dig × CC) (fun k=>k.1≤p.changes.length∧k.2.1.length≤200+k.1*44∧k.2.1=(p.changes.take k.1).foldl Ot (Di [] p.deps)) (fun k=>p.changes.length - k.1) (fun k=> [(1,.raw (.pointer (some ⟨b,0,none⟩))),(3,.slice (k.2.1.map eDig) k.2.2),(5,.raw (.int .i64 k.1))]) (fun _=> .box b 40 (Bn p)::LF) (0,out,t) ⟨by simp,by simp;omega,by simp[ho]⟩ ⟨rfl,rfl,rfl⟩ (.refl _) ?_
 clear ho hol hk hc k out t
 rintro⟨k,out,t⟩ ⟨hk,hol,ho⟩
 dsimp only at hk hol ho ⊢
 refine AZ ?_
 refine A6 (fun hc=>?_) (fun hc=>?_)
 ·have hlt:k < p.changes.length:=by omega
  have hov:=(hcs _ (AB hlt)).over
  refine nX fun b2 t2=>?_
  refine IW fun t3=>?_
  generalize hl: [p.changes[k].file,p.changes[k].parent,p.changes[k].after,p.changes[k].before]++p.changes[k].over=l
  have hll:l.length≤44:=by rw[←hl];simp only[AA,AL,Af];omega
  refine Ab (σ:=Nat × List Dig × CC) (fun j=>j.1≤l.length∧j.2.1=Di out (Fe (l.take j.1))) (fun j=>l.length - j.1) (fun j=> [(1,.raw (.pointer (some ⟨b,0,none⟩))),(3,.slice (j.2.1.map eDig) j.2.2),(5,.raw (.int .i64 k)),(7,.slice (l.map eIdent) t3),(8,.raw (.int .i64 j.1))]) (fun _=> .box b 40 (Bn p)::LF) (0,out,t) ⟨by simp,by simp[Fe,Di]⟩ ⟨rfl,rfl,rfl,rfl,rfl⟩ (.cons _ (.cons _ (.refl _))) ?_
  rintro⟨j,m,u⟩ ⟨hj,hm⟩
  dsimp only at hj hm ⊢
  have hml:m.length≤200+k*44+44:=by
   rw[hm]
   have h1:=Nt (m:=Fe (l.take j)) (l:=out)
   have h2:=XD (l.take j)
   have h3:(l.take j).length≤44:=by rw[Aa];omega
   omega
  refine AZ ?_
  refine A6 (fun hc2=>?_) (fun hc2=>?_)
  ·have hlt2:j < l.length:=by omega
   have e:=V7 hlt2
   refine AZ ?_
   refine AX (fun hz=>?_) (fun hz=>?_)
   ·have:B0 (m.length≤1000000):=⟨by omega⟩
    refine AZ ?_
    rw[if_neg hz]at e
    refine⟨(j+1,FX m l[j].patch,.ro),⟨by dsimp only;omega,by dsimp only;rw[e,QO,hm]⟩,by dsimp only;omega,⟨rfl,rfl,rfl,rfl,rfl⟩,.refl _⟩
   ·refine AZ ?_
    rw[if_pos hz,BW]at e
    refine⟨(j+1,m,u),⟨by dsimp only;omega,by dsimp only;rw[e,hm]⟩,by dsimp only;omega,⟨rfl,rfl,rfl,rfl,rfl⟩,.refl _⟩
  ·refine AZ ?_
   rw[AF (by omega)]at hm
   have e:(p.changes.take (k+1)).foldl Ot (Di [] p.deps)=m:=by
    rw[A7 hlt,BX,←ho,hm,←hl];rfl
   refine⟨(k+1,m,u),⟨by dsimp only;omega,by dsimp only;omega,e.symm⟩,by dsimp only;omega,⟨rfl,rfl,rfl⟩,.refl _⟩
 ·refine AZ ?_
  refine B1 ?_
  rw[AF (by omega)]at ho
  rw[←ho]
  exact .ro _ _⟩
def xN (x:Sto):Nat:=(x.patch.changes.map KF).sum
def GQ (s:List Sto):Bool:=(s.take 9).any (fun x=>GV x.patch)||decide (8 < (s.length:Int))||decide (300 < (((s.take 9).map xN).sum:Int))
theorem oO {c:Chg} (h:WM c):KF c≤81:=by have:=h.lines;have:=h.over;unfold KF;omega
instance yS (s:List Sto) (t:CC):C8 Tryz.prog 85 [.slice (s.map eSto) t,.raw (.int .i64 8)] (.raw (.bool (GQ s))):=⟨by
 refine Av Tryz.func85 Tryz.ntmps85 rfl (rs:= [.tmp 4]) rfl rfl fun hb LF=>?_
 have hlen:s.length≤140737488355328:=(hb (.slice (s.map eSto) t) (by simp)).slice_map
 refine AZ ?_
 refine Ab (σ:=Nat × Nat) (fun k=>k.1≤s.length∧k.1≤9∧(∀ i (h:i < s.length),i < k.1→GV s[i].patch=false)∧k.2≤k.1*1620∧k.2=((s.take k.1).map xN).sum) (fun k=>s.length - k.1) (fun k=> [(0,.slice (s.map eSto) t),(1,.raw (.int .i64 8)),(5,.raw (.int .i64 (k.2:Int))),(6,.raw (.int .i64 (k.1:Int)))]) (fun _=>LF) (0,0) ⟨by simp,by simp,by simp,by simp,by simp⟩ ⟨rfl,rfl,rfl,rfl⟩ (.refl _) ?_
 rintro⟨i,n⟩ ⟨hi,hi9,hg,hn,hs⟩
 dsimp only at hi hi9 hg hn hs ⊢
 have fin:(i:Int) < s.length∧(i:Int)≤8∨ ¬((i:Int) < s.length∧(i:Int)≤8):=Classical.em _
 refine AZ ?_
 refine BT [(16,.raw (.bool (decide ((i:Int) < s.length∧(i:Int)≤8)))),(0,.slice (s.map eSto) t),(1,.raw (.int .i64 8)),(5,.raw (.int .i64 (n:Int))),(6,.raw (.int .i64 (i:Int)))] (LF) ?_ ?_
 ·repeat' (first|(refine A6 (fun h=>?_) (fun h=>?_)<;>refine AZ ?_)|(refine AX (fun h=>?_) (fun h=>?_)<;>refine AZ ?_)|(refine AW (fun h=>?_) (fun h=>?_)<;>refine AZ ?_)|(refine Ay (fun h=>?_) (fun h=>?_)<;>(have h2:=h;(try simp only[AD,A8,AI,AN]at h2);refine CH ?_)))
  all_goals (refine⟨⟨C9 (by rfl) ?_,rfl,rfl,rfl,rfl⟩,.refl _⟩;first|(simp_all;done)|(simp_all;omega)|grind)
 refine AZ ?_
 clear fin
 refine A6 (fun hc=>?_) (fun hc=>?_)
 ·have hlt:i < s.length:=by omega
  refine AZ ?_
  refine AW (fun h=>?_) (fun h=>?_)
  ·refine AZ ?_
   refine B1 (.of_eq ?_)
   have:(s.take 9).any (fun x=>GV x.patch)=true:=by
    rw[Bw]
    exact⟨s[i],AY.2 ⟨i,by rw[Aa];omega,by simp⟩,h⟩
   rw[GQ,this];rfl
  obtain⟨_,_,_,hch,hcs⟩:=OE h
  refine AZ ?_
  refine Ab (σ:=Nat × Nat) (fun j=>j.1≤s[i].patch.changes.length∧j.2≤n+j.1*81∧j.2=n+((s[i].patch.changes.take j.1).map KF).sum) (fun j=>s[i].patch.changes.length - j.1) (fun j=> [(0,.slice (s.map eSto) t),(1,.raw (.int .i64 8)),(5,.raw (.int .i64 (j.2:Int))),(6,.raw (.int .i64 (i:Int))),(7,.raw (.int .i64 (j.1:Int)))]) (fun _=>LF) (0,n) ⟨by simp,by simp,by simp⟩ ⟨rfl,rfl,rfl,rfl,rfl⟩ (.refl _) ?_
  rintro⟨j,m⟩ ⟨hj,hm,hms⟩
  dsimp only at hj hm hms ⊢
  refine AZ ?_
  refine A6 (fun hc2=>?_) (fun hc2=>?_)
  ·have hlt2:j < s[i].patch.changes.length:=by omega
   have hco:=hcs _ (AB hlt2)
   have h81:=oO hco
   have hl40:=hco.lines
   have ho40:=hco.over
   have e:=KA (f:=KF) hlt2
   have e2:KF s[i].patch.changes[j]=1+s[i].patch.changes[j].lines.length+s[i].patch.changes[j].over.length:=rfl
   refine AZ ?_
   refine⟨(j+1,m+KF s[i].patch.changes[j]),⟨by dsimp only;omega,by dsimp only;omega,by dsimp only;omega⟩,by dsimp only;omega,⟨rfl,rfl,?_,rfl,rfl⟩,.refl _⟩
   show PV.raw (Value.int .i64 _)=PV.raw (Value.int .i64 _)
   congr 2;dsimp only;omega
  ·refine AZ ?_
   rw[AF (by omega)]at hms
   have e:=KA (f:=xN) hlt
   refine⟨(i+1,m),⟨by dsimp only;omega,by dsimp only;omega,fun x hx hxi=>?_,by dsimp only;omega,?_⟩,by dsimp only;omega,⟨rfl,rfl,rfl,rfl⟩,.refl _⟩
   ·rcases B8 x i with h'|h'
    ·exact hg x hx h'
    ·have:x=i:=by dsimp only at hxi;omega
     subst this;exact h
   ·dsimp only;rw[e,←hs];exact hms
 ·refine AZ ?_
  have hany:(s.take 9).any (fun x=>GV x.patch)=false:=by
   rw[Br];intro x hx
   obtain⟨j,hj,rfl⟩:=AY.1 hx
   rw[Aa]at hj
   simp only[FI]
   rw[hg j (by omega) (by omega)];simp
  have htk:s.take i=s.take 9:=by
   by_cases h9:i=9
   ·rw[h9]
   ·rw[AF (by omega),AF (by omega)]
  rw[htk]at hs
  have key:GQ s=(decide (8 < (s.length:Int))||decide (300 < (n:Int))):=by rw[GQ,hany,Gd,←hs]
  rw[key]
  clear key hany hs htk hg
  repeat' (first|(refine A6 (fun h=>?_) (fun h=>?_)<;>refine AZ ?_)|(refine AX (fun h=>?_) (fun h=>?_)<;>refine AZ ?_)|(refine AW (fun h=>?_) (fun h=>?_)<;>refine AZ ?_)|(refine Ay (fun h=>?_) (fun h=>?_)<;>(have h2:=h;(try simp only[AD,A8,AI,AN]at h2);refine CH ?_)))
  all_goals (refine B1 (.of_eq ?_);first|(simp_all;done)|grind)⟩
instance wH (s:List Sto) (t:CC):C8 Tryz.prog 33 [.slice (s.map eSto) t] (.raw (.bool (GQ s))):=⟨by
 refine Av Tryz.func33 Tryz.ntmps33 rfl (rs:= [.tmp 2]) rfl rfl fun hb LF=>?_
 refine AZ ?_
 exact B1 (.refl _)⟩
def Gw (s:List Sto):Prop:=s.length≤200∧ ∀ x∈s,E7 x.patch=false
def Gk (s:List Sto) (out:List Dig) (k:Int) (i:Nat):Int:=
 if(¬(s.getD i Sto.zero).id∈out∧DI out (B7 (s.getD i Sto.zero).patch)=true)∧(k < 0∨Ec (s.getD i Sto.zero).id (s.getD k.toNat Sto.zero).id < 0)then(i:Int)else k
def L6 (s:List Sto) (out:List Dig):Int:=(List.range s.length).foldl (Gk s out) (-1)
def O4 (s:List Sto):Nat→List Dig→List Dig
 |0,out=>out
 |n+1,out=>if L6 s out < 0 then out else O4 s n (out++ [(s.getD (L6 s out).toNat Sto.zero).id])
def CT (s:List Sto):List Dig:=O4 s s.length []
theorem LQ {s:List Sto} {out:List Dig} (n:Nat): -1≤(List.range n).foldl (Gk s out) (-1)∧(List.range n).foldl (Gk s out) (-1) < n:=by
 induction n with
 |zero=>simp
 |succ n ih=>
  rw[Bt]
  generalize (List.range n).foldl (Gk s out) (-1)=k at ih
  unfold Gk
  split<;>omega
instance yQ (s:List Sto) (t:CC) [hs:B0 (Gw s)]:C8 Tryz.prog 90 [.slice (s.map eSto) t] (.slice ((CT s).map eDig) .ro):=⟨by
 obtain⟨hl8,hgr⟩:=hs.out
 refine Av Tryz.func90 Tryz.ntmps90 rfl (rs:= [.tmp 2]) rfl rfl fun hb LF=>?_
 refine AZ ?_
 refine EO 32 ?_
 refine Ab (σ:=Nat × List Dig × CC) (fun k=>k.1≤s.length∧k.2.1.length+k.1=s.length∧CT s=O4 s k.1 k.2.1) (fun k=>k.1) (fun k=> [(0,.slice (s.map eSto) t),(3,.slice (k.2.1.map eDig) k.2.2)]) (fun k=> .tok k.2.2 k.2.1.length 32::LF) (s.length,[],.nil) ⟨by simp,by simp,rfl⟩ ⟨rfl,rfl⟩ (.refl _) ?_
 rintro⟨n,out,u⟩ ⟨hn,hol,ho⟩
 dsimp only at hn hol ho ⊢
 refine AZ ?_
 refine A6 (fun hc=>?_) (fun hc=>?_)
 ·obtain⟨m,rfl⟩: ∃ m,n=m+1:=⟨n - 1,by omega⟩
  rw[O4]at ho
  have hpr:=LQ (s:=s) (out:=out) s.length
  refine AZ ?_
  refine Ab (σ:=Nat) (fun i=>i≤s.length) (fun i=>s.length - i) (fun i=> [(0,.slice (s.map eSto) t),(3,.slice (out.map eDig) u),(4,.raw (.int .i64 ((List.range i).foldl (Gk s out) (-1)))),(5,.raw (.int .i64 (i:Int)))]) (fun _=> .tok u out.length 32::LF) 0 (by simp) ⟨rfl,rfl,rfl,rfl⟩ (.refl _) ?_
  intro i hi
  have hkr:=LQ (s:=s) (out:=out) i
  have hsucc:=Bt (Gk s out) (-1) i
  generalize hkk:(List.range i).foldl (Gk s out) (-1)=k at hkr hsucc ⊢
  refine AZ ?_
  refine A6 (fun hc2=>?_) (fun hc2=>?_)
  ·have hlt:i < s.length:=by omega
   have i1:B0 (E7 s[i].patch=false):=⟨hgr _ (AB hlt)⟩
   have e0:s.getD i Sto.zero=s[i]:=by simp[List.getD,hlt]
   rw[Gk,e0]at hsucc
   refine AZ ?_
   refine BT [(53,.raw (.bool (decide ((¬s[i].id∈out∧DI out (B7 s[i].patch)=true)∧(k < 0∨Ec s[i].id (s.getD k.toNat Sto.zero).id < 0))))),(0,.slice (s.map eSto) t),(3,.slice (out.map eDig) u),(4,.raw (.int .i64 k)),(5,.raw (.int .i64 (i:Int)))] (.tok u out.length 32::LF) ?_ ?_
   ·repeat' (first|(refine A6 (fun h=>?_) (fun h=>?_)<;>refine AZ ?_)|(refine AX (fun h=>?_) (fun h=>?_)<;>refine AZ ?_)|(refine AW (fun h=>?_) (fun h=>?_)<;>refine AZ ?_)|(refine Ay (fun h=>?_) (fun h=>?_)<;>(have h2:=h;(try simp only[AD,A8,AI,AN]at h2);refine CH ?_)))
    all_goals (refine⟨⟨C9 (by rfl) ?_,rfl,rfl,rfl,rfl⟩,.refl _⟩;first|(simp_all;done)|(have hkl:k.toNat < s.length:=(by omega);simp_all[List.getD];done)|grind)
   refine AZ ?_
   refine A6 (fun h=>?_) (fun h=>?_)
   ·refine AZ ?_
    rw[if_pos h]at hsucc
    refine⟨i+1,by omega,by dsimp only;omega,⟨rfl,rfl,?_,rfl⟩,.refl _⟩
    rw[hsucc];rfl
   ·refine AZ ?_
    rw[if_neg h]at hsucc
    refine⟨i+1,by omega,by dsimp only;omega,⟨rfl,rfl,?_,rfl⟩,.refl _⟩
    rw[hsucc];rfl
  ·have hii:i=s.length:=by omega
   subst hii
   have hpk:L6 s out=k:=hkk
   rw[hpk]at ho
   refine AZ ?_
   refine A6 (fun h=>?_) (fun h=>?_)
   ·refine AZ ?_
    rw[if_pos h]at ho
    refine B1 ?_
    rw[ho];exact .ro _ _
   ·rw[if_neg h]at ho
    have hkl:k.toNat < s.length:=by omega
    have e0:s.getD k.toNat Sto.zero=s[k.toNat]:=by simp[List.getD,hkl]
    rw[e0]at ho
    refine Hz fun u'=>?_
    refine⟨(m,out++ [s[k.toNat].id],u'),⟨by dsimp only;omega,by dsimp only;rw[AA,Au];omega,ho⟩,by dsimp only;omega,⟨rfl,rfl⟩,.refl _⟩
 ·refine AZ ?_
  have hn0:n=0:=by omega
  subst hn0
  refine B1 ?_
  rw[ho];exact .ro _ _⟩
end Go.Proofs
