/- Contracts of the program: trees of strings: checked, encoded. -/
import Derived.Test.YtaibdmankdppkaaGreatDoorYaj
import Derived.Test.YtaibdmankdppkaaGreatDoorYae
set_option linter.unusedSimpArgs false
set_option linter.unusedVariables false
set_option maxHeartbeats 8000000
namespace Go.Proofs
open Go Go.Q
attribute [local irreducible] ER AV BA Fc
theorem eL: ∀ (d:Nat) (x:Sx),P2 d x→ ∀ (b:Nat) (l:List UInt8) (L:List Res),sZ b l L→l.length+(Dn d x).length≤1000000000→BA Tryz.prog 250 [.raw (Ik b),.agg (eSx x)] L (fun _ L'=>sZ b (l++Dn d x) L')
 |0,x,hw,_,_,_,_,_=>hw.elim
 |d+1,x,hw,b,l,L,hL,hl=>by
  have ih:=eL d
  refine C5 Tryz.func250 rfl Tryz.ntmps250 (rs:= []) rfl rfl fun hb LF=>?_
  have hlen:x.list.length≤140737488355328:=by
   have:=(hb (.agg (eSx x)) (by simp)).agg_at (c:= .slice (x.list.map eSx) .ro) (by rw[Fp];simp)
   exact this.slice_map
  refine wf ?_
  refine AW (fun h2=>?_) (fun h2=>?_)
  ·have hB:x.isList=false:=by simpa using h2
   rcases hw with ⟨_,h3,h4⟩|⟨h3,_⟩
   ·have:B1 (-140737488355328≤(x.atom.length:Int)∧(x.atom.length:Int)≤140737488355328):=⟨by omega,by omega⟩
    have e:JA (x.atom.length:Int)=Hy x.atom.length:=by
     rw[JA,if_neg (by omega)];rfl
    have he:Dn (d+1) x=Hy x.atom.length++58::x.atom:=by simp[Dn,hB]
    rw[he]at hl ⊢
    simp only[AA,AN]at hl
    refine wf ?_
    refine CW (xs:= [.tmp 9,.tmp 13]) L LF (f:=290) (cs:= []) (CA _) rfl rfl (.refl _) _ (Nj b l (JA (x.atom.length:Int)) L hL (by rw[e];omega)) fun r L1 hL1=>?_
    rw[e]at hL1
    refine wf ?_
    refine wf ?_
    refine CW (xs:= [.tmp 15,.const (.int .u8 58)]) L1 LF (f:=291) (cs:= []) (CA _) rfl rfl (.refl _) _ (Ma b (l++Hy x.atom.length) 58 L1 hL1 (by simp only[AA];omega)) fun r L2 hL2=>?_
    refine wf ?_
    refine wf ?_
    refine CW (xs:= [.tmp 17,.tmp 19]) L2 LF (f:=290) (cs:= []) (CA _) rfl rfl (.refl _) _ (Nj b (l++Hy x.atom.length++ [58]) x.atom L2 hL2 (by simp only[AA,AN,Af];omega)) fun r L3 hL3=>?_
    refine wf ?_
    refine wf ?_
    exact⟨trivial,_,L3,.nil,.refl _,by simpa using hL3⟩
   ·rw[hB]at h3;cases h3
  have hB:x.isList=true:=by simpa using h2
  rcases hw with ⟨h3,_⟩|⟨_,ha,hw⟩
  ·rw[hB]at h3;cases h3
  have he:Dn (d+1) x=40::(x.list.flatMap (Dn d)++ [41]):=by simp[Dn,hB]
  rw[he]at hl ⊢
  simp only[AN,AA,Af]at hl
  refine wf ?_
  refine CW (xs:= [.tmp 21,.const (.int .u8 40)]) L LF (f:=291) (cs:= []) (CA _) rfl rfl (.refl _) _ (Ma b l 40 L hL (by omega)) fun r L1 hL1=>?_
  refine wf ?_
  refine wf ?_
  refine Ad (σ:=Nat × List Res) (fun k=>k.1≤x.list.length∧sZ b (l++40::(x.list.take k.1).flatMap (Dn d)) k.2) (fun k=>x.list.length - k.1) (fun k=> [(0,.raw (Ik b)),(24,.slice (x.list.map eSx) .ro),(25,.raw (.int .i64 x.list.length)),(26,.raw (.int .i64 k.1))]) (fun k=>k.2++LF) (0,L1) ⟨by simp,by simpa using hL1⟩ ⟨rfl,rfl,rfl,rfl⟩ (.refl _) ?_
  rintro⟨k,L2⟩ ⟨hk,hL2⟩
  dsimp only at hk hL2 ⊢
  have hsl:=JO (l:=x.list) (f:=Dn d) (k:=k)
  refine wf ?_
  refine A6 (fun hc=>?_) (fun hc=>?_)
  ·have hlt:k < x.list.length:=by omega
   have hel:=JO (l:=x.list) (f:=Dn d) (k:=k+1)
   rw[Iy hlt,AA]at hel
   refine wz fun b5=>?_
   refine Ao 5 ?_
   refine wf ?_
   refine CW (xs:= [.tmp 30,.tmp 31]) L2 LF (f:=250) (cs:= []) (CA _) rfl rfl (.refl _) _ (ih x.list[k] (hw _ (AF hlt)) b _ L2 hL2 (by simp only[AA,AN];omega)) fun r L3 hL3=>?_
   refine wf ?_
   refine wf ?_
   refine⟨(k+1,L3),⟨by dsimp only;omega,?_⟩,by dsimp only;omega,⟨rfl,rfl,rfl,rfl⟩,.refl _⟩
   dsimp only
   rw[Iy hlt]
   simpa using hL3
  ·rw[AE (by omega)]at hL2
   refine wf ?_
   refine CW (xs:= [.tmp 34,.const (.int .u8 41)]) L2 LF (f:=291) (cs:= []) (CA _) rfl rfl (.refl _) _ (Ma b _ 41 L2 hL2 (by simp only[AA,AN];omega)) fun r L3 hL3=>?_
   refine wf ?_
   refine wf ?_
   exact⟨trivial,_,L3,.nil,.refl _,by simpa using hL3⟩
def U0 (b:Nat) (n:Int):Res:= .box b 293 [.raw (.int .i64 n),.raw (.bool false)]
theorem ec: ∀ (d:Nat) (x:Sx),P2 d x→ ∀ (b:Nat) (n lv:Int),0≤n→n+Ib d x≤20000→1≤lv→lv+d≤13→BA Tryz.prog 288 [.raw (Ik b),.agg (eSx x),.raw (.int .i64 lv)] [U0 b n] (fun _ L'=>L'= [U0 b (n+Ib d x)])
 |0,x,hw,_,_,_,_,_,_,_=>hw.elim
 |d+1,x,hw,b,n,lv,hn0,hn,hl0,hl=>by
  have ih:=ec d
  have hpos:1≤Ib (d+1) x:=by unfold Ib;split<;>omega
  refine C5 Tryz.func288 rfl Tryz.ntmps288 (rs:= []) rfl rfl fun hb LF=>?_
  have hlen:x.list.length≤140737488355328:=by
   have:=(hb (.agg (eSx x)) (by simp)).agg_at (c:= .slice (x.list.map eSx) .ro) (by rw[Fp];simp)
   exact this.slice_map
  rw[show [U0 b n]++LF= .box b 293 [.raw (.int .i64 n),.raw (.bool false)]::LF from rfl]
  refine wf ?_
  refine Hr [.raw (.int .i64 (n+1)),.raw (.bool false)] rfl rfl rfl rfl (by simp) ?_
  refine wf ?_
  refine wf ?_
  refine Av (fun hp=>?_) (fun hp=>?_)
  ·have:=BB hp;omega
  refine wf ?_
  refine A6 (fun h1=>?_) (fun h1=>?_)
  ·omega
  refine wf ?_
  refine AW (fun h2=>?_) (fun h2=>?_)
  ·refine wf ?_
   have:x.isList=false:=by simpa using h2
   exact⟨trivial,_,[U0 b (n+1)],.nil,.refl _,by simp[Ib,this]⟩
  have hB:x.isList=true:=by simpa using h2
  rcases hw with ⟨h3,_⟩|⟨_,_,hw⟩
  ·rw[hB]at h3;cases h3
  have hnd:Ib (d+1) x=1+(x.list.map (Ib d)).sum:=by simp[Ib,hB]
  rw[hnd]at hn ⊢
  refine wf ?_
  refine Ad (σ:=Nat) (fun k=>k≤x.list.length) (fun k=>x.list.length - k) (fun k=> [(0,.raw (Ik b)),(2,.raw (.int .i64 lv)),(31,.slice (x.list.map eSx) .ro),(32,.raw (.int .i64 x.list.length)),(33,.raw (.int .i64 k))]) (fun k=>U0 b (n+(1+((x.list.map (Ib d)).take k).sum:Nat))::LF) 0 (by simp) ⟨rfl,rfl,rfl,rfl,rfl⟩ (by simp;exact .refl _) ?_
  intro k hk
  have hsk:=Kx (l:=x.list.map (Ib d)) (k:=k)
  have hsk1:=Kx (l:=x.list.map (Ib d)) (k:=k+1)
  refine wf ?_
  refine A6 (fun hc=>?_) (fun hc=>?_)
  ·have hlt:k < x.list.length:=by omega
   have e:((x.list.map (Ib d)).take (k+1)).sum=((x.list.map (Ib d)).take k).sum+Ib d x.list[k]:=by
    rw[A7 (by simpa using hlt),DC];simp
   refine wz fun b7=>?_
   refine Ao 7 ?_
   rw[show U0 b (n+(1+((x.list.map (Ib d)).take k).sum:Nat))::LF= .box b 293 [.raw (.int .i64 (n+(1+((x.list.map (Ib d)).take k).sum:Nat))),.raw (.bool false)]::LF from rfl]
   refine wf ?_
   refine CW (xs:= [.tmp 41,.tmp 42,.tmp 44]) [U0 b (n+(1+((x.list.map (Ib d)).take k).sum:Nat))] LF (f:=288) (cs:= []) (CA _) rfl rfl (.refl _) _ (ih x.list[k] (hw _ (AF hlt)) b _ (lv+1) (by omega) (by omega) (by omega) (by omega)) fun r L3 hL3=>?_
   subst hL3
   refine wf ?_
   refine wf ?_
   refine⟨k+1,by omega,by dsimp only;omega,⟨rfl,rfl,rfl,rfl,rfl⟩,?_⟩
   show(U0 b (n+((1+((x.list.map (Ib d)).take (k+1)).sum:Nat):Int))::LF).Sublist _
   rw[e,show n+((1+(((x.list.map (Ib d)).take k).sum+Ib d x.list[k]):Nat):Int)=n+((1+((x.list.map (Ib d)).take k).sum:Nat):Int)+(Ib d x.list[k]:Int) by omega]
   exact .refl _
  ·refine wf ?_
   rw[AE (by simp;omega)]
   exact⟨trivial,_,[U0 b (n+(1+(x.list.map (Ib d)).sum:Nat))],.nil,.refl _,rfl⟩
theorem VO: ∀ (d:Nat) (x:Sx),P2 d x→Q.Fn Tryz.prog 289 [.agg (eSx x)] (.raw (.int .i64 0))
 |0,x,hw=>hw.elim
 |d+1,x,hw=>by
  have ih: ∀ (y:Sx),[B1 (P2 d y)]→CB Tryz.prog 289 [.agg (eSx y)] (.raw (.int .i64 0)):=fun y h=>⟨VO d y h.out⟩
  refine Au Tryz.func289 Tryz.ntmps289 rfl (rs:= [.tmp 2]) rfl rfl fun hb LF=>?_
  have hlen:x.list.length≤140737488355328:=by
   have:=(hb (.agg (eSx x)) (by simp)).agg_at (c:= .slice (x.list.map eSx) .ro) (by rw[Fp];simp)
   exact this.slice_map
  have hsh:(x.isList=true→x.atom= [])∧(x.isList=false→x.list= [])∧x.atom.length≤65536∧ ∀ y∈x.list,P2 d y:=by
   rcases hw with ⟨h1,h2,h3⟩|⟨h1,h2,h3⟩
   ·exact⟨fun h=>(by rw[h1]at h;cases h),fun _=>h2,h3,fun y hy=>(by rw[h2]at hy;cases hy)⟩
   ·exact⟨fun _=>h2,fun h=>(by rw[h1]at h;cases h),by rw[h2];simp,h3⟩
  refine wf ?_
  refine BZ [(6,.raw (.bool (false))),(1,.pt (eSx x) 0)] (LF) ?_ ?_
  ·repeat' (first|(refine A6 (fun h=>?_) (fun h=>?_)<;>refine wf ?_)|(refine AY (fun h=>?_) (fun h=>?_)<;>refine wf ?_)|(refine AW (fun h=>?_) (fun h=>?_)<;>refine wf ?_)|(refine Av (fun h=>?_) (fun h=>?_)<;>(have h2:=h;(try simp only[AB,A8,AJ,AL]at h2);refine wf ?_)))
   all_goals (refine⟨⟨CD (by rfl) ?_,rfl⟩,.refl _⟩;(have:=hsh.1;have:=hsh.2.1;cases hB:x.isList<;>simp_all))
  refine wf ?_
  refine A6 (fun h5=>?_) (fun h5=>?_)
  ·have:=hsh.2.2.1;omega
  refine wf ?_
  refine Ad (σ:=Nat) (fun k=>k≤x.list.length) (fun k=>x.list.length - k) (fun k=> [(31,.slice (x.list.map eSx) .ro),(32,.raw (.int .i64 x.list.length)),(33,.raw (.int .i64 k))]) (fun _=>LF) 0 (by simp) ⟨rfl,rfl,rfl⟩ (.refl _) ?_
  intro k hk
  refine wf ?_
  refine A6 (fun hc=>?_) (fun hc=>?_)
  ·have hlt:k < x.list.length:=by omega
   have:B1 (P2 d x.list[k]):=⟨hsh.2.2.2 _ (AF hlt)⟩
   refine wz fun b4=>?_
   refine Ao 4 ?_
   refine wf ?_
   exact⟨k+1,by omega,by dsimp only;omega,⟨rfl,rfl,rfl⟩,.refl _⟩
  ·refine wf ?_
   exact B2 (.refl _)
instance :Cp Tryz.prog 293 [.raw (.int .i64 0),.raw (.bool false)]:=Cp.of (us:= [PV.raw (.int .i64 0),.raw (.bool false)].map zv) (by kernel_rfl) (by kernel_rfl)
instance vH (x:Sx) [hs:B1 (oh x)]:CB Tryz.prog 249 [.agg (eSx x)] (.raw (.int .i64 0)):=⟨by
 obtain⟨h1,h2⟩:=hs.out
 have i2:CB Tryz.prog 289 [.agg (eSx x)] (.raw (.int .i64 0)):=⟨VO 8 x h1⟩
 refine Au Tryz.func249 Tryz.ntmps249 rfl (rs:= [.tmp 2]) rfl rfl fun hb LF=>?_
 refine vK fun b1=>?_
 refine vK fun b5=>?_
 refine CW (xs:= [.tmp 6,.tmp 7,.const (.int .i64 1)]) [U0 b5 0] (.box b1 196 (eSx x)::LF) (f:=288) (cs:= []) (CA _) rfl rfl (.refl _) _ (ec 8 x h1 b5 0 1 (by omega) (by omega) (by omega) (by omega)) fun r L3 hL3=>?_
 subst hL3
 rw[show [U0 b5 (0+Ib 8 x)]++(.box b1 196 (eSx x)::LF)= .box b5 293 [.raw (.int .i64 (0+Ib 8 x)),.raw (.bool false)]:: .box b1 196 (eSx x)::LF from rfl]
 refine wk ?_
 refine wk ?_
 exact B2 (.refl _)⟩
instance :Cp Tryz.prog 263 [.raw (.pointer none),.raw (.slice none 0 0)]:=Cp.of (us:= [PV.raw (.pointer none),.raw (.slice none 0 0)].map zv) (by kernel_rfl) (by kernel_rfl)
theorem po {d:Nat} {x:Sx} (h:P2 d x):Dn d x≠ []:=by
 cases d with
 |zero=>exact h.elim
 |succ d=>unfold Dn;split<;>simp
instance sW (x:Sx) [hs:B1 (oh x∧(Dn 8 x).length≤1000000000)]:CB Tryz.prog 200 [.agg (eSx x)] (.tuple [.str (Dn 8 x),.raw (.int .i64 0)]):=⟨by
 obtain⟨h1,h2⟩:=hs.out
 have:B1 (oh x):=⟨h1⟩
 refine Au Tryz.func200 Tryz.ntmps200 rfl (rs:= [.tmp 2,.tmp 3]) rfl rfl fun hb LF=>?_
 refine Y9 fun b=>?_
 rw[show Res.box b 263 [.raw (.pointer none),.raw (.slice none 0 0)]::LF= [OE b (.pointer none) (.slice none 0 0)]++LF from rfl]
 refine CW (xs:= [.tmp 5,.tmp 11]) [OE b (.pointer none) (.slice none 0 0)] LF (f:=250) (cs:= []) (CA _) rfl rfl (.refl _) _ (eL 8 x h1.1 b [] _ ⟨.pointer none,.slice none 0 0,[],.inl rfl,.nil,rfl⟩ (by simpa using h2)) fun r L1 hL1=>?_
 rw[B8]at hL1
 refine wf ?_
 refine wf ?_
 refine CW (xs:= [.tmp 5]) L1 LF (f:=251) (cs:= []) (CA _) rfl rfl (.refl _) _ (ey b (Dn 8 x) L1 hL1 (po h1.1) (by omega)) fun r L2 ⟨hr,hL2⟩=>?_
 subst hr
 subst hL2
 refine wf ?_
 refine wf ?_
 refine HH ?_
 exact .refl _⟩
instance zJ (n:Int):CB Tryz.prog 248 [.raw (.int .i64 n)] (.tuple [.agg (eSx (RY n).1),.raw (.int .i64 (RY n).2)]):=⟨by
 refine Au Tryz.func248 Tryz.ntmps248 rfl (rs:= [.cell 2 196,.tmp 3]) rfl rfl fun hb LF=>?_
 refine Y9 fun b=>?_
 refine BZ [(9,.raw (.bool (decide (n < -1099511627776∨1099511627776 < n)))),(0,.raw (.int .i64 n)),(2,.raw (.pointer (some ⟨b,0,none⟩)))] (.box b 196 (eSx Sx.zero)::LF) ?_ ?_
 ·repeat' (first|(refine A6 (fun h=>?_) (fun h=>?_)<;>refine wf ?_)|(refine AY (fun h=>?_) (fun h=>?_)<;>refine wf ?_)|(refine AW (fun h=>?_) (fun h=>?_)<;>refine wf ?_)|(refine Av (fun h=>?_) (fun h=>?_)<;>(have h2:=h;(try simp only[AB,A8,AJ,AL]at h2);refine wf ?_)))
  all_goals (refine⟨⟨CD (by rfl) ?_,rfl,rfl⟩,.refl _⟩;first|(simp_all;done)|grind)
 refine wf ?_
 refine A6 (fun h=>?_) (fun h=>?_)
 ·refine wf ?_
  refine Jk rfl (.of_eq ?_)
  rw[RY,if_pos h]
 ·have:B1 (-140737488355328≤n∧n≤140737488355328):=⟨by omega⟩
  refine wf ?_
  refine Jk rfl (.of_eq ?_)
  rw[RY,if_neg h];rfl⟩
instance yD (s:Str):CB Tryz.prog 197 [.str s] (.agg (eSx (Ch s))):=⟨by
 refine Au Tryz.func197 Tryz.ntmps197 rfl (rs:= [.cell 2 196]) rfl rfl fun hb LF=>?_
 refine Y9 fun b=>?_
 refine Fo rfl (.of_eq ?_)
 rfl⟩
@[reducible] def Sb (l:List Sx) (t:CF):List PV:= [.raw (.bool true),.str [],.slice (l.map eSx) t]
theorem kg (l:List Sx):Sb l .ro=eSx (E5 l):=by rw[Fp];rfl
theorem bl (l:List Sx) (t:CF):Le (.agg (Sb l t)) (.agg (eSx (E5 l))):=fun g v hv=>by
 obtain⟨vs,rfl,h⟩:=hv.agg_inv
 match vs,h with
 | [a,b,c],h=>
   rw[←kg]
   exact EB.agg (.cons h.uncons.1 (.cons h.uncons.2.uncons.1 (.cons h.uncons.2.uncons.2.uncons.1.ro (.nil g))))
 | [],h=>have:=h.len;simp at this
 | [_],h=>have:=h.len;simp at this
 | [_,_],h=>have:=h.len;simp at this
 |_::_::_::_::_,h=>have:=h.len;simp at this
instance (l:List Sx) (t:CF):GI (.agg (Sb l t)) eSx (E5 l):=⟨fun g v hv=>Dj.agg _ g v (bl l t g v hv)⟩
instance {x y z:PV}:At [x,y,z] 2 z:=⟨rfl⟩
instance (c:Sx) (l:List Sx) (t:CF):FK (eSx c) 0 (Sb l t) (Sb l t):=⟨by rw[Fp];simp⟩
instance (l:List Sx) (t:CF):Cx (Sb l t) 3:=⟨rfl⟩
instance (l:List Sx) (t:CF):Dv (Sb l t):=by unfold Sb;infer_instance
theorem U3 (l:List Sx) (t:CF):Q.Fn Tryz.prog 196 [.slice (l.map eSx) t] (.agg (Sb l t)):=by
 refine Au Tryz.func196 Tryz.ntmps196 rfl (rs:= [.cell 2 196]) rfl rfl fun hb LF=>?_
 refine DX ?_
 refine CQ (by kernel_rfl) ?_
 refine C6 fun b=>?_
 refine AD ?_
 refine DX ?_
 refine CQ (by kernel_rfl) ?_
 refine KB (by(conv=>lhs;whnf);done) ?_
 refine Yc (z:=eSx Sx.zero) (c0:= [.raw (.bool true)]) (c1:= [.slice (l.map eSx) t]) (r1:=Sb l t) (hP0:=⟨rfl,by simp⟩) (hP1:=⟨rfl,by simp⟩) ?_ ?_ rfl rfl ?_
 ·exact Dj.one (c:= .raw (.bool true)) Dv.out
 ·exact Dj.one (c:= .slice (l.map eSx) t) Dv.out
 refine wf ?_
 exact Fo rfl (.refl _)
instance xZ (l:List Sx):CB Tryz.prog 196 [.slice (l.map eSx) .ro] (.agg (eSx (E5 l))):=⟨kg l ▸ U3 l .ro⟩
instance (priority:=low) xX (l:List Sx) (t:CF):CB Tryz.prog 196 [.slice (l.map eSx) t] (.agg (Sb l t)):=⟨U3 l t⟩
instance xb:CB Tryz.prog 196 [.slice [] .nil] (.agg (Sb [] .nil)):=⟨U3 [] .nil⟩
instance u4 (n:Int):CB Tryz.prog 199 [.raw (.int .i64 n)] (.agg (eSx (GB n))):=⟨by
 refine Au Tryz.func199 Tryz.ntmps199 rfl (rs:= [.cell 2 196]) rfl rfl fun hb LF=>?_
 refine Y9 fun b=>?_
 refine Y9 fun b2=>?_
 refine Fo rfl (.of_eq ?_)
 rfl⟩
instance pn (x:Ident):CB Tryz.prog 240 [.agg (eIdent x)] (.agg (eSx (GA x))):=⟨by
 refine Au Tryz.func240 Tryz.ntmps240 rfl (rs:= [.cell 2 196]) rfl rfl fun hb LF=>?_
 refine wf ?_
 refine C6 fun b=>?_
 refine wn ?_
 refine A6 (fun h=>?_) (fun h=>?_)
 ·refine wn ?_
  refine Bj 6 ?_ ?_
  ·decide+kernel
  refine wf ?_
  refine Fo rfl (.of_eq ?_)
  rw[GA,KC,if_pos h]
 ·refine wn ?_
  refine Bj 9 ?_ ?_
  ·decide+kernel
  refine wf ?_
  refine Fo rfl (.of_eq ?_)
  rw[GA,KC,if_neg h]⟩
instance xN (l:List Ident) (t:CF) [hs:B1 (l.length≤1000000)]:CB Tryz.prog 241 [.slice (l.map eIdent) t] (.agg (eSx (J8 l))):=⟨by
 refine Au Tryz.func241 Tryz.ntmps241 rfl (rs:= [.cell 2 196]) rfl rfl fun hb LF=>?_
 have hlen:=hs.out
 refine Y9 fun b=>?_
 refine Y9 fun b3=>?_
 refine EO 3 ?_
 refine Ad (σ:=Nat × CF × List Sx) (fun k=>k.1≤l.length∧k.2.2=(l.take k.1).map GA) (fun k=>l.length - k.1) (fun k=> [(2,.raw (.pointer (some ⟨b,0,none⟩))),(3,.raw (.pointer (some ⟨b3,0,none⟩))),(7,.slice (l.map eIdent) t),(8,.raw (.int .i64 l.length)),(9,.raw (.int .i64 k.1))]) (fun k=> .tok k.2.1 k.2.2.length 3:: .box b3 196 (Sb k.2.2 k.2.1):: .box b 196 (eSx Sx.zero)::LF) (0,.nil,[]) ⟨by simp,by simp⟩ ⟨rfl,rfl,rfl,rfl,rfl⟩ (.refl _) ?_
 rintro⟨k,v,out⟩ ⟨hk,he⟩
 dsimp only at hk he
 have hol:out.length=k:=by rw[he];simp;omega
 refine wf ?_
 refine A6 (fun hc=>?_) (fun hc=>?_)
 ·have hlt:k < l.length:=by omega
  have ee:(l.take (k+1)).map GA=out++ [GA l[k]]:=by rw[A7 hlt,Ak,he];rfl
  refine wz fun b5=>?_
  refine Ao 5 ?_
  refine wn ?_
  refine Bj 5 ?_ ?_
  ·decide+kernel
  refine dB fun v'=>?_
  refine GJ (ay:= .slice ((out++ [GA l[k]]).map eSx) v') (Sb (out++ [GA l[k]]) v') rfl rfl Dv.out rfl (by simp) ?_
  refine wf ?_
  refine wf ?_
  exact⟨(k+1,v',out++ [GA l[k]]),⟨by dsimp only;omega,ee.symm⟩,by dsimp only;omega,⟨rfl,rfl,rfl,rfl,rfl⟩,.refl _⟩
 ·rw[AE (by omega)]at he
  refine wf ?_
  refine Fo rfl ?_
  rw[J8,←he]
  exact bl _ _⟩
instance iZ (l:List Str) (t:CF) [hs:B1 (l.length≤1000000)]:CB Tryz.prog 245 [.slice (l.map eS) t] (.agg (eSx (E5 (l.map Ch)))):=⟨by
 refine Au Tryz.func245 Tryz.ntmps245 rfl (rs:= [.cell 2 196]) rfl rfl fun hb LF=>?_
 have hlen:=hs.out
 refine Y9 fun b=>?_
 refine Y9 fun b3=>?_
 refine EO 3 ?_
 refine Ad (σ:=Nat × CF × List Sx) (fun k=>k.1≤l.length∧k.2.2=(l.take k.1).map Ch) (fun k=>l.length - k.1) (fun k=> [(2,.raw (.pointer (some ⟨b,0,none⟩))),(3,.raw (.pointer (some ⟨b3,0,none⟩))),(7,.slice (l.map eS) t),(8,.raw (.int .i64 l.length)),(9,.raw (.int .i64 k.1))]) (fun k=> .tok k.2.1 k.2.2.length 3:: .box b3 196 (Sb k.2.2 k.2.1):: .box b 196 (eSx Sx.zero)::LF) (0,.nil,[]) ⟨by simp,by simp⟩ ⟨rfl,rfl,rfl,rfl,rfl⟩ (.refl _) ?_
 rintro⟨k,v,out⟩ ⟨hk,he⟩
 dsimp only at hk he
 have hol:out.length=k:=by rw[he];simp;omega
 refine wf ?_
 refine A6 (fun hc=>?_) (fun hc=>?_)
 ·have hlt:k < l.length:=by omega
  have ee:(l.take (k+1)).map Ch=out++ [Ch l[k]]:=by rw[A7 hlt,Ak,he];rfl
  refine wn ?_
  refine Bj 5 ?_ ?_
  ·decide+kernel
  refine dB fun v'=>?_
  refine GJ (ay:= .slice ((out++ [Ch l[k]]).map eSx) v') (Sb (out++ [Ch l[k]]) v') rfl rfl Dv.out rfl (by simp) ?_
  refine wf ?_
  refine wf ?_
  exact⟨(k+1,v',out++ [Ch l[k]]),⟨by dsimp only;omega,ee.symm⟩,by dsimp only;omega,⟨rfl,rfl,rfl,rfl,rfl⟩,.refl _⟩
 ·rw[AE (by omega)]at he
  refine wf ?_
  refine Fo rfl ?_
  rw[←he]
  exact bl _ _⟩
def yy (c:Chg):List Sx:= [GB c.type]
def yx (c:Chg):List Sx:= [GA c.file,GA c.parent,Ch c.name,J8 c.over]
def yw (c:Chg):List Sx:= [GA c.file,GB c.mode,J8 c.over]
def yv (c:Chg):List Sx:= [GA c.file,Ch c.data,J8 c.over]
def yu (c:Chg):List Sx:= [GA c.file,GA c.after,GA c.before,E5 (c.lines.map Ch)]
def yt (c:Chg):List Sx:= [GA c.file,GA c.after,GA c.before,J8 c.over]
def yr (c:Chg):List Sx:= [J8 c.over]
instance uZ (c:Chg) [hs:B1 (c.lines.length≤100000∧c.over.length≤100000)]:CB Tryz.prog 238 [.agg (eChg c)] (.slice ((yy c).map eSx) .ro):=⟨by
 obtain⟨h1,h2⟩:=hs.out
 have i1:B1 (c.over.length≤1000000):=⟨by omega⟩
 have i2:B1 (c.lines.length≤1000000):=⟨by omega⟩
 refine Au Tryz.func238 Tryz.ntmps238 rfl (rs:= [.tmp 2]) rfl rfl fun hb LF=>?_
 refine wf ?_
 refine B2 (.of_eq ?_)
 rfl⟩
instance uY (c:Chg) [hs:B1 (c.lines.length≤100000∧c.over.length≤100000)]:CB Tryz.prog 239 [.agg (eChg c)] (.slice ((yx c).map eSx) .ro):=⟨by
 obtain⟨h1,h2⟩:=hs.out
 have i1:B1 (c.over.length≤1000000):=⟨by omega⟩
 have i2:B1 (c.lines.length≤1000000):=⟨by omega⟩
 refine Au Tryz.func239 Tryz.ntmps239 rfl (rs:= [.tmp 2]) rfl rfl fun hb LF=>?_
 refine wn ?_
 refine Bj 14 ?_ ?_
 ·decide+kernel
 refine wf ?_
 refine B2 (.of_eq ?_)
 rfl⟩
instance uX (c:Chg) [hs:B1 (c.lines.length≤100000∧c.over.length≤100000)]:CB Tryz.prog 242 [.agg (eChg c)] (.slice ((yw c).map eSx) .ro):=⟨by
 obtain⟨h1,h2⟩:=hs.out
 have i1:B1 (c.over.length≤1000000):=⟨by omega⟩
 have i2:B1 (c.lines.length≤1000000):=⟨by omega⟩
 refine Au Tryz.func242 Tryz.ntmps242 rfl (rs:= [.tmp 2]) rfl rfl fun hb LF=>?_
 refine wn ?_
 refine Bj 11 ?_ ?_
 ·decide+kernel
 refine wf ?_
 refine B2 (.of_eq ?_)
 rfl⟩
instance uW (c:Chg) [hs:B1 (c.lines.length≤100000∧c.over.length≤100000)]:CB Tryz.prog 243 [.agg (eChg c)] (.slice ((yv c).map eSx) .ro):=⟨by
 obtain⟨h1,h2⟩:=hs.out
 have i1:B1 (c.over.length≤1000000):=⟨by omega⟩
 have i2:B1 (c.lines.length≤1000000):=⟨by omega⟩
 refine Au Tryz.func243 Tryz.ntmps243 rfl (rs:= [.tmp 2]) rfl rfl fun hb LF=>?_
 refine wn ?_
 refine Bj 11 ?_ ?_
 ·decide+kernel
 refine wf ?_
 refine B2 (.of_eq ?_)
 rfl⟩
instance uV (c:Chg) [hs:B1 (c.lines.length≤100000∧c.over.length≤100000)]:CB Tryz.prog 244 [.agg (eChg c)] (.slice ((yu c).map eSx) .ro):=⟨by
 obtain⟨h1,h2⟩:=hs.out
 have i1:B1 (c.over.length≤1000000):=⟨by omega⟩
 have i2:B1 (c.lines.length≤1000000):=⟨by omega⟩
 refine Au Tryz.func244 Tryz.ntmps244 rfl (rs:= [.tmp 2]) rfl rfl fun hb LF=>?_
 refine wn ?_
 refine Bj 14 ?_ ?_
 ·decide+kernel
 refine wf ?_
 refine B2 (.of_eq ?_)
 rfl⟩
instance uU (c:Chg) [hs:B1 (c.lines.length≤100000∧c.over.length≤100000)]:CB Tryz.prog 246 [.agg (eChg c)] (.slice ((yt c).map eSx) .ro):=⟨by
 obtain⟨h1,h2⟩:=hs.out
 have i1:B1 (c.over.length≤1000000):=⟨by omega⟩
 have i2:B1 (c.lines.length≤1000000):=⟨by omega⟩
 refine Au Tryz.func246 Tryz.ntmps246 rfl (rs:= [.tmp 2]) rfl rfl fun hb LF=>?_
 refine wn ?_
 refine Bj 14 ?_ ?_
 ·decide+kernel
 refine wf ?_
 refine B2 (.of_eq ?_)
 rfl⟩
instance uR (c:Chg) [hs:B1 (c.lines.length≤100000∧c.over.length≤100000)]:CB Tryz.prog 247 [.agg (eChg c)] (.slice ((yr c).map eSx) .ro):=⟨by
 obtain⟨h1,h2⟩:=hs.out
 have i1:B1 (c.over.length≤1000000):=⟨by omega⟩
 have i2:B1 (c.lines.length≤1000000):=⟨by omega⟩
 refine Au Tryz.func247 Tryz.ntmps247 rfl (rs:= [.tmp 2]) rfl rfl fun hb LF=>?_
 refine wf ?_
 refine B2 (.of_eq ?_)
 rfl⟩
def gf:List (Int × PV):= [(1,.raw (.func (.func 238) #[] #[])),(2,.raw (.func (.func 239) #[] #[])),(3,.raw (.func (.func 242) #[] #[])),(4,.raw (.func (.func 243) #[] #[])),(5,.raw (.func (.func 244) #[] #[])),(6,.raw (.func (.func 246) #[] #[])),(7,.raw (.func (.func 247) #[] #[]))]
theorem Xj:BA Tryz.prog 198 [] [] (fun r L'=> ∃ b,r= .raw (.map (some b))∧L'= [.map b (BQ kInt vId gf)]):=by
 refine C5 Tryz.func198 rfl Tryz.ntmps198 (rs:= [.tmp 0]) rfl rfl fun hb LF=>?_
 rw[B8]
 refine zS fun b=>?_
 exact⟨trivial,_,[.map b (BQ kInt vId gf)],.cons (.tmp 0) .nil,.refl _,b,rfl,rfl⟩
def vn (k:Int):Nat:=if k=1 then 238 else if k=2 then 239 else if k=3 then 242 else if k=4 then 243 else if k=5 then 244 else if k=6 then 246 else 247
def Zs (c:Chg):List Sx:=if c.kind=1 then yy c else if c.kind=2 then yx c else if c.kind=3 then yw c else if c.kind=4 then yv c else if c.kind=5 then yu c else if c.kind=6 then yt c else yr c
theorem lQ (c:Chg):(Zs c).length≤4:=by
 unfold Zs
 repeat' split
 all_goals simp[yy,yx,yw,yv,yu,yt,yr]
theorem kinds {k:Int} (h:1≤k∧k≤7):k=1∨k=2∨k=3∨k=4∨k=5∨k=6∨k=7:=by omega
theorem lR {k:Int} (h:1≤k∧k≤7):vId ((C4 k gf).getD (.raw .nilFunc))= .raw (.func (.func (vn k)) #[] #[]):=by
 rcases kinds h with h|h|h|h|h|h|h<;>(subst h;rfl)
theorem pj {k:Int} (h:1≤k∧k≤7):Az Tryz.prog (vn k):=by
 rcases kinds h with h|h|h|h|h|h|h<;>(subst h;simp only[vn];first|exact(inferInstance:Az Tryz.prog 238)|exact(inferInstance:Az Tryz.prog 239)|exact(inferInstance:Az Tryz.prog 242)|exact(inferInstance:Az Tryz.prog 243)|exact(inferInstance:Az Tryz.prog 244)|exact(inferInstance:Az Tryz.prog 246)|exact(inferInstance:Az Tryz.prog 247))
theorem pg (c:Chg) (h:1≤c.kind∧c.kind≤7) [hs:B1 (c.lines.length≤100000∧c.over.length≤100000)]:Q.Fn Tryz.prog (vn c.kind) [.agg (eChg c)] (.slice ((Zs c).map eSx) .ro):=by
 unfold vn Zs
 by_cases h1:c.kind=1
 ·rw[if_pos h1,if_pos h1];exact(uZ c).out
 by_cases h2:c.kind=2
 ·rw[if_neg h1,if_neg h1,if_pos h2,if_pos h2];exact(uY c).out
 by_cases h3:c.kind=3
 ·rw[if_neg h1,if_neg h1,if_neg h2,if_neg h2,if_pos h3,if_pos h3];exact(uX c).out
 by_cases h4:c.kind=4
 ·rw[if_neg h1,if_neg h1,if_neg h2,if_neg h2,if_neg h3,if_neg h3,if_pos h4,if_pos h4];exact(uW c).out
 by_cases h5:c.kind=5
 ·rw[if_neg h1,if_neg h1,if_neg h2,if_neg h2,if_neg h3,if_neg h3,if_neg h4,if_neg h4,if_pos h5,if_pos h5];exact(uV c).out
 by_cases h6:c.kind=6
 ·rw[if_neg h1,if_neg h1,if_neg h2,if_neg h2,if_neg h3,if_neg h3,if_neg h4,if_neg h4,if_neg h5,if_neg h5,if_pos h6,if_pos h6];exact(uU c).out
 rw[if_neg h1,if_neg h1,if_neg h2,if_neg h2,if_neg h3,if_neg h3,if_neg h4,if_neg h4,if_neg h5,if_neg h5,if_neg h6,if_neg h6];exact(uR c).out
def PD (c:Chg):Sx:=E5 ([GB c.kind]++Zs c)
def jo (p:Pat):Sx:=E5 [Ch [113,117,105,108,116,49],Ch p.author,Ch p.message,GB p.time,E5 (p.deps.map fun d=>Ch d.bs),E5 (p.changes.map PD)]
theorem jr {c:Chg} (h:1≤c.kind∧c.kind≤7):PD c=Kr c:=by
 unfold PD Kr K0 IU Ky Zs
 rcases kinds h with h|h|h|h|h|h|h<;>simp[h,yy,yx,yw,yv,yu,yt,yr]
theorem jn {p:Pat} (hd: ∀ d∈p.deps,d≠Dig.zero) (hk: ∀ c∈p.changes,1≤c.kind∧c.kind≤7):jo p=X4 p:=by
 unfold jo X4
 rw[CC (f:=fun d:Dig=>Ch d.bs) (g:=KC) (fun d h=>by rw[KC,if_neg (hd d h)]),CC (f:=PD) (g:=Kr) (fun c h=>jr (hk c h))]
structure cK (p:Pat):Prop where
 ok:W6 p
 deps: ∀ d∈p.deps,d≠Dig.zero
 kinds: ∀ c∈p.changes,1≤c.kind∧c.kind≤7
instance rz (p:Pat) [hs:B1 (cK p)]:CB Tryz.prog 144 [.agg (Bz p)] (.tuple [.str (Na p),.raw (.int .i64 0)]):=⟨by
 refine Au Tryz.func144 Tryz.ntmps144 rfl (rs:= [.tmp 2,.tmp 3]) rfl rfl fun hb LF=>?_
 have hd:=hs.out.ok.deps
 have hch:=hs.out.ok.chgs
 refine Y9 fun b4=>?_
 refine C6 fun b5=>?_
 refine wf ?_
 refine EO 3 ?_
 refine Ad (σ:=Nat × CF × List Sx) (fun k=>k.1≤p.deps.length∧k.2.2=(p.deps.take k.1).map fun d=>Ch d.bs) (fun k=>p.deps.length - k.1) (fun k=> [(1,.pt (Bz p) 0),(4,.raw (.pointer (some ⟨b4,0,none⟩))),(5,.raw (.pointer (some ⟨b5,0,none⟩))),(15,.slice (p.deps.map eDig) .ro),(16,.raw (.int .i64 p.deps.length)),(17,.raw (.int .i64 k.1))]) (fun k=> .tok k.2.1 k.2.2.length 3:: .box b5 196 (Sb [] .nil):: .box b4 196 (Sb k.2.2 k.2.1)::LF) (0,.nil,[]) ⟨by simp,by simp⟩ ⟨rfl,rfl,rfl,rfl,rfl,rfl⟩ (.refl _) ?_
 rintro⟨k,v,l⟩ ⟨hk,he⟩
 dsimp only at hk he
 have hll:l.length=k:=by rw[he];simp;omega
 refine wf ?_
 refine A6 (fun hc=>?_) (fun hc=>?_)
 ·have hlt:k < p.deps.length:=by omega
  have ee:(p.deps.take (k+1)).map (fun d=>Ch d.bs)=l++ [Ch p.deps[k].bs]:=by rw[A7 hlt,Ak,he];rfl
  refine wz fun b7=>?_
  refine Ao 7 ?_
  refine wn ?_
  refine Bj 6 ?_ ?_
  ·decide+kernel
  refine dB fun v'=>?_
  refine GJ (ay:= .slice ((l++ [Ch p.deps[k].bs]).map eSx) v') (Sb (l++ [Ch p.deps[k].bs]) v') rfl rfl Dv.out rfl (by simp) ?_
  refine wf ?_
  refine wf ?_
  exact⟨(k+1,v',l++ [Ch p.deps[k].bs]),⟨by dsimp only;omega,ee.symm⟩,by dsimp only;omega,⟨rfl,rfl,rfl,rfl,rfl,rfl⟩,.refl _⟩
 rw[AE (by omega)]at he
 clear hll
 refine wf ?_
 refine CW (xs:= []) [] (.tok v l.length 3:: .box b5 196 (Sb [] .nil):: .box b4 196 (Sb l v)::LF) (f:=198) (cs:= []) (CA _) rfl rfl (.refl _) _ Xj fun r L1 ⟨bm,hr,hL1⟩=>?_
 subst hr
 subst hL1
 refine wo ?_
 refine AD ?_
 refine L7 [(1,.pt (Bz p) 0),(4,.raw (.pointer (some ⟨b4,0,none⟩))),(5,.raw (.pointer (some ⟨b5,0,none⟩))),(8,.fmap (BQ kInt vId gf))] ⟨.inl rfl,.inl rfl,.inl rfl,.inr ⟨rfl,rfl⟩⟩ (.refl _) ?_
 refine wf ?_
 refine EO 3 ?_
 refine Ad (σ:=Nat × CF × List Sx) (fun k=>k.1≤p.changes.length∧k.2.2=(p.changes.take k.1).map PD) (fun k=>p.changes.length - k.1) (fun k=> [(1,.pt (Bz p) 0),(4,.raw (.pointer (some ⟨b4,0,none⟩))),(5,.raw (.pointer (some ⟨b5,0,none⟩))),(8,.fmap (BQ kInt vId gf)),(32,.slice (p.changes.map eChg) .ro),(33,.raw (.int .i64 p.changes.length)),(34,.raw (.int .i64 k.1))]) (fun k=> .tok k.2.1 k.2.2.length 3:: .box b5 196 (Sb k.2.2 k.2.1):: .box b4 196 (Sb l v)::LF) (0,.nil,[]) ⟨by simp,by simp⟩ ⟨rfl,rfl,rfl,rfl,rfl,rfl,rfl⟩ (.cons_cons _ (.cons _ (.refl _))) ?_
 rintro⟨k,u,m⟩ ⟨hk,hm⟩
 dsimp only at hk hm
 have hml:m.length=k:=by rw[hm];simp;omega
 refine wf ?_
 refine A6 (fun hc=>?_) (fun hc=>?_)
 ·have hlt:k < p.changes.length:=by omega
  have ee:(p.changes.take (k+1)).map PD=m++ [PD p.changes[k]]:=by rw[A7 hlt,Ak,hm];rfl
  have hcc:=hs.out.ok.chg _ (AF hlt)
  have hkc:=hs.out.kinds _ (AF hlt)
  have:B1 (p.changes[k].lines.length≤100000∧p.changes[k].over.length≤100000):=⟨hcc⟩
  have hfun:=pj hkc
  have hfl:=lQ p.changes[k]
  refine wz fun b10=>?_
  refine Ao 10 ?_
  refine DX ?_
  refine CQ (by kernel_rfl) ?_
  refine bF (by rfl) (hr:=(by first|infer_instance|fail)) ?_
  refine dK (by rfl) rfl ?_
  refine XL (by(conv=>lhs;whnf);done) (hN0:=(by first|infer_instance|fail)) (hc:=(by first|infer_instance|fail)) ?_
  refine jh (by(conv=>lhs;whnf);done) (hC0:=(by first|infer_instance|fail)) (hf:=(by first|infer_instance|fail)) (by decide) fun t=>?_
  refine wz fun b11=>?_
  refine wn ?_
  refine Bj 8 ?_ ?_
  ·decide+kernel
  refine wf ?_
  refine X3 (xs:= [.tmp 49]) (f:=vn p.changes[k].kind) (cs:= []) (by show Le (vId ((C4 p.changes[k].kind gf).getD (.raw .nilFunc))) _;rw[lR hkc];exact CA _) rfl rfl (pg p.changes[k] hkc) ?_
  refine dB fun v'=>?_
  refine GJ (ay:= .slice (([GB p.changes[k].kind]++Zs p.changes[k]).map eSx) v') (Sb ([GB p.changes[k].kind]++Zs p.changes[k]) v') rfl rfl Dv.out rfl (by simp) ?_
  refine wf ?_
  refine dB fun u'=>?_
  refine GJ (ay:= .slice ((m++ [PD p.changes[k]]).map eSx) u') (Sb (m++ [PD p.changes[k]]) u') rfl rfl Dv.out rfl (by simp) ?_
  refine wf ?_
  exact⟨(k+1,u',m++ [PD p.changes[k]]),⟨by dsimp only;omega,ee.symm⟩,by dsimp only;omega,⟨rfl,rfl,rfl,rfl,rfl,rfl,rfl⟩,by dsimp only;repeat(first|exact EY _|apply List.Sublist.cons_cons|apply List.Sublist.cons)⟩
 rw[AE (by omega)]at hm
 have e:X4 p=E5 [Ch [113,117,105,108,116,49],Ch p.author,Ch p.message,GB p.time,E5 l,E5 m]:=by rw[←jn hs.out.deps hs.out.kinds,jo,←he,←hm]
 have i1:B1 (oh (E5 [Ch [113,117,105,108,116,49],Ch p.author,Ch p.message,GB p.time,E5 l,E5 m])∧(Dn 8 (E5 [Ch [113,117,105,108,116,49],Ch p.author,Ch p.message,GB p.time,E5 l,E5 m])).length≤1000000000):=by
  rw[←e];exact⟨hs.out.ok.ok,hs.out.ok.len⟩
 refine wf ?_
 refine HH ?_
 rw[Na,e]
 exact .refl _⟩
def LK (l:List Str):Nat:=(l.map List.length).sum
def vY (l:List Str):Bool:=decide (40 < (l.length:Int))||decide (3000 < (LK l:Int))
theorem YG {l:List Str} {k:Nat} (h:k < l.length):LK (l.take (k+1))=LK (l.take k)+l[k].length:=by
 unfold LK;rw[A7 h,Ak,DC];simp
theorem ew {l:List Str} {B:Nat} (h: ∀ s∈l,s.length≤B):LK l≤l.length*B:=by
 unfold LK
 induction l with
 |nil=>simp
 |cons x l ih=>
  have h1:=h x (by simp)
  have h2:=ih fun s hs=>h s (by simp[hs])
  simp only[Ar,DI,AN,C7];omega
instance w9 (l:List Str) (t:CF):CB Tryz.prog 203 [.slice (l.map eS) t] (.raw (.bool (vY l))):=⟨by
 refine Au Tryz.func203 Tryz.ntmps203 rfl (rs:= [.tmp 2]) rfl rfl fun hb LF=>?_
 have hbs:=hb (.slice (l.map eS) t) (by simp)
 have hlen:l.length≤140737488355328:=hbs.slice_map
 have hel: ∀ s∈l,s.length≤140737488355328:=fun s hs=>(hbs.slice_at hs (c:= .str s) (by simp[eS])).str_len
 refine AX ?_
 refine Ad (σ:=Nat × Int) (fun k=>k.1≤l.length∧(l.length≤40→k.2=(LK (l.take k.1):Int))) (fun k=>l.length - k.1) (fun k=> [(0,.slice (l.map eS) t),(3,.raw (.int .i64 k.2)),(4,.raw (.int .i64 k.1))]) (fun _=>LF) (0,0) ⟨by simp,fun _=>by simp[LK]⟩ ⟨rfl,rfl,rfl⟩ (.refl _) ?_
 rintro⟨k,n⟩ ⟨hk,hn⟩
 dsimp only at hk hn ⊢
 obtain⟨v,hv⟩: ∃ v,v=Value.int .i64 n:=⟨_,rfl⟩
 rw[←hv]
 refine AX ?_
 refine A6 (fun hc=>?_) (fun hc=>?_)
 ·have hlt:k < l.length:=by omega
  refine AX ?_
  refine bH (by rfl) (by rfl) hv fun v1 hv1=>?_
  refine CK ?_
  subst hv1
  refine⟨(k+1,IntKind.i64.wrap (n+(l[k].length:Int))),⟨by dsimp only;omega,fun h40=>?_⟩,by dsimp only;omega,⟨rfl,rfl,rfl⟩,.refl _⟩
  have h1:=hn h40
  have h2:=YG hlt
  have h3:=hel _ (AF hlt)
  have h4:=ew (l:=l.take k) (B:=140737488355328) fun s hs=>hel s (Et hs)
  have h5:(l.take k).length≤40:=by rw[Aa];omega
  have h6:(l.take k).length*140737488355328≤40*140737488355328:=B3 _ h5
  dsimp only
  rw[IntWalk.i64_in _ (by omega),h1,h2];omega
 ·subst hv
  refine AX ?_
  rw[AE (by omega)]at hn
  refine Av (fun hp=>?_) (fun hp=>?_)
  ·refine CK ?_
   refine B2 (.of_eq ?_)
   rw[vY,hp,Bool.true_or]
  ·refine CK ?_
   refine B2 (.of_eq ?_)
   have:=Bp hp
   rw[vY,hp,GU,hn (by omega)]⟩
def GH (c:Chg):Nat:=c.name.length+c.data.length
def RR (p:Pat):Nat:=p.author.length+p.message.length+(p.changes.map GH).sum
def bP (c:Chg):Bool:=vY c.lines||decide (40 < (c.over.length:Int))
def Fk (p:Pat):Bool:=p.changes.any bP||decide (3000 < (RR p:Int))||decide (20 < (p.deps.length:Int))||decide (20 < (p.changes.length:Int))
def Iq (c:Chg):Nat:=1+c.lines.length+c.over.length
def ED (p:Pat):Bool:=p.changes.any (fun c=>bP c||decide (3000 < (GH c:Int)))||decide (30000 < (RR p:Int))||decide (200 < (p.deps.length:Int))||decide (200 < (p.changes.length:Int))||decide (2000 < ((p.changes.map Iq).sum:Int))
theorem Ee {α:Type} {l:List α} {f:α→Nat} {B:Nat} (h: ∀ s∈l,f s≤B):(l.map f).sum≤l.length*B:=by
 induction l with
 |nil=>simp
 |cons x l ih=>
  have h1:=h x (by simp)
  have h2:=ih fun s hs=>h s (by simp[hs])
  simp only[Ar,DI,AN,C7];omega
theorem K8 {α:Type} {l:List α} {f:α→Nat} {k:Nat} (h:k < l.length):((l.take (k+1)).map f).sum=((l.take k).map f).sum+f l[k]:=by
 rw[A7 h,Ak,DC];simp
instance vA (p:Pat):CB Tryz.prog 151 [.agg (Bz p)] (.raw (.bool (Fk p))):=⟨by
 refine Au Tryz.func151 Tryz.ntmps151 rfl (rs:= [.tmp 2]) rfl rfl fun hb LF=>?_
 have hbp:=hb (.agg (Bz p)) (by simp)
 have ha:p.author.length≤140737488355328:=(hbp.agg_at (c:= .str p.author) (by simp[Bz])).str_len
 have hm:p.message.length≤140737488355328:=(hbp.agg_at (c:= .str p.message) (by simp[Bz])).str_len
 have hbc:=hbp.agg_at (c:= .slice (p.changes.map eChg) .ro) (by simp[Bz])
 have hlen:p.changes.length≤140737488355328:=hbc.slice_map
 have hcn: ∀ c∈p.changes,c.name.length≤140737488355328:=fun c hc=>(hbc.slice_at hc (c:= .str c.name) (by simp[eChg])).str_len
 have hcd: ∀ c∈p.changes,c.data.length≤140737488355328:=fun c hc=>(hbc.slice_at hc (c:= .str c.data) (by simp[eChg])).str_len
 refine DQ fun b=>?_
 refine Ad (σ:=Nat × Int) (fun k=>k.1≤p.changes.length∧(∀ i (h:i < p.changes.length),i < k.1→bP p.changes[i]=false)∧(p.changes.length≤20→k.2=((p.author.length+p.message.length+((p.changes.take k.1).map GH).sum:Nat):Int))) (fun k=>p.changes.length - k.1) (fun k=> [(1,.raw (.pointer (some ⟨b,0,none⟩))),(3,.raw (.int .i64 k.2)),(4,.raw (.int .i64 k.1))]) (fun _=> .box b 40 (Bz p)::LF) (0,(p.author.length:Int)+(p.message.length:Int)) ⟨by simp,by simp,fun _=>by simp⟩ ⟨rfl,rfl,rfl⟩ (.refl _) ?_
 rintro⟨k,n⟩ ⟨hk,hg,hn⟩
 dsimp only at hk hg hn ⊢
 obtain⟨v,hv⟩: ∃ v,v=Value.int .i64 n:=⟨_,rfl⟩
 rw[←hv]
 refine AX ?_
 refine A6 (fun hc=>?_) (fun hc=>?_)
 ·have hlt:k < p.changes.length:=by omega
  refine DQ fun b2=>?_
  refine BZ [(33,.raw (.bool (bP p.changes[k]))),(1,.raw (.pointer (some ⟨b,0,none⟩))),(3,.raw v),(4,.raw (.int .i64 k)),(5,.raw (.pointer (some ⟨b2,0,none⟩)))] (.box b2 73 (eChg p.changes[k]):: .box b 40 (Bz p)::LF) ?_ ?_
  ·repeat' (first|(refine A6 (fun h=>?_) (fun h=>?_)<;>refine AX ?_)|(refine AY (fun h=>?_) (fun h=>?_)<;>refine AX ?_)|(refine AW (fun h=>?_) (fun h=>?_)<;>refine AX ?_)|(refine Av (fun h=>?_) (fun h=>?_)<;>(have h2:=h;(try simp only[AB,A8,AJ,AL]at h2);refine CK ?_)))
   all_goals (refine⟨⟨CD (by rfl) ?_,rfl,rfl,rfl,rfl⟩,.refl _⟩;simp_all[bP])
  refine AX ?_
  refine AW (fun h=>?_) (fun h=>?_)
  ·refine AX ?_
   refine B2 (.of_eq ?_)
   have:p.changes.any bP=true:=by rw[Bu];exact⟨_,AF hlt,h⟩
   rw[Fk,this];rfl
  refine AX ?_
  refine bH (by rfl) (by rfl) hv fun v1 hv1=>?_
  refine CK ?_
  refine bH (by rfl) (by rfl) hv1 fun v2 hv2=>?_
  refine CK ?_
  subst hv2
  refine⟨(k+1,IntKind.i64.wrap (IntKind.i64.wrap (n+(p.changes[k].name.length:Int))+(p.changes[k].data.length:Int))),⟨by dsimp only;omega,fun i hi hik=>?_,fun h20=>?_⟩,by dsimp only;omega,⟨rfl,rfl,rfl⟩,.cons _ (.refl _)⟩
  ·rcases B9 i k with h'|h'
   ·exact hg i hi h'
   ·have:i=k:=by dsimp only at hik;omega
    subst this;exact h
  ·have h1:=hn h20
   have h2:=K8 (f:=GH) hlt
   have h3:=hcn _ (AF hlt)
   have h3':=hcd _ (AF hlt)
   have h4:=Ee (l:=p.changes.take k) (f:=GH) (B:=281474976710656) fun c hc=>by
    have q1:=hcn c (Et hc)
    have q2:=hcd c (Et hc)
    unfold GH;omega
   have h5:(p.changes.take k).length≤20:=by rw[Aa];omega
   have h6:(p.changes.take k).length*281474976710656≤20*281474976710656:=B3 _ h5
   dsimp only
   have h7:GH p.changes[k]=p.changes[k].name.length+p.changes[k].data.length:=rfl
   rw[IntWalk.i64_in (n+_) (by omega),IntWalk.i64_in _ (by omega),h1,h2];omega
 ·subst hv
  refine AX ?_
  rw[AE (by omega)]at hn
  have hany:p.changes.any bP=false:=by
   rw[Bl];intro c hc'
   obtain⟨i,hi,rfl⟩:=AZ.1 hc'
   simp[hg i hi (by omega)]
  have key:Fk p=(decide (3000 < n)||decide (20 < (p.deps.length:Int))||decide (20 < (p.changes.length:Int))):=by
   rw[Fk,hany,GU]
   by_cases h20:p.changes.length≤20
   ·rw[hn h20];rfl
   ·have:decide (20 < (p.changes.length:Int))=true:=BR (by omega)
    rw[this,Bool.or_true,Bool.or_true]
  rw[key]
  clear key hany hn hg
  repeat' (first|(refine A6 (fun h=>?_) (fun h=>?_)<;>refine AX ?_)|(refine AY (fun h=>?_) (fun h=>?_)<;>refine AX ?_)|(refine AW (fun h=>?_) (fun h=>?_)<;>refine AX ?_)|(refine Av (fun h=>?_) (fun h=>?_)<;>(have h2:=h;(try simp only[AB,A8,AJ,AL]at h2);refine CK ?_)))
  all_goals (refine B2 (.of_eq ?_);first|(simp_all;done)|grind)⟩
theorem K7 (d:Nat) {s:Str} (h:s.length≤65536):P2 (d+1) (Ch s):= .inl ⟨rfl,rfl,h⟩
theorem ah (d:Nat) (n:Int):P2 (d+1) (GB n):=by
 unfold GB RY
 split
 ·exact .inl ⟨rfl,rfl,by decide⟩
 ·refine K7 d ?_
  have:=Ob (n:=n) ⟨by omega,by omega⟩
  omega
theorem ij (d:Nat) (x:Dig):P2 (d+1) (KC x):=by
 unfold KC
 split
 ·exact K7 d (by decide)
 ·exact K7 d (by rw[x.len];decide)
theorem Mb {d:Nat} {l:List Sx} (h: ∀ y∈l,P2 d y):P2 (d+1) (E5 l):= .inr ⟨rfl,rfl,h⟩
theorem ig (d:Nat) (x:Ident):P2 (d+2) (GA x):=Mb fun y hy=>by
 simp only[AI,Ai,or_false]at hy
 rcases hy with rfl|rfl
 ·exact ij d _
 ·exact ah d _
theorem nH (d:Nat) (l:List Ident):P2 (d+3) (J8 l):=Mb fun y hy=>by
 obtain⟨x,_,rfl⟩:=AQ.1 hy
 exact ig d x
theorem XG (d:Nat) (s:Str):Ib (d+1) (Ch s)=1:=rfl
theorem Tv (d:Nat) (n:Int):Ib (d+1) (GB n)=1:=by
 unfold GB RY
 split<;>rfl
theorem kb (d:Nat) (x:Dig):Ib (d+1) (KC x)=1:=by
 unfold KC;split<;>rfl
theorem Oh (d:Nat) (l:List Sx):Ib (d+1) (E5 l)=1+(l.map (Ib d)).sum:=rfl
theorem XF (d:Nat) (x:Ident):Ib (d+2) (GA x)=3:=by
 rw[GA,Oh];simp only[Ar,CU,DI,Jo,kb,Tv];rfl
theorem ov (d:Nat) (l:List Ident):Ib (d+3) (J8 l)≤1+l.length*3:=by
 rw[J8,Oh,CG]
 have:=Ee (l:=l) (f:=Ib (d+2) ∘ GA) (B:=3) fun x _=>by simp[XF]
 omega
theorem JU (d:Nat) {s:Str} (h:s.length≤140737488355328):(Dn (d+1) (Ch s)).length≤16+s.length:=by
 show(Hy s.length++58::s).length≤_
 have:=KY h
 rw[AA,AN];omega
theorem bn (d:Nat) (n:Int):(Dn (d+1) (GB n)).length≤32:=by
 unfold GB RY
 split
 ·exact CZ (JU d (s:= []) (by decide)) (by decide)
 ·rename_i h
  have h1:=Ob (n:=n) ⟨by omega,by omega⟩
  have h2:=JU d (s:=JA n) (by omega)
  dsimp only;omega
theorem ki (d:Nat) (x:Dig):(Dn (d+1) (KC x)).length≤48:=by
 unfold KC
 split
 ·exact CZ (JU d (s:= []) (by decide)) (by decide)
 ·have h:=JU d (s:=x.bs) (by rw[x.len];decide)
  rw[x.len]at h;exact h
theorem Zo {α β:Type} (l:List α) (f:α→List β):(l.flatMap f).length=(l.map fun a=>(f a).length).sum:=by
 induction l with
 |nil=>rfl
 |cons x l ih=>simp[ih]
theorem N5 (d:Nat) (l:List Sx):(Dn (d+1) (E5 l)).length=2+(l.map fun a=>(Dn d a).length).sum:=by
 show(40::(l.flatMap (Dn d)++ [41])).length=_
 rw[AN,AA,Zo,B6];omega
theorem kh (d:Nat) (x:Ident):(Dn (d+2) (GA x)).length≤82:=by
 rw[GA,N5]
 have h1:=ki d x.patch
 have h2:=bn d x.n
 simp only[Ar,CU,DI,Jo];omega
theorem pE (d:Nat) (l:List Ident):(Dn (d+3) (J8 l)).length≤2+l.length*82:=by
 rw[J8,N5,CG]
 have:=Ee (l:=l) (f:=(fun a=>(Dn (d+2) a).length) ∘ GA) (B:=82) fun x _=>kh d x
 omega
structure W9 (c:Chg):Prop where
 lines:c.lines.length≤40
 line: ∀ s∈c.lines,s.length≤3000
 over:c.over.length≤40
 name:c.name.length≤3000
 data:c.data.length≤3000
theorem W8 {c:Chg} {q:Sx→Prop} (h1: ∀ n,q (GB n)) (h2: ∀ x,q (GA x)) (h3:q (Ch c.name)) (h4:q (Ch c.data)) (h5:q (E5 (c.lines.map Ch))) (h6:q (J8 c.over)): ∀ y∈([GB c.kind]++K0 c++IU c)++Ky c,q y:=by
 intro y hy
 simp only[Aj,An]at hy
 rcases hy with ((rfl|hy)|hy)|hy
 ·exact h1 _
 ·unfold K0 at hy
  split at hy
  ·simp only[An]at hy;subst hy;exact h2 _
  ·cases hy
 ·unfold IU at hy
  repeat' split at hy
  all_goals simp only[AI,Ai,or_false]at hy
  ·subst hy;exact h1 _
  ·rcases hy with rfl|rfl
   ·exact h2 _
   ·exact h3
  ·subst hy;exact h1 _
  ·subst hy;exact h4
  ·rcases hy with rfl|rfl<;>exact h2 _
 ·unfold Ky at hy
  repeat' split at hy
  all_goals simp only[AI,Ai,or_false]at hy
  ·subst hy;exact h5
  ·subst hy;exact h6
theorem qC (c:Chg):(([GB c.kind]++K0 c++IU c)++Ky c).length≤5:=by
 have h1:=RQ c
 have h2:=RP c
 have h3:(Ky c).length≤1:=by unfold Ky;repeat' split
                             all_goals simp
 simp only[AA,B6];omega
theorem se (d:Nat) {c:Chg} (h:W9 c):P2 (d+4) (Kr c):=
 Mb (W8 (fun n=>ah (d+2) n) (fun x=>ig (d+1) x) (K7 (d+2) (by have:=h.name;omega)) (K7 (d+2) (by have:=h.data;omega))
  (Mb fun y hy=>by
   obtain⟨s,hs,rfl⟩:=AQ.1 hy
   exact K7 (d+1) (by have:=h.line s hs;omega)) (nH d c.over))
theorem kc (d:Nat) (c:Chg):(([GB c.kind]++K0 c++IU c).map (Ib (d+3))).sum≤12:=by
 have h:=Ee (l:= [GB c.kind]++K0 c++IU c) (f:=Ib (d+3)) (B:=3) fun y hy=>by
  simp only[Aj,An]at hy
  rcases hy with (rfl|hy)|hy
  ·rw[Tv (d+2)];decide
  ·unfold K0 at hy
   split at hy
   ·simp only[An]at hy;subst hy;rw[XF (d+1)];decide
   ·cases hy
  ·unfold IU at hy
   repeat' split at hy
   all_goals simp only[AI,Ai,or_false]at hy
   ·subst hy;rw[Tv (d+2)];decide
   ·rcases hy with rfl|rfl
    ·rw[XF (d+1)];decide
    ·rw[XG (d+2)];decide
   ·subst hy;rw[Tv (d+2)];decide
   ·subst hy;rw[XG (d+2)];decide
   ·rcases hy with rfl|rfl<;>(rw[XF (d+1)];decide)
 have h1:=RQ c
 have h2:=RP c
 simp only[AA,B6]at h
 omega
theorem ow (d:Nat) (c:Chg):((Ky c).map (Ib (d+3))).sum≤3*Iq c:=by
 unfold Ky Iq
 repeat' split
 ·simp only[Ar,CU,DI,Jo]
  rw[Oh (d+2),CG]
  have:=Ee (l:=c.lines) (f:=Ib (d+2) ∘ Ch) (B:=1) fun s _=>Ah _
  omega
 ·simp only[Ar,CU,DI,Jo]
  have:=ov d c.over
  omega
 ·simp
theorem u6 (d:Nat) (c:Chg):Ib (d+4) (Kr c)≤13+3*Iq c:=by
 rw[Kr,Oh,Ak,DC]
 have h1:=kc d c
 have h2:=ow d c
 omega
theorem YF {α:Type} {l:List α} {f g:α→Nat} {a b:Nat} (h: ∀ s∈l,f s≤a+b*g s):(l.map f).sum≤l.length*a+b*(l.map g).sum:=by
 induction l with
 |nil=>simp
 |cons x l ih=>
  have h1:=h x (by simp)
  have h2:=ih fun s hs=>h s (by simp[hs])
  simp only[Ar,DI,AN,C7,Nat.mul_add];omega
theorem uC (d:Nat) {c:Chg} (h:W9 c):(Dn (d+4) (Kr c)).length≤650000:=by
 rw[Kr,N5]
 have h1:=Ee (f:=fun y=>(Dn (d+3) y).length) (B:=121000) (W8 (c:=c) (q:=fun y=>(Dn (d+3) y).length≤121000) (fun n=>CZ (bn (d+2) n) (by decide)) (fun x=>CZ (kh (d+1) x) (by decide))
  (CZ (JU (d+2) (s:=c.name) (by have:=h.name;omega)) (by have:=h.name;omega)) (CZ (JU (d+2) (s:=c.data) (by have:=h.data;omega)) (by have:=h.data;omega))
  (by
   rw[N5 (d+2),CG]
   have:=Ee (l:=c.lines) (f:=(fun a=>(Dn (d+2) a).length) ∘ Ch) (B:=3016) fun s hs=>by
    have h3:=h.line s hs
    exact CZ (JU (d+1) (s:=s) (by omega)) (by omega)
   have:=h.lines;omega)
  (by have:=pE d c.over;have:=h.over;omega))
 have h2:=B3 121000 (qC c)
 omega
theorem IM {α:Type} {l:List α} {f:α→Nat} {a:α} (h:a∈l):f a≤(l.map f).sum:=by
 induction l with
 |nil=>cases h
 |cons x l ih=>
  simp only[Ar,DI]
  rcases AI.1 h with rfl|h
  ·omega
  ·have:=ih h;omega
theorem L9 {p:Pat} (h:Fk p=false):p.author.length≤3000∧p.message.length≤3000∧p.deps.length≤20∧p.changes.length≤20∧ ∀ c∈p.changes,W9 c:=by
 unfold Fk at h
 simp only[CT,A8,Bl]at h
 obtain⟨⟨⟨h1,h2⟩,h3⟩,h4⟩:=h
 have ht:RR p=p.author.length+p.message.length+(p.changes.map GH).sum:=rfl
 refine⟨by omega,by omega,by omega,by omega,fun c hc=>?_⟩
 have h5:=h1 c hc
 simp only[bP,vY,Jq,CT,A8]at h5
 obtain⟨⟨h6,h7⟩,h8⟩:=h5
 have h9:=IM (f:=GH) hc
 have h10:GH c=c.name.length+c.data.length:=rfl
 refine⟨by omega,fun s hs=>?_,by omega,by omega,by omega⟩
 have:=IM (f:=List.length) hs
 unfold LK at h7
 omega
theorem Xt {p:Pat} (h:Fk p=false):ED p=false:=by
 obtain⟨h1,h2,h3,h4,h5⟩:=L9 h
 have hs:=Ee (l:=p.changes) (f:=Iq) (B:=81) fun c hc=>by have a:=(h5 c hc).lines;have b:=(h5 c hc).over;unfold Iq;omega
 unfold Fk at h
 unfold ED
 simp only[CT,A8,Bl]at h ⊢
 obtain⟨⟨⟨g1,g2⟩,g3⟩,g4⟩:=h
 refine⟨⟨⟨⟨fun c hc=>?_,by omega⟩,by omega⟩,by omega⟩,by omega⟩
 have k1:=g1 c hc
 have k2: ¬3000 < (GH c:Int):=by
  have:=IM (f:=GH) hc
  have ht:RR p=p.author.length+p.message.length+(p.changes.map GH).sum:=rfl
  omega
 simp only[Jq]at k1
 simp[k1,k2]
theorem Ek {p:Pat} (h:ED p=false):p.author.length≤30000∧p.message.length≤30000∧p.deps.length≤200∧p.changes.length≤200∧ ∀ c∈p.changes,W9 c:=by
 unfold ED at h
 simp only[CT,A8,Bl]at h
 obtain⟨⟨⟨⟨h1,h2⟩,h3⟩,h4⟩,_⟩:=h
 have ht:RR p=p.author.length+p.message.length+(p.changes.map GH).sum:=rfl
 refine⟨by omega,by omega,by omega,by omega,fun c hc=>?_⟩
 have h5:=h1 c hc
 simp only[bP,vY,Jq,CT,A8]at h5
 obtain⟨⟨⟨h6,h7⟩,h8⟩,h9⟩:=h5
 have h10:GH c=c.name.length+c.data.length:=rfl
 refine⟨by omega,fun s hs=>?_,by omega,by omega,by omega⟩
 have:=IM (f:=List.length) hs
 unfold LK at h7
 omega
theorem qJ {p:Pat} (h:ED p=false):(p.changes.map Iq).sum≤2000:=by
 unfold ED at h
 simp only[CT,A8]at h
 omega
theorem O9 {p:Pat} (h:ED p=false):W6 p:=by
 obtain⟨h1,h2,h3,h4,h5⟩:=Ek h
 have hsum:=qJ h
 refine⟨by omega,by omega,fun c hc=>⟨by have:=(h5 c hc).lines;omega,by have:=(h5 c hc).over;omega⟩,⟨?_,?_⟩,?_⟩
 ·refine Mb (d:=7) fun y hy=>?_
  simp only[AI,Ai,or_false]at hy
  rcases hy with rfl|rfl|rfl|rfl|rfl|rfl
  ·exact K7 6 (by decide)
  ·exact K7 6 (by omega)
  ·exact K7 6 (by omega)
  ·exact ah 6 _
  ·exact Mb fun y hy=>by obtain⟨x,_,rfl⟩:=AQ.1 hy;exact ij 5 x
  ·exact Mb fun y hy=>by obtain⟨x,hx,rfl⟩:=AQ.1 hy;exact se 2 (h5 x hx)
 ·rw[X4,Oh 7]
  simp only[Ar,CU,DI,Jo,XG 6,Tv 6,Oh 6,CG]
  have e1:=Ee (l:=p.deps) (f:=Ib 6 ∘ KC) (B:=1) fun x _=>EG (kb 5 x)
  have e2:=YF (l:=p.changes) (f:=Ib 6 ∘ Kr) (g:=Iq) (a:=13) (b:=3) fun x _=>u6 2 x
  have e3:=B3 13 h4
  omega
 ·rw[Na,X4,N5 7]
  simp only[Ar,CU,DI,Jo]
  have e0:(Dn 7 (Ch [113,117,105,108,116,49])).length≤22:=JU 6 (s:= [113,117,105,108,116,49]) (by decide)
  have e1:(Dn 7 (Ch p.author)).length≤16+p.author.length:=JU 6 (s:=p.author) (by omega)
  have e2:(Dn 7 (Ch p.message)).length≤16+p.message.length:=JU 6 (s:=p.message) (by omega)
  have e3:(Dn 7 (GB p.time)).length≤32:=bn 6 p.time
  have e8:(Dn 7 (E5 (p.deps.map KC))).length=2+((p.deps.map KC).map fun a=>(Dn 6 a).length).sum:=N5 6 _
  have e9:(Dn 7 (E5 (p.changes.map Kr))).length=2+((p.changes.map Kr).map fun a=>(Dn 6 a).length).sum:=N5 6 _
  rw[CG]at e8 e9
  have e4:=Ee (l:=p.deps) (f:=(fun a=>(Dn 6 a).length) ∘ KC) (B:=48) fun x _=>ki 5 x
  have e5:=Ee (l:=p.changes) (f:=(fun a=>(Dn 6 a).length) ∘ Kr) (B:=650000) fun x hx=>uC 2 (h5 x hx)
  have e6:=B3 650000 h4
  have e7:=B3 48 h3
  omega
def Cb (p:Pat):Str × Int:=if(C9 p).2≠0 then([],(C9 p).2)else KD p
theorem QQ (p:Pat):(Cb p).1.length≤65536:=by
 unfold Cb KD
 split
 ·simp
 ·split
  ·simp
  ·dsimp only;omega
instance vE (p:Pat) [hs:B1 (ED p=false)]:CB Tryz.prog 55 [.agg (Bz p)] (.tuple [.str (Cb p).1,.raw (.int .i64 (Cb p).2)]):=⟨by
 have i1:B1 (W6 p):=⟨O9 hs.out⟩
 refine Au Tryz.func55 Tryz.ntmps55 rfl (rs:= [.tmp 2,.tmp 3]) rfl rfl fun hb LF=>?_
 refine DQ fun b=>?_
 refine AY (fun h=>?_) (fun h=>?_)
 ·refine AX ?_
  refine HH ?_
  rw[Cb,if_pos h]
  exact .refl _
 ·refine AX ?_
  refine HH ?_
  rw[Cb,if_neg (by simp[h])]
  exact .refl _⟩
instance wC (p:Pat) [hs:B1 (ED p=false)]:CB Tryz.prog 19 [.agg (Bz p)] (.raw (.int .i64 (Cb p).2)):=⟨by
 refine Au Tryz.func19 Tryz.ntmps19 rfl (rs:= [.tmp 2]) rfl rfl fun hb LF=>?_
 refine DQ fun b=>?_
 exact B2 (.refl _)⟩
def FB (p:Pat):Dig × Int:=if(Cb p).2≠0 then(Dig.zero,(Cb p).2)else(fT (Cb p).1,0)
instance A01 (p:Pat) [hs:B1 (ED p=false)]:CB Tryz.prog 86 [.agg (Bz p)] (.tuple [.agg (eDig (FB p).1),.raw (.int .i64 (FB p).2)]):=⟨by
 have i1:B1 ((Cb p).1.length≤1000000):=⟨by have:=QQ p;omega⟩
 refine Au Tryz.func86 Tryz.ntmps86 rfl (rs:= [.cell 2 31,.tmp 3]) rfl rfl fun hb LF=>?_
 refine DQ fun b=>?_
 refine Fh fun b2=>?_
 refine AY (fun h=>?_) (fun h=>?_)
 ·refine AX ?_
  refine Jk rfl (.of_eq ?_)
  rw[FB,if_pos h]
 ·refine AX ?_
  refine Jk rfl (.of_eq ?_)
  rw[FB,if_neg (by simp[h])]⟩
end Go.Proofs
namespace Go.Q
open Go
structure ux {α β:Type} (B:α→β→Prop):Prop where
 out: ∀ a b,B a b
section
variable {P:Program} {N:Nat} {all:Array Oper} {K:Env→List Res→Prop} {fl:List Bool} {os:List Oper} {ρ:Env} {L:List Res} {Q:PPost} {c:Code} {d:Nat} {ty:TypeId} {pos:String} {af:Array Edge}
theorem tL {T sz by_:Nat} [hE:GV P T sz by_] {x0 x1 x2 x3:Operand} {a0 a1 a2 a3:PV} {α:Type} {f:α→List PV} {e0 e1 e2 e3:α} (q0:ρ.ev x0=a0) (q1:ρ.ev x1=a1) (q2:ρ.ev x2=a2) (q3:ρ.ev x3=a3) [hC0:GI a0 f e0] [hC1:GI a1 f e1] [hC2:GI a2 f e2] [hC3:GI a3 f e3] [hf:NX f sz] (h24:4*sz≤16777216)
  (k: ∀ t,AV P N all K fl.tail os (CV ρ d (.slice ([e0,e1,e2,e3].map f) t)) (.tok t [e0,e1,e2,e3].length sz::L)) (hd:Nat.blt d N=true:=by rfl) (hfl:fl.headD true=true:=by rfl):AV P N all K fl (⟨some d,.buildSlice T 4 #[(0,x0),(1,x1),(2,x2),(3,x3)],ty,pos,af,none⟩::os) ρ L:=
 Da rfl (PO hd) hfl (df (n:=4) (xs:= [x0,x1,x2,x3]) (cs:= [e0,e1,e2,e3].map f) rfl rfl h24 (by decide) (fun i h1 h2=>by
  match i,h1,h2 with
  |0,_,_=>exact⟨q0 ▸ hC0.out,hf.out e0⟩
  |1,_,_=>exact⟨q1 ▸ hC1.out,hf.out e1⟩
  |2,_,_=>exact⟨q2 ▸ hC2.out,hf.out e2⟩
  |3,_,_=>exact⟨q3 ▸ hC3.out,hf.out e3⟩
  |m+4,h1,_=>exact absurd h1 (by simp only[AN,Af];omega)) k)
theorem nI {A:Prop} {B:Nat→CF→Prop} (k: ∀ b t,B b t) (h:ux B→A:=by
  intro hB
  refine il ?_
  first|refine Ye (by rfl) fun b=>?_|refine C6 fun b=>?_
  refine il ?_
  refine tL (by(conv=>lhs;whnf);done) (by(conv=>lhs;whnf);done) (by(conv=>lhs;whnf);done) (by(conv=>lhs;whnf);done) (hC0:=(by first|infer_instance|fail)) (hC1:=(by first|infer_instance|fail)) (hC2:=(by first|infer_instance|fail)) (hC3:=(by first|infer_instance|fail)) (hf:=(by first|infer_instance|fail)) (by decide) fun t=>?_
  refine AX ?_
  exact hB.out b t):A:=h ⟨k⟩
end
def H2 (l:List Dig):Prop:=l.Pairwise Dig.lt
theorem H2.nil:H2 []:=List.Pairwise.nil
theorem H2.nodup {l:List Dig} (h:H2 l):l.Nodup:=List.Pairwise.imp (fun h=>Dig.ne_of_lt h) h
theorem KR {x d:Dig}: ∀ {l:List Dig},x∈FT l d↔x=d∨x∈l
 | []=>by simp[FT]
 |y::l=>by
  unfold FT
  split
  ·simp only[AI,KR (l:=l)]
   constructor
   ·rintro(h|h|h)
    ·exact .inr (.inl h)
    ·exact .inl h
    ·exact .inr (.inr h)
   ·rintro(h|h|h)
    ·exact .inr (.inl h)
    ·exact .inl h
    ·exact .inr (.inr h)
  ·split
   ·rename_i h;subst h
    simp only[AI]
    constructor
    ·exact .inr
    ·rintro(h|h)
     ·exact .inl h
     ·exact h
   ·simp only[AI]
theorem Lb {d:Dig}: ∀ {l:List Dig},H2 l→H2 (FT l d)
 | [],_=>by unfold FT;exact Fy _ _
 |y::l,h=>by
  obtain⟨h1,h2⟩:=Bq.1 h
  unfold FT
  split
  ·rename_i hy
   refine Bq.2 ⟨fun z hz=>?_,Lb h2⟩
   rcases KR.1 hz with rfl|hz
   ·exact hy
   ·exact h1 z hz
  ·rename_i hy
   split
   ·exact h
   ·rename_i hne
    have hlt:Dig.lt d y:=by
     rcases Dig.tri d y with h'|h'|h'
     ·exact h'
     ·exact absurd h'.symm hne
     ·exact absurd h' hy
    refine Bq.2 ⟨fun z hz=>?_,h⟩
    rcases AI.1 hz with rfl|hz
    ·exact hlt
    ·exact Dig.lt_trans hlt (h1 z hz)
theorem eh {l:List Dig} {d:Dig}:(FT l d).length≤l.length+1:=by
 induction l with
 |nil=>simp[FT]
 |cons y l ih=>
  unfold FT
  split
  ·simp only[AN];omega
  ·split<;>simp only[AN]<;>omega
theorem H2.ext: ∀ {l m:List Dig},H2 l→H2 m→(∀ d,d∈l↔d∈m)→l=m
 | [],[],_,_,_=>rfl
 | [],y::m,_,_,h=>absurd ((h y).2 (by simp)) (by simp)
 |x::l,[],_,_,h=>absurd ((h x).1 (by simp)) (by simp)
 |x::l,y::m,hl,hm,h=>by
  obtain⟨l1,l2⟩:=Bq.1 hl
  obtain⟨m1,m2⟩:=Bq.1 hm
  have e:x=y:=by
   rcases AI.1 ((h x).1 (by simp))with h1|h1
   ·exact h1
   ·rcases AI.1 ((h y).2 (by simp))with h2|h2
    ·exact h2.symm
    ·exact absurd (l1 y h2) (Dig.lt_asymm (m1 x h1))
  subst e
  congr 1
  refine H2.ext l2 m2 fun d=>?_
  have hd:=h d
  simp only[AI]at hd
  constructor
  ·intro h1
   rcases hd.1 (.inr h1)with h2|h2
   ·subst h2;exact absurd (l1 _ h1) (Dig.lt_irrefl _)
   ·exact h2
  ·intro h1
   rcases hd.2 (.inr h1)with h2|h2
   ·subst h2;exact absurd (m1 _ h1) (Dig.lt_irrefl _)
   ·exact h2
def Df (l m:List Dig):List Dig:=m.foldl FT l
theorem HB {x:Dig}: ∀ {m l:List Dig},x∈Df l m↔x∈l∨x∈m
 | [],l=>by simp[Df]
 |d::m,l=>by
  show x∈Df (FT l d) m↔_
  rw[HB,KR,AI]
  constructor
  ·rintro((h|h)|h)
   ·exact .inr (.inl h)
   ·exact .inl h
   ·exact .inr (.inr h)
  ·rintro(h|h|h)
   ·exact .inl (.inr h)
   ·exact .inl (.inl h)
   ·exact .inr h
theorem Fu: ∀ {m l:List Dig},H2 l→H2 (Df l m)
 | [],_,h=>h
 |d::m,l,h=>by show H2 (Df (FT l d) m);exact Fu (Lb h)
theorem Nk: ∀ {m l:List Dig},(Df l m).length≤l.length+m.length
 | [],_=>by simp[Df]
 |d::m,l=>by
  show(Df (FT l d) m).length≤_
  have h1:=Nk (m:=m) (l:=FT l d)
  have h2:=eh (l:=l) (d:=d)
  simp only[AN];omega
theorem Eg {α:Type} [DecidableEq α] {l:List α} (hl:l.Nodup) {m:List α} (h: ∀ d∈l,d∈m):l.length≤m.length:=by
 induction l generalizing m with
 |nil=>simp
 |cons x l ih=>
  obtain⟨h1,h2⟩:=Bf.1 hl
  have hx:x∈m:=h x (by simp)
  have:=ih h2 (m:=m.erase x) fun d hd=>by
   have hne:d≠x:=fun e=>h1 (e ▸ hd)
   exact(List.mem_erase_of_ne hne).2 (h d (by simp[hd]))
  rw[List.length_erase_of_mem hx]at this
  have hp:0 < m.length:=List.length_pos_of_mem hx
  simp only[AN];omega
def PZ (nd:Dig→List Dig) (out:List Dig):List Dig:=out.foldl (fun m x=>Df m (nd x)) out
def MG (nd:Dig→List Dig):Nat→List Dig→List Dig
 |0,out=>out
 |n+1,out=>MG nd n (PZ nd out)
inductive Reach (nd:Dig→List Dig) (ids:List Dig):Dig→Prop
 |base {d:Dig} (h:d∈ids):Reach nd ids d
 |step {x d:Dig} (h:Reach nd ids x) (hd:d∈nd x):Reach nd ids d
section
variable {nd:Dig→List Dig}
theorem Vl {y:Dig}: ∀ {l m:List Dig},y∈l.foldl (fun m x=>Df m (nd x)) m↔y∈m∨ ∃ x∈l,y∈nd x
 | [],m=>by simp
 |x::l,m=>by
  rw[BM,Vl,HB]
  simp only[AI,exists_eq_or_imp]
  rw[or_assoc]
theorem Vy: ∀ {l m:List Dig},H2 m→H2 (l.foldl (fun m x=>Df m (nd x)) m)
 | [],_,h=>h
 |x::l,m,h=>by rw[BM];exact Vy (Fu h)
theorem JL {y:Dig} {out:List Dig}:y∈PZ nd out↔y∈out∨ ∃ x∈out,y∈nd x:=Vl
theorem PY {out:List Dig} (h:H2 out):H2 (PZ nd out):=Vy h
theorem Oq: ∀ {n:Nat} {out:List Dig},H2 out→H2 (MG nd n out)
 |0,_,h=>h
 |n+1,_,h=>Oq (n:=n) (PY h)
theorem SN {ids:List Dig}: ∀ {n:Nat} {out:List Dig},(∀ d∈out,Reach nd ids d)→ ∀ d∈MG nd n out,Reach nd ids d
 |0,_,h=>h
 |n+1,out,h=>SN (n:=n) fun d hd=>by
  rcases JL.1 hd with h1|⟨x,hx,h1⟩
  ·exact h d h1
  ·exact .step (h x hx) h1
theorem ZW {U:List Dig} (hU: ∀ x∈U,∀ d∈nd x,d∈U): ∀ {n:Nat} {out:List Dig},(∀ d∈out,d∈U)→ ∀ d∈MG nd n out,d∈U
 |0,_,h=>h
 |n+1,out,h=>ZW hU (n:=n) fun d hd=>by
  rcases JL.1 hd with h1|⟨x,hx,h1⟩
  ·exact h d h1
  ·exact hU x (h x hx) d h1
theorem Vq: ∀ {n:Nat} {out:List Dig} {d:Dig},d∈out→d∈MG nd n out
 |0,_,_,h=>h
 |n+1,_,_,h=>Vq (n:=n) (JL.2 (.inl h))
theorem Qi {U:List Dig} (hU: ∀ x∈U,∀ d∈nd x,d∈U): ∀ {n:Nat} {out:List Dig},H2 out→(∀ d∈out,d∈U)→U.length+1≤out.length+n∨out= []∨(∀ x∈out,∀ d∈nd x,d∈out)→ ∀ x∈MG nd n out,∀ d∈nd x,d∈MG nd n out
 |0,out,ha,hu,h=>by
  rcases h with h|h|h
  ·have:=Eg ha.nodup hu
   omega
  ·subst h;intro x hx;cases hx
  ·exact h
 |n+1,out,ha,hu,h=>by
  have hu': ∀ d∈PZ nd out,d∈U:=ZW hU (n:=1) hu
  refine Qi hU (n:=n) (PY ha) hu' ?_
  by_cases hc: ∀ x∈out,∀ d∈nd x,d∈out
  ·refine .inr (.inr ?_)
   have e:PZ nd out=out:=H2.ext (PY ha) ha fun d=>by
    rw[JL]
    constructor
    ·rintro(h1|⟨x,hx,h1⟩)
     ·exact h1
     ·exact hc x hx d h1
    ·exact .inl
   rw[e];exact hc
  ·rcases h with h|h|h
   ·refine .inl ?_
    have:out.length+1≤(PZ nd out).length:=by
     have⟨x,hx⟩:=Classical.not_forall.1 hc
     have⟨hx1,hx2⟩:=Classical.not_imp.1 hx
     have⟨d,hd⟩:=Classical.not_forall.1 hx2
     have⟨hd1,hd2⟩:=Classical.not_imp.1 hd
     have hn:(d::out).Nodup:=Bf.2 ⟨hd2,ha.nodup⟩
     have:=Eg hn (m:=PZ nd out) fun y hy=>by
      rcases AI.1 hy with rfl|hy
      ·exact JL.2 (.inr ⟨x,hx1,hd1⟩)
      ·exact JL.2 (.inl hy)
     simpa using this
    omega
   ·subst h
    exact absurd (fun x hx=>by cases hx) hc
   ·exact absurd h hc
theorem ME {U ids:List Dig} (hU: ∀ x∈U,∀ d∈nd x,d∈U) (hi: ∀ d∈ids,d∈U) {n:Nat} (hn:U.length≤n) {d:Dig}:d∈MG nd n (Df [] ids)↔Reach nd ids d:=by
 have hin: ∀ d∈Df [] ids,d∈U:=fun d hd=>by
  rcases HB.1 hd with h|h
  ·cases h
  ·exact hi d h
 refine⟨fun h=>SN (fun d hd=>?_) d h,fun h=>?_⟩
 ·rcases HB.1 hd with h|h
  ·cases h
  ·exact .base h
 ·have ha:H2 (Df [] ids):=Fu .nil
  have hcl:=Qi (nd:=nd) hU (n:=n) ha hin (by
   cases hw:Df [] ids with
   |nil=>exact .inr (.inl rfl)
   |cons x l=>exact .inl (by simp;omega))
  induction h with
  |base h=>exact Vq (HB.2 (.inr h))
  |step h hd ih=>exact hcl _ ih _ hd
theorem Reach.in_ {U ids:List Dig} (hU: ∀ x∈U,∀ d∈nd x,d∈U) (hi: ∀ d∈ids,d∈U) {d:Dig} (h:Reach nd ids d):d∈U:=by
 induction h with
 |base h=>exact hi _ h
 |step h hd ih=>exact hU _ ih _ hd
end
section
variable (clo:Dig→List Dig)
end
end Go.Q
namespace Go.Proofs
open Go Go.Q
attribute [local irreducible] ER AV BA Fc
def Ks (c:Chg):List Ident:= [c.file,c.parent,c.after,c.before]++c.over
def FX (l:List Ident):List Dig:=(l.filter fun x=>!decide (x.patch=Dig.zero)).map (·.patch)
def Oa (m:List Dig) (c:Chg):List Dig:=Df m (FX (Ks c))
def BP (p:Pat):List Dig:=if(Cb p).2≠0 then []else p.changes.foldl Oa (Df [] p.deps)
theorem Q7 (l m:List Dig) (d:Dig):Df l (m++ [d])=FT (Df l m) d:=by
 unfold Df;rw[BO];rfl
theorem X6 (l:List Ident):(FX l).length≤l.length:=by
 unfold FX;rw[AR];exact Dk _ _
theorem Um {l:List Ident} {k:Nat} (h:k < l.length):FX (l.take (k+1))=FX (l.take k)++(if l[k].patch=Dig.zero then []else [l[k].patch]):=by
 unfold FX
 rw[A7 h,Fa,Ak]
 by_cases hz:l[k].patch=Dig.zero<;>simp[hz]
instance yJ (p:Pat) [hs:B1 (ED p=false)]:CB Tryz.prog 69 [.agg (Bz p)] (.slice ((BP p).map eDig) .ro):=⟨by
 obtain⟨_,_,hd,hch,hcs⟩:=Ek hs.out
 refine Au Tryz.func69 Tryz.ntmps69 rfl (rs:= [.tmp 2]) rfl rfl fun hb LF=>?_
 refine DQ fun b=>?_
 refine AY (fun h=>?_) (fun h=>?_)
 ·refine AX ?_
  refine B2 ?_
  rw[BP,if_pos h]
  exact .ro _ _
 rw[BP,if_neg (by simp[h])]
 refine AX ?_
 refine Ad (σ:=Nat × List Dig × CF) (fun k=>k.1≤p.deps.length∧k.2.1=Df [] (p.deps.take k.1)) (fun k=>p.deps.length - k.1) (fun k=> [(1,.raw (.pointer (some ⟨b,0,none⟩))),(3,.slice (k.2.1.map eDig) k.2.2),(4,.raw (.int .i64 k.1))]) (fun _=> .box b 40 (Bz p)::LF) (0,[],.nil) ⟨by simp,by simp[Df]⟩ ⟨rfl,rfl,rfl⟩ (.refl _) ?_
 rintro⟨k,out,t⟩ ⟨hk,ho⟩
 dsimp only at hk ho ⊢
 have hol:out.length≤200:=by
  rw[ho]
  have:=Nk (m:=p.deps.take k) (l:= [])
  simp only[Aa,Af]at this;omega
 refine AX ?_
 refine A6 (fun hc=>?_) (fun hc=>?_)
 ·have hlt:k < p.deps.length:=by omega
  have:B1 (out.length≤1000000):=⟨by omega⟩
  refine AX ?_
  refine⟨(k+1,FT out p.deps[k],.ro),⟨by dsimp only;omega,by dsimp only;rw[A7 hlt,Q7,ho]⟩,by dsimp only;omega,⟨rfl,rfl,rfl⟩,.refl _⟩
 rw[AE (by omega)]at ho
 refine AX ?_
 refine Ad (σ:=Nat × List Dig × CF) (fun k=>k.1≤p.changes.length∧k.2.1.length≤200+k.1*44∧k.2.1=(p.changes.take k.1).foldl Oa (Df [] p.deps)) (fun k=>p.changes.length - k.1) (fun k=> [(1,.raw (.pointer (some ⟨b,0,none⟩))),(3,.slice (k.2.1.map eDig) k.2.2),(5,.raw (.int .i64 k.1))]) (fun _=> .box b 40 (Bz p)::LF) (0,out,t) ⟨by simp,by simp;omega,by simp[ho]⟩ ⟨rfl,rfl,rfl⟩ (.refl _) ?_
 clear ho hol hk hc k out t
 rintro⟨k,out,t⟩ ⟨hk,hol,ho⟩
 dsimp only at hk hol ho ⊢
 refine AX ?_
 refine A6 (fun hc=>?_) (fun hc=>?_)
 ·have hlt:k < p.changes.length:=by omega
  have hov:=(hcs _ (AF hlt)).over
  refine nI fun b2 t2=>?_
  refine IJ fun t3=>?_
  generalize hl: [p.changes[k].file,p.changes[k].parent,p.changes[k].after,p.changes[k].before]++p.changes[k].over=l
  have hll:l.length≤44:=by rw[←hl];simp only[AA,AN,Af];omega
  refine Ad (σ:=Nat × List Dig × CF) (fun j=>j.1≤l.length∧j.2.1=Df out (FX (l.take j.1))) (fun j=>l.length - j.1) (fun j=> [(1,.raw (.pointer (some ⟨b,0,none⟩))),(3,.slice (j.2.1.map eDig) j.2.2),(5,.raw (.int .i64 k)),(7,.slice (l.map eIdent) t3),(8,.raw (.int .i64 j.1))]) (fun _=> .box b 40 (Bz p)::LF) (0,out,t) ⟨by simp,by simp[FX,Df]⟩ ⟨rfl,rfl,rfl,rfl,rfl⟩ (.cons _ (.cons _ (.refl _))) ?_
  rintro⟨j,m,u⟩ ⟨hj,hm⟩
  dsimp only at hj hm ⊢
  have hml:m.length≤200+k*44+44:=by
   rw[hm]
   have h1:=Nk (m:=FX (l.take j)) (l:=out)
   have h2:=X6 (l.take j)
   have h3:(l.take j).length≤44:=by rw[Aa];omega
   omega
  refine AX ?_
  refine A6 (fun hc2=>?_) (fun hc2=>?_)
  ·have hlt2:j < l.length:=by omega
   have e:=Um hlt2
   refine AX ?_
   refine AY (fun hz=>?_) (fun hz=>?_)
   ·have:B1 (m.length≤1000000):=⟨by omega⟩
    refine AX ?_
    rw[if_neg hz]at e
    refine⟨(j+1,FT m l[j].patch,.ro),⟨by dsimp only;omega,by dsimp only;rw[e,Q7,hm]⟩,by dsimp only;omega,⟨rfl,rfl,rfl,rfl,rfl⟩,.refl _⟩
   ·refine AX ?_
    rw[if_pos hz,BX]at e
    refine⟨(j+1,m,u),⟨by dsimp only;omega,by dsimp only;rw[e,hm]⟩,by dsimp only;omega,⟨rfl,rfl,rfl,rfl,rfl⟩,.refl _⟩
  ·refine AX ?_
   rw[AE (by omega)]at hm
   have e:(p.changes.take (k+1)).foldl Oa (Df [] p.deps)=m:=by
    rw[A7 hlt,BO,←ho,hm,←hl];rfl
   refine⟨(k+1,m,u),⟨by dsimp only;omega,by dsimp only;omega,e.symm⟩,by dsimp only;omega,⟨rfl,rfl,rfl⟩,.refl _⟩
 ·refine AX ?_
  refine B2 ?_
  rw[AE (by omega)]at ho
  rw[←ho]
  exact .ro _ _⟩
def vX (x:Sto):Nat:=(x.patch.changes.map Iq).sum
def Fv (s:List Sto):Bool:=(s.take 9).any (fun x=>Fk x.patch)||decide (8 < (s.length:Int))||decide (300 < (((s.take 9).map vX).sum:Int))
theorem o9 {c:Chg} (h:W9 c):Iq c≤81:=by have:=h.lines;have:=h.over;unfold Iq;omega
instance yK (s:List Sto) (t:CF):CB Tryz.prog 85 [.slice (s.map eSto) t,.raw (.int .i64 8)] (.raw (.bool (Fv s))):=⟨by
 refine Au Tryz.func85 Tryz.ntmps85 rfl (rs:= [.tmp 4]) rfl rfl fun hb LF=>?_
 have hlen:s.length≤140737488355328:=(hb (.slice (s.map eSto) t) (by simp)).slice_map
 refine AX ?_
 refine Ad (σ:=Nat × Nat) (fun k=>k.1≤s.length∧k.1≤9∧(∀ i (h:i < s.length),i < k.1→Fk s[i].patch=false)∧k.2≤k.1*1620∧k.2=((s.take k.1).map vX).sum) (fun k=>s.length - k.1) (fun k=> [(0,.slice (s.map eSto) t),(1,.raw (.int .i64 8)),(5,.raw (.int .i64 (k.2:Int))),(6,.raw (.int .i64 (k.1:Int)))]) (fun _=>LF) (0,0) ⟨by simp,by simp,by simp,by simp,by simp⟩ ⟨rfl,rfl,rfl,rfl⟩ (.refl _) ?_
 rintro⟨i,n⟩ ⟨hi,hi9,hg,hn,hs⟩
 dsimp only at hi hi9 hg hn hs ⊢
 have fin:(i:Int) < s.length∧(i:Int)≤8∨ ¬((i:Int) < s.length∧(i:Int)≤8):=Classical.em _
 refine AX ?_
 refine BZ [(16,.raw (.bool (decide ((i:Int) < s.length∧(i:Int)≤8)))),(0,.slice (s.map eSto) t),(1,.raw (.int .i64 8)),(5,.raw (.int .i64 (n:Int))),(6,.raw (.int .i64 (i:Int)))] (LF) ?_ ?_
 ·repeat' (first|(refine A6 (fun h=>?_) (fun h=>?_)<;>refine AX ?_)|(refine AY (fun h=>?_) (fun h=>?_)<;>refine AX ?_)|(refine AW (fun h=>?_) (fun h=>?_)<;>refine AX ?_)|(refine Av (fun h=>?_) (fun h=>?_)<;>(have h2:=h;(try simp only[AB,A8,AJ,AL]at h2);refine CK ?_)))
  all_goals (refine⟨⟨CD (by rfl) ?_,rfl,rfl,rfl,rfl⟩,.refl _⟩;first|(simp_all;done)|(simp_all;omega)|grind)
 refine AX ?_
 clear fin
 refine A6 (fun hc=>?_) (fun hc=>?_)
 ·have hlt:i < s.length:=by omega
  refine AX ?_
  refine AW (fun h=>?_) (fun h=>?_)
  ·refine AX ?_
   refine B2 (.of_eq ?_)
   have:(s.take 9).any (fun x=>Fk x.patch)=true:=by
    rw[Bu]
    exact⟨s[i],AZ.2 ⟨i,by rw[Aa];omega,by simp⟩,h⟩
   rw[Fv,this];rfl
  obtain⟨_,_,_,hch,hcs⟩:=L9 h
  refine AX ?_
  refine Ad (σ:=Nat × Nat) (fun j=>j.1≤s[i].patch.changes.length∧j.2≤n+j.1*81∧j.2=n+((s[i].patch.changes.take j.1).map Iq).sum) (fun j=>s[i].patch.changes.length - j.1) (fun j=> [(0,.slice (s.map eSto) t),(1,.raw (.int .i64 8)),(5,.raw (.int .i64 (j.2:Int))),(6,.raw (.int .i64 (i:Int))),(7,.raw (.int .i64 (j.1:Int)))]) (fun _=>LF) (0,n) ⟨by simp,by simp,by simp⟩ ⟨rfl,rfl,rfl,rfl,rfl⟩ (.refl _) ?_
  rintro⟨j,m⟩ ⟨hj,hm,hms⟩
  dsimp only at hj hm hms ⊢
  refine AX ?_
  refine A6 (fun hc2=>?_) (fun hc2=>?_)
  ·have hlt2:j < s[i].patch.changes.length:=by omega
   have hco:=hcs _ (AF hlt2)
   have h81:=o9 hco
   have hl40:=hco.lines
   have ho40:=hco.over
   have e:=K8 (f:=Iq) hlt2
   have e2:Iq s[i].patch.changes[j]=1+s[i].patch.changes[j].lines.length+s[i].patch.changes[j].over.length:=rfl
   refine AX ?_
   refine⟨(j+1,m+Iq s[i].patch.changes[j]),⟨by dsimp only;omega,by dsimp only;omega,by dsimp only;omega⟩,by dsimp only;omega,⟨rfl,rfl,?_,rfl,rfl⟩,.refl _⟩
   show PV.raw (Value.int .i64 _)=PV.raw (Value.int .i64 _)
   congr 2;dsimp only;omega
  ·refine AX ?_
   rw[AE (by omega)]at hms
   have e:=K8 (f:=vX) hlt
   refine⟨(i+1,m),⟨by dsimp only;omega,by dsimp only;omega,fun x hx hxi=>?_,by dsimp only;omega,?_⟩,by dsimp only;omega,⟨rfl,rfl,rfl,rfl⟩,.refl _⟩
   ·rcases B9 x i with h'|h'
    ·exact hg x hx h'
    ·have:x=i:=by dsimp only at hxi;omega
     subst this;exact h
   ·dsimp only;rw[e,←hs];exact hms
 ·refine AX ?_
  have hany:(s.take 9).any (fun x=>Fk x.patch)=false:=by
   rw[Bl];intro x hx
   obtain⟨j,hj,rfl⟩:=AZ.1 hx
   rw[Aa]at hj
   simp only[FG]
   rw[hg j (by omega) (by omega)];simp
  have htk:s.take i=s.take 9:=by
   by_cases h9:i=9
   ·rw[h9]
   ·rw[AE (by omega),AE (by omega)]
  rw[htk]at hs
  have key:Fv s=(decide (8 < (s.length:Int))||decide (300 < (n:Int))):=by rw[Fv,hany,GU,←hs]
  rw[key]
  clear key hany hs htk hg
  repeat' (first|(refine A6 (fun h=>?_) (fun h=>?_)<;>refine AX ?_)|(refine AY (fun h=>?_) (fun h=>?_)<;>refine AX ?_)|(refine AW (fun h=>?_) (fun h=>?_)<;>refine AX ?_)|(refine Av (fun h=>?_) (fun h=>?_)<;>(have h2:=h;(try simp only[AB,A8,AJ,AL]at h2);refine CK ?_)))
  all_goals (refine B2 (.of_eq ?_);first|(simp_all;done)|grind)⟩
instance w8 (s:List Sto) (t:CF):CB Tryz.prog 33 [.slice (s.map eSto) t] (.raw (.bool (Fv s))):=⟨by
 refine Au Tryz.func33 Tryz.ntmps33 rfl (rs:= [.tmp 2]) rfl rfl fun hb LF=>?_
 refine AX ?_
 exact B2 (.refl _)⟩
def HF (s:List Sto):Prop:=s.length≤200∧ ∀ x∈s,ED x.patch=false
def Ga (s:List Sto) (out:List Dig) (k:Int) (i:Nat):Int:=
 if(¬(s.getD i Sto.zero).id∈out∧DW out (BP (s.getD i Sto.zero).patch)=true)∧(k < 0∨Ep (s.getD i Sto.zero).id (s.getD k.toNat Sto.zero).id < 0)then(i:Int)else k
def Lr (s:List Sto) (out:List Dig):Int:=(List.range s.length).foldl (Ga s out) (-1)
def QO (s:List Sto):Nat→List Dig→List Dig
 |0,out=>out
 |n+1,out=>if Lr s out < 0 then out else QO s n (out++ [(s.getD (Lr s out).toNat Sto.zero).id])
def BK (s:List Sto):List Dig:=QO s s.length []
theorem LQ {s:List Sto} {out:List Dig} (n:Nat): -1≤(List.range n).foldl (Ga s out) (-1)∧(List.range n).foldl (Ga s out) (-1) < n:=by
 induction n with
 |zero=>simp
 |succ n ih=>
  rw[Bt]
  generalize (List.range n).foldl (Ga s out) (-1)=k at ih
  unfold Ga
  split<;>omega
instance yI (s:List Sto) (t:CF) [hs:B1 (HF s)]:CB Tryz.prog 90 [.slice (s.map eSto) t] (.slice ((BK s).map eDig) .ro):=⟨by
 obtain⟨hl8,hgr⟩:=hs.out
 refine Au Tryz.func90 Tryz.ntmps90 rfl (rs:= [.tmp 2]) rfl rfl fun hb LF=>?_
 refine AX ?_
 refine EO 32 ?_
 refine Ad (σ:=Nat × List Dig × CF) (fun k=>k.1≤s.length∧k.2.1.length+k.1=s.length∧BK s=QO s k.1 k.2.1) (fun k=>k.1) (fun k=> [(0,.slice (s.map eSto) t),(3,.slice (k.2.1.map eDig) k.2.2)]) (fun k=> .tok k.2.2 k.2.1.length 32::LF) (s.length,[],.nil) ⟨by simp,by simp,rfl⟩ ⟨rfl,rfl⟩ (.refl _) ?_
 rintro⟨n,out,u⟩ ⟨hn,hol,ho⟩
 dsimp only at hn hol ho ⊢
 refine AX ?_
 refine A6 (fun hc=>?_) (fun hc=>?_)
 ·obtain⟨m,rfl⟩: ∃ m,n=m+1:=⟨n - 1,by omega⟩
  rw[QO]at ho
  have hpr:=LQ (s:=s) (out:=out) s.length
  refine AX ?_
  refine Ad (σ:=Nat) (fun i=>i≤s.length) (fun i=>s.length - i) (fun i=> [(0,.slice (s.map eSto) t),(3,.slice (out.map eDig) u),(4,.raw (.int .i64 ((List.range i).foldl (Ga s out) (-1)))),(5,.raw (.int .i64 (i:Int)))]) (fun _=> .tok u out.length 32::LF) 0 (by simp) ⟨rfl,rfl,rfl,rfl⟩ (.refl _) ?_
  intro i hi
  have hkr:=LQ (s:=s) (out:=out) i
  have hsucc:=Bt (Ga s out) (-1) i
  generalize hkk:(List.range i).foldl (Ga s out) (-1)=k at hkr hsucc ⊢
  refine AX ?_
  refine A6 (fun hc2=>?_) (fun hc2=>?_)
  ·have hlt:i < s.length:=by omega
   have i1:B1 (ED s[i].patch=false):=⟨hgr _ (AF hlt)⟩
   have e0:s.getD i Sto.zero=s[i]:=by simp[List.getD,hlt]
   rw[Ga,e0]at hsucc
   refine AX ?_
   refine BZ [(53,.raw (.bool (decide ((¬s[i].id∈out∧DW out (BP s[i].patch)=true)∧(k < 0∨Ep s[i].id (s.getD k.toNat Sto.zero).id < 0))))),(0,.slice (s.map eSto) t),(3,.slice (out.map eDig) u),(4,.raw (.int .i64 k)),(5,.raw (.int .i64 (i:Int)))] (.tok u out.length 32::LF) ?_ ?_
   ·repeat' (first|(refine A6 (fun h=>?_) (fun h=>?_)<;>refine AX ?_)|(refine AY (fun h=>?_) (fun h=>?_)<;>refine AX ?_)|(refine AW (fun h=>?_) (fun h=>?_)<;>refine AX ?_)|(refine Av (fun h=>?_) (fun h=>?_)<;>(have h2:=h;(try simp only[AB,A8,AJ,AL]at h2);refine CK ?_)))
    all_goals (refine⟨⟨CD (by rfl) ?_,rfl,rfl,rfl,rfl⟩,.refl _⟩;first|(simp_all;done)|(have hkl:k.toNat < s.length:=(by omega);simp_all[List.getD];done)|grind)
   refine AX ?_
   refine A6 (fun h=>?_) (fun h=>?_)
   ·refine AX ?_
    rw[if_pos h]at hsucc
    refine⟨i+1,by omega,by dsimp only;omega,⟨rfl,rfl,?_,rfl⟩,.refl _⟩
    rw[hsucc];rfl
   ·refine AX ?_
    rw[if_neg h]at hsucc
    refine⟨i+1,by omega,by dsimp only;omega,⟨rfl,rfl,?_,rfl⟩,.refl _⟩
    rw[hsucc];rfl
  ·have hii:i=s.length:=by omega
   subst hii
   have hpk:Lr s out=k:=hkk
   rw[hpk]at ho
   refine AX ?_
   refine A6 (fun h=>?_) (fun h=>?_)
   ·refine AX ?_
    rw[if_pos h]at ho
    refine B2 ?_
    rw[ho];exact .ro _ _
   ·rw[if_neg h]at ho
    have hkl:k.toNat < s.length:=by omega
    have e0:s.getD k.toNat Sto.zero=s[k.toNat]:=by simp[List.getD,hkl]
    rw[e0]at ho
    refine Hq fun u'=>?_
    refine⟨(m,out++ [s[k.toNat].id],u'),⟨by dsimp only;omega,by dsimp only;rw[AA,B6];omega,ho⟩,by dsimp only;omega,⟨rfl,rfl⟩,.refl _⟩
 ·refine AX ?_
  have hn0:n=0:=by omega
  subst hn0
  refine B2 ?_
  rw[ho];exact .ro _ _⟩
end Go.Proofs
