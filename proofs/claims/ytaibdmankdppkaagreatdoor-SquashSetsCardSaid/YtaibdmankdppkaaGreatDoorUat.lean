/- Plain laws: one patch squashed, one patch split into a single part. -/
import Derived.Test.YtaibdmankdppkaaGreatDoorUas
set_option linter.unusedSimpArgs false
set_option linter.unusedVariables false
namespace Go.Proofs
open Go Go.Q Go.Sort
theorem XR {t:List Sto} {x:Sto} (v:Bc (Jd t x)):getS (Jd t x) x.id=some x.patch:=v.getS (Hq.2 (.inl rfl))
theorem Iu.get {s:List Sto} {l:List Dig} {m:Mta} {t:List Sto} {id:Dig} (h:Iu s l m t id):getS t id=Option.some (IV s l m):=by
 have hv:=h.val
 rw[h.is]at hv ⊢
 exact XR hv
theorem Iu.len {s:List Sto} {l:List Dig} {m:Mta} {t:List Sto} {id:Dig} (h:Iu s l m t id):t.length=(FG s l).length+1:=by
 rw[h.is,TV]
theorem Iu.other {s:List Sto} {l:List Dig} {m:Mta} {t:List Sto} {id:Dig} (h:Iu s l m t id) {x:Sto} (hx:x∈s) (hl:x.id∉l):getS t x.id=Option.some x.patch:=
 h.val.getS (by rw[h.is];exact Hq.2 (.inr (Tc.2 ⟨hx,hl⟩)))
end Go.Proofs
namespace Go.Proofs
open Go Go.Q
attribute [local irreducible] Eb AV Ga BG Fu
theorem ZL (s:List Sto) (t:C9) (l:List Dig) (u:C9) (hv:Bc s):C6 Tryz.prog 41 [.slice (s.map eSto) t,.slice (l.map eDig) u] (.raw (.bool (Kd s l))):=⟨by
 refine Av Tryz.func41 Tryz.ntmps41 rfl (rs:= [.tmp 4]) rfl rfl fun hb LF=>?_
 have hs:=hv.close.1
 have hsl:=hs.1
 unfold Kd
 refine wf ?_
 refine AZ (σ:=Nat) (fun k=>k≤s.length∧(s.take k).any (fun x=>!decide (x.id∈l)&&(BB x.patch).any fun d=>decide (d∈l))=false) (fun k=>s.length - k) (fun k=> [(0,.slice (s.map eSto) t),(1,.slice (l.map eDig) u),(5,.raw (.int .i64 k))]) (fun _=>LF) 0 ⟨by simp,by simp⟩ ⟨rfl,rfl,rfl⟩ (.refl _) ?_
 rintro k ⟨hk,hq⟩
 refine wf ?_
 refine A7 (fun hc=>?_) (fun hc=>?_)
 ·have hlt:k < s.length:=by omega
  have i1:Aw (E6 s[k].patch=false):=⟨hs.2 _ (AG hlt)⟩
  refine wf ?_
  refine A7 (fun h=>?_) (fun h=>?_)
  ·refine wf ?_
   exact⟨k+1,⟨by omega,by rw[OQ hlt,hq];simp[h]⟩,by dsimp only;omega,⟨rfl,rfl,rfl⟩,.refl _⟩
  have hnl:=Vi hv (AG hlt)
  refine wf ?_
  refine AZ (σ:=Nat) (fun j=>j≤(BB s[k].patch).length∧((BB s[k].patch).take j).any (fun d=>decide (d∈l))=false) (fun j=>(BB s[k].patch).length - j) (fun j=> [(0,.slice (s.map eSto) t),(1,.slice (l.map eDig) u),(5,.raw (.int .i64 k)),(6,.slice ((BB s[k].patch).map eDig) .ro),(7,.raw (.int .i64 j))]) (fun _=>LF) 0 ⟨by simp,by simp⟩ ⟨rfl,rfl,rfl,rfl,rfl⟩ (.refl _) ?_
  rintro j ⟨hj,hr⟩
  refine wf ?_
  refine A7 (fun hc2=>?_) (fun hc2=>?_)
  ·have hjl:j < (BB s[k].patch).length:=by omega
   refine wf ?_
   refine A7 (fun h2=>?_) (fun h2=>?_)
   ·refine wf ?_
    refine Ax (.of_eq ?_)
    have:(s.any fun x=>!decide (x.id∈l)&&(BB x.patch).any fun d=>decide (d∈l))=true:=Bo.2 ⟨s[k],AG hlt,by
     simp only[h,decide_false,Y0,E5]
     exact Bo.2 ⟨_,AG hjl,BO h2⟩⟩
    rw[this]
   ·refine wf ?_
    exact⟨j+1,⟨by omega,by rw[OQ hjl,hr];simp[h2]⟩,by dsimp only;omega,⟨rfl,rfl,rfl,rfl,rfl⟩,.refl _⟩
  ·rw[AA (by omega)]at hr
   refine wf ?_
   exact⟨k+1,⟨by omega,by rw[OQ hlt,hq,hr];simp⟩,by dsimp only;omega,⟨rfl,rfl,rfl⟩,.refl _⟩
 ·rw[AA (by omega)]at hq
  refine wf ?_
  exact Ax (.of_eq (by rw[hq]))⟩
theorem ZF (s:List Sto) (t:C9) (l:List Dig) (u:C9) (hs:s.length≤1000):C6 Tryz.prog 44 [.slice (s.map eSto) t,.slice (l.map eDig) u] (.slice ((FG s l).map eSto) .ro):=⟨by
 refine Av Tryz.func44 Tryz.ntmps44 rfl (rs:= [.tmp 4]) rfl rfl fun hb LF=>?_
 refine wf ?_
 refine EP 37 ?_
 refine AZ (σ:=Nat × C9) (fun k=>k.1≤s.length) (fun k=>s.length - k.1) (fun k=> [(0,.slice (s.map eSto) t),(1,.slice (l.map eDig) u),(5,.slice ((FG (s.take k.1) l).map eSto) k.2),(6,.raw (.int .i64 k.1))]) (fun k=> .tok k.2 (FG (s.take k.1) l).length 37::LF) (0,.nil) (by simp) ⟨rfl,rfl,rfl,rfl⟩ (.refl _) ?_
 rintro⟨k,v⟩ hk
 dsimp only at hk
 refine wf ?_
 refine A7 (fun hc=>?_) (fun hc=>?_)
 ·have hl:(FG (s.take k) l).length≤k:=CT (CX _ _) (by simp;omega)
  have e:FG (s.take (k+1)) l=FG (s.take k) l++FG [s[k]] l:=by
   rw[A6 (by omega)];simp only[FG,DU]
  refine wf ?_
  refine AR (fun h=>?_) (fun h=>?_)
  ·refine aQ fun v'=>?_
   have e2:FG [s[k]] l= [s[k]]:=by simp[FG,h]
   rw[e2]at e
   refine wf ?_
   refine⟨(k+1,v'),by dsimp only;omega,by dsimp only;omega,⟨rfl,rfl,by dsimp only;rw[e];rfl,rfl⟩,by dsimp only;rw[e];exact .refl _⟩
  ·refine wf ?_
   have e2:FG [s[k]] l= []:=by simp[FG,h]
   rw[e2,BQ]at e
   refine⟨(k+1,v),by dsimp only;omega,by dsimp only;omega,⟨rfl,rfl,by dsimp only;rw[e];rfl,rfl⟩,by dsimp only;rw[e];exact .refl _⟩
 ·rw[AA (by omega)]
  refine wf ?_
  exact Ax (.ros rfl)⟩
def NG (c:Chg):Nat:=if c.kind=5 then 2*c.lines.length+1 else 1
instance uI (c:Chg) [hs:Aw (c.lines.length≤1000000)]:C6 Tryz.prog 133 [.agg (eChg c)] (.raw (.int .i64 (NG c))):=⟨by
 have hl:=hs.out
 refine Av Tryz.func133 Tryz.ntmps133 rfl (rs:= [.tmp 2]) rfl rfl fun hb LF=>?_
 refine wf ?_
 refine A7 (fun h=>?_) (fun h=>?_)
 ·refine wf ?_
  refine Ax (.of_eq ?_)
  rw[NG,if_pos h]
  congr 2
 ·refine wf ?_
  refine Ax (.of_eq ?_)
  rw[NG,if_neg h]
  rfl⟩
theorem lF {c:Chg} (h1:1≤c.kind) (h7:c.kind≤7):Kq c=NG c:=by
 unfold Kq NG Dw
 by_cases k1:c.kind=1
 ·simp[k1]
 by_cases k2:c.kind=2
 ·simp[k2]
 by_cases k3:c.kind=3
 ·simp[k3]
 by_cases k4:c.kind=4
 ·simp[k4]
 by_cases k6:c.kind=6
 ·simp[k6]
 by_cases k7:c.kind=7
 ·simp[k7]
 have k5:c.kind=5:=by omega
 simp[k5]
 omega
theorem Bc.kinds {s:List Sto} (v:Bc s) {x:Sto} (hx:x∈s): ∀ c∈x.patch.changes,1≤c.kind∧c.kind≤7:=fun c hc=>by
 have hp:=Ht (Js (v.id x hx).1).1
 obtain⟨i,hi,rfl⟩:=Ai.1 hc
 have:=hp.fields i hi
 unfold C3 at this
 split at this
 ·omega
 ·rename_i h
  omega
theorem cJ {s:List Sto} (v:Bc s) {x:Sto} (hx:x∈s):C6 Tryz.prog 105 [.agg (Bh x.patch)] (.raw (.int .i64 (cntS s x.id))):=⟨by
 have hb0:=v.close.1.2 x hx
 have i1:Aw (E6 x.patch=false):=⟨hb0⟩
 obtain⟨_,_,g1,g2,gch⟩:=EY hb0
 have hp:=Ht (Js (v.id x hx).1).1
 have ck: ∀ t:Unit,C6 Tryz.prog 19 [.agg (Bh x.patch)] (.raw (.int .i64 0)):=fun _=>by
  have:=gv x.patch
  rw[show(CN x.patch).2=0 by
   have:=(v.id x hx).1
   rw[Ei]at this
   split at this
   ·rename_i h;exact absurd this h
   ·rename_i h;simpa using h]at this
  exact this
 have ck:=ck ()
 have hcn:cntS s x.id=DW x.patch.changes x.patch.changes.length:=by rw[v.cntS hx,hp.cnt]
 have hc16:cntS s x.id≤16200:=by rw[v.cntS hx];exact(EB hb0).1
 refine Av Tryz.func105 Tryz.ntmps105 rfl (rs:= [.tmp 2]) rfl rfl fun hb LF=>?_
 refine wf ?_
 refine AZ (σ:=Nat) (fun k=>k≤x.patch.changes.length) (fun k=>x.patch.changes.length - k) (fun k=> [(1,.pt (Bh x.patch) 0),(3,.raw (.int .i64 (DW x.patch.changes k))),(4,.raw (.int .i64 k))]) (fun _=>LF) 0 (by omega) ⟨rfl,by rw[Ow];rfl,rfl⟩ (.refl _) ?_
 rintro k hk
 have hm:=Eo x.patch.changes hk
 refine wf ?_
 refine A7 (fun hc=>?_) (fun hc=>?_)
 ·have hlt:k < x.patch.changes.length:=by omega
  have hch:=AG hlt
  have i2:Aw (x.patch.changes[k].lines.length≤1000000):=⟨by have:=(gch _ hch).lines;omega⟩
  have hck:NG x.patch.changes[k]=Kq x.patch.changes[k]:=(lF (v.kinds hx _ hch).1 (v.kinds hx _ hch).2).symm
  have hs:=IW hlt
  have hm2:=Eo x.patch.changes (show k+1≤x.patch.changes.length by omega)
  have e:(DW x.patch.changes k:Int)+(NG x.patch.changes[k]:Int)=DW x.patch.changes (k+1):=by rw[hck,hs];omega
  refine wf ?_
  refine⟨k+1,by omega,by dsimp only;omega,⟨rfl,?_,rfl⟩,.refl _⟩
  show PV.raw (.int .i64 ((DW x.patch.changes k:Int)+(NG x.patch.changes[k]:Int)))=_
  rw[e]
 ·have:k=x.patch.changes.length:=by omega
  subst this
  refine wf ?_
  exact Ax (.of_eq (by rw[hcn]))⟩
end Go.Proofs
