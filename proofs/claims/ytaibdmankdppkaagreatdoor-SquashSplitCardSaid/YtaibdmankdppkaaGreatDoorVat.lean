/- Plain laws: one patch squashed, one patch split into a single part. -/
import Derived.Test.YtaibdmankdppkaaGreatDoorVas
set_option linter.unusedSimpArgs false
set_option linter.unusedVariables false
namespace Go.Proofs
open Go Go.Q Go.Sort
end Go.Proofs
namespace Go.Proofs
open Go Go.Q
attribute [local irreducible] EY AU GP BH Fk
theorem ZL (s:List Sto) (t:CD) (l:List Dig) (u:CD) (hv:Bx s):C9 Tryz.prog 41 [.slice (s.map eSto) t,.slice (l.map eDig) u] (.raw (.bool (Nc s l))):=⟨by
 refine Av Tryz.func41 Tryz.ntmps41 rfl (rs:= [.tmp 4]) rfl rfl fun hb LF=>?_
 have hs:=hv.close.1
 have hsl:=hs.1
 unfold Nc
 refine wf ?_
 refine AZ (σ:=Nat) (fun k=>k≤s.length∧(s.take k).any (fun x=>!decide (x.id∈l)&&(BL x.patch).any fun d=>decide (d∈l))=false) (fun k=>s.length - k) (fun k=> [(0,.slice (s.map eSto) t),(1,.slice (l.map eDig) u),(5,.raw (.int .i64 k))]) (fun _=>LF) 0 ⟨by simp,by simp⟩ ⟨rfl,rfl,rfl⟩ (.refl _) ?_
 rintro k ⟨hk,hq⟩
 refine wf ?_
 refine A6 (fun hc=>?_) (fun hc=>?_)
 ·have hlt:k < s.length:=by omega
  have i1:Ay (E4 s[k].patch=false):=⟨hs.2 _ (AH hlt)⟩
  refine wf ?_
  refine A6 (fun h=>?_) (fun h=>?_)
  ·refine wf ?_
   exact⟨k+1,⟨by omega,by rw[UZ hlt,hq];simp[h]⟩,by dsimp only;omega,⟨rfl,rfl,rfl⟩,.refl _⟩
  have hnl:=Vg hv (AH hlt)
  refine wf ?_
  refine AZ (σ:=Nat) (fun j=>j≤(BL s[k].patch).length∧((BL s[k].patch).take j).any (fun d=>decide (d∈l))=false) (fun j=>(BL s[k].patch).length - j) (fun j=> [(0,.slice (s.map eSto) t),(1,.slice (l.map eDig) u),(5,.raw (.int .i64 k)),(6,.slice ((BL s[k].patch).map eDig) .ro),(7,.raw (.int .i64 j))]) (fun _=>LF) 0 ⟨by simp,by simp⟩ ⟨rfl,rfl,rfl,rfl,rfl⟩ (.refl _) ?_
  rintro j ⟨hj,hr⟩
  refine wf ?_
  refine A6 (fun hc2=>?_) (fun hc2=>?_)
  ·have hjl:j < (BL s[k].patch).length:=by omega
   refine wf ?_
   refine A6 (fun h2=>?_) (fun h2=>?_)
   ·refine wf ?_
    refine Aw (.of_eq ?_)
    have:(s.any fun x=>!decide (x.id∈l)&&(BL x.patch).any fun d=>decide (d∈l))=true:=Bn.2 ⟨s[k],AH hlt,by
     simp only[h,decide_false,Bool.not_false,EJ]
     exact Bn.2 ⟨_,AH hjl,BC h2⟩⟩
    rw[this]
   ·refine wf ?_
    exact⟨j+1,⟨by omega,by rw[UZ hjl,hr];simp[h2]⟩,by dsimp only;omega,⟨rfl,rfl,rfl,rfl,rfl⟩,.refl _⟩
  ·rw[AB (by omega)]at hr
   refine wf ?_
   exact⟨k+1,⟨by omega,by rw[UZ hlt,hq,hr];simp⟩,by dsimp only;omega,⟨rfl,rfl,rfl⟩,.refl _⟩
 ·rw[AB (by omega)]at hq
  refine wf ?_
  exact Aw (.of_eq (by rw[hq]))⟩
theorem ZF (s:List Sto) (t:CD) (l:List Dig) (u:CD) (hs:s.length≤1000):C9 Tryz.prog 44 [.slice (s.map eSto) t,.slice (l.map eDig) u] (.slice ((Gf s l).map eSto) .ro):=⟨by
 refine Av Tryz.func44 Tryz.ntmps44 rfl (rs:= [.tmp 4]) rfl rfl fun hb LF=>?_
 refine wf ?_
 refine EC 37 ?_
 refine AZ (σ:=Nat × CD) (fun k=>k.1≤s.length) (fun k=>s.length - k.1) (fun k=> [(0,.slice (s.map eSto) t),(1,.slice (l.map eDig) u),(5,.slice ((Gf (s.take k.1) l).map eSto) k.2),(6,.raw (.int .i64 k.1))]) (fun k=> .tok k.2 (Gf (s.take k.1) l).length 37::LF) (0,.nil) (by simp) ⟨rfl,rfl,rfl,rfl⟩ (.refl _) ?_
 rintro⟨k,v⟩ hk
 dsimp only at hk
 refine wf ?_
 refine A6 (fun hc=>?_) (fun hc=>?_)
 ·have hl:(Gf (s.take k) l).length≤k:=Cq (EA _ _) (by simp;omega)
  have e:Gf (s.take (k+1)) l=Gf (s.take k) l++Gf [s[k]] l:=by
   rw[A7 (by omega)];simp only[Gf,Ej]
  refine wf ?_
  refine AR (fun h=>?_) (fun h=>?_)
  ·refine aO fun v'=>?_
   have e2:Gf [s[k]] l= [s[k]]:=by simp[Gf,h]
   rw[e2]at e
   refine wf ?_
   refine⟨(k+1,v'),by dsimp only;omega,by dsimp only;omega,⟨rfl,rfl,by dsimp only;rw[e];rfl,rfl⟩,by dsimp only;rw[e];exact .refl _⟩
  ·refine wf ?_
   have e2:Gf [s[k]] l= []:=by simp[Gf,h]
   rw[e2,BJ]at e
   refine⟨(k+1,v),by dsimp only;omega,by dsimp only;omega,⟨rfl,rfl,by dsimp only;rw[e];rfl,rfl⟩,by dsimp only;rw[e];exact .refl _⟩
 ·rw[AB (by omega)]
  refine wf ?_
  exact Aw (.ros rfl)⟩
def NK (c:Chg):Nat:=if c.kind=5 then 2*c.lines.length+1 else 1
instance uG (c:Chg) [hs:Ay (c.lines.length≤1000000)]:C9 Tryz.prog 133 [.agg (eChg c)] (.raw (.int .i64 (NK c))):=⟨by
 have hl:=hs.out
 refine Av Tryz.func133 Tryz.ntmps133 rfl (rs:= [.tmp 2]) rfl rfl fun hb LF=>?_
 refine wf ?_
 refine A6 (fun h=>?_) (fun h=>?_)
 ·refine wf ?_
  refine Aw (.of_eq ?_)
  rw[NK,if_pos h]
  congr 2
 ·refine wf ?_
  refine Aw (.of_eq ?_)
  rw[NK,if_neg h]
  rfl⟩
theorem l8 {c:Chg} (h1:1≤c.kind) (h7:c.kind≤7):Jo c=NK c:=by
 unfold Jo NK Df
 by_cases k1:c.kind=1
 ·simp[k1]
 by_cases k2:c.kind=2
 ·simp[k2]
 by_cases k3:c.kind=3
 ·simp[k3]
 by_cases k4:c.kind=4
 ·simp[k4]
 by_cases k6:c.kind=6
 ·simp[k6]
 by_cases k7:c.kind=7
 ·simp[k7]
 have k5:c.kind=5:=by omega
 simp[k5]
 omega
theorem Bx.kinds {s:List Sto} (v:Bx s) {x:Sto} (hx:x∈s): ∀ c∈x.patch.changes,1≤c.kind∧c.kind≤7:=fun c hc=>by
 have hp:=HC (JG (v.id x hx).1).1
 obtain⟨i,hi,rfl⟩:=Ag.1 hc
 have:=hp.fields i hi
 unfold C0 at this
 split at this
 ·omega
 ·rename_i h
  omega
end Go.Proofs
