/- Contracts of the program: squash.mapped over any closure whose contract takes resources. -/
import Derived.Test.YtaibdmankdppkaaGreatDoorYar
import Derived.Test.YtaibdmankdppkaaGreatDoorYas
import Derived.Test.YtaibdmankdppkaaGreatDoorYan
import Derived.Test.YtaibdmankdppkaaGreatDoorYaq
import Derived.Test.YtaibdmankdppkaaGreatDoorYal
import Derived.Test.YtaibdmankdppkaaGreatDoorYai
set_option linter.unusedSimpArgs false
set_option linter.unusedVariables false
set_option maxHeartbeats 8000000
namespace Go.Proofs
open Go Go.Q
attribute [local irreducible] ER AV Gw BA Fc
theorem Yz {a b:Res} {R L M:List Res}:(a::b::(R++(L++M))).Perm (L++(a::b::(R++M))):=((List.perm_append_comm_assoc R L M).cons b |>.cons a).trans Aq
def EF (c:Chg):List Ident:=(if 2≤c.kind∧c.kind≤6 then [c.file]else [])++(if c.kind=2 then [c.parent]else [])++(if c.kind=5∨c.kind=6 then [c.after,c.before]else [])
theorem dC (c:Chg):Ct c=EF c++c.over:=rfl
def Fx (f:Ident→Ident) (c:Chg):Chg:={ c with file:=if 2≤c.kind∧c.kind≤6 then f c.file else c.file,parent:=if c.kind=2 then f c.parent else c.parent,after:=if c.kind=5∨c.kind=6 then f c.after else c.after,before:=if c.kind=5∨c.kind=6 then f c.before else c.before }
theorem uB (f:Ident→Ident) (c:Chg):Eo f c= { Fx f c with over:=sortI (c.over.map f) }:=rfl
theorem Rn (F:Nat) (cs:List PV) {St:Type} (Lf:St→List Res) (f:Ident→Ident) (g:St→Ident→St) (c:Chg) [hF:Az Tryz.prog F]
  (hp: ∀ st,∀ x∈Ct c,BA Tryz.prog F (.agg (eIdent x)::cs) (Lf st) (fun r L'=>r= .agg (eIdent (f x))∧L'=Lf (g st x))) (ho:c.over.length≤1000) (st:St):
  BA Tryz.prog 102 [.agg (eChg c),.clo F cs] (Lf st) (fun r L'=>r= .agg (eChg (Eo f c))∧L'=Lf ((Ct c).foldl g st)):=by
 refine C5 Tryz.func102 rfl Tryz.ntmps102 (rs:= [.cell 4 73]) rfl rfl fun hb LF=>?_
 refine vK fun b2=>?_
 refine C6 fun b4=>?_
 refine AD ?_
 refine ws ?_
 refine Cv (σ:=Unit) (fun _=>True) (fun _=> [(1,.clo F cs),(2,.raw (.pointer (some ⟨b2,0,none⟩))),(4,.raw (.pointer (some ⟨b4,0,none⟩)))]) (fun _=> .box b4 73 (eChg Chg.zero):: .box b2 73 (eChg (Fx f c))::(Lf ((EF c).foldl g st)++LF)) ?_ fun _ _=>?_
 ·refine wf ?_
  refine A6 (fun hk=>?_) (fun hk2=>?_)
  ·refine wn ?_
   refine Gp [2,6,3,7,9,11] (by decide+kernel) ?_
   refine B4 0 ?_
   refine B4 1 ?_
   refine B4 4 ?_
   refine B4 5 ?_
   refine Cw (fuel:=7) [2,6] (by decide+kernel) (by simp) fun i hi=>?_
   simp only[AI,Ai,or_false]at hi
   rcases hi with rfl|rfl
   ·refine⟨_,rfl,?_⟩
    refine wo ?_
    refine AD ?_
    refine Cw (fuel:=6) [3,6] (by decide+kernel) (by simp) fun i hi=>?_
    simp only[AI,Ai,or_false]at hi
    rcases hi with rfl|rfl
    ·refine⟨_,rfl,?_⟩
     refine Bx (xs:= [.tmp 14]) (Lf st) (.box b4 73 (eChg Chg.zero):: .box b2 73 (eChg c)::LF) (fun L=> .box b4 73 (eChg Chg.zero):: .box b2 73 (eChg c)::(L++LF)) (f:=F) (cs:=cs) (.refl _) rfl rfl Aq _ (hp st c.file (by simp[Ct,hk])) (fun _=>Aq.symm) fun r L' ⟨e1,e2⟩=>?_
     subst e1 e2
     refine AD ?_
     refine Ab 5 6 ?_
     refine wo ?_
     refine AD ?_
     refine B4 8 ?_
     refine Ab 3 7 ?_
     refine Bx (xs:= [.tmp 18]) (Lf (g st c.file)) (.box b4 73 (eChg Chg.zero):: .box b2 73 (eChg c)::LF) (fun L=> .box b4 73 (eChg Chg.zero):: .box b2 73 (eChg c)::(L++LF)) (f:=F) (cs:=cs) (.refl _) rfl rfl Aq _ (hp (g st c.file) c.parent (by simp[Ct,hk])) (fun _=>Aq.symm) fun r L' ⟨e1,e2⟩=>?_
     subst e1 e2
     refine AD ?_
     refine Ab 2 9 ?_
     refine wo ?_
     refine AD ?_
     refine B4 10 ?_
     refine Ab 0 11 ?_
     refine wo ?_
     refine AD ?_
     refine Cu (by decide+kernel) ?_
     rw[show Fx f c= { c with file:=f c.file,parent:=f c.parent } by unfold Fx;simp[hk],show(EF c).foldl g st=g (g st c.file) c.parent by unfold EF;simp[hk]]
     exact⟨(),trivial,⟨rfl,rfl,rfl⟩,.refl _⟩
    ·refine⟨_,rfl,?_⟩
     refine wo ?_
     refine AD ?_
     refine Ab 5 3 ?_
     refine Bx (xs:= [.tmp 14]) (Lf st) (.box b4 73 (eChg Chg.zero):: .box b2 73 (eChg c)::LF) (fun L=> .box b4 73 (eChg Chg.zero):: .box b2 73 (eChg c)::(L++LF)) (f:=F) (cs:=cs) (.refl _) rfl rfl Aq _ (hp st c.file (by simp[Ct,hk])) (fun _=>Aq.symm) fun r L' ⟨e1,e2⟩=>?_
     subst e1 e2
     refine AD ?_
     refine B4 8 ?_
     refine Ab 3 7 ?_
     refine Bx (xs:= [.tmp 18]) (Lf (g st c.file)) (.box b4 73 (eChg Chg.zero):: .box b2 73 (eChg c)::LF) (fun L=> .box b4 73 (eChg Chg.zero):: .box b2 73 (eChg c)::(L++LF)) (f:=F) (cs:=cs) (.refl _) rfl rfl Aq _ (hp (g st c.file) c.parent (by simp[Ct,hk])) (fun _=>Aq.symm) fun r L' ⟨e1,e2⟩=>?_
     subst e1 e2
     refine AD ?_
     refine Ab 2 9 ?_
     refine wo ?_
     refine AD ?_
     refine B4 10 ?_
     refine Ab 0 11 ?_
     refine wo ?_
     refine AD ?_
     refine Cu (by decide+kernel) ?_
     rw[show Fx f c= { c with file:=f c.file,parent:=f c.parent } by unfold Fx;simp[hk],show(EF c).foldl g st=g (g st c.file) c.parent by unfold EF;simp[hk]]
     exact⟨(),trivial,⟨rfl,rfl,rfl⟩,.refl _⟩
   ·refine⟨_,rfl,?_⟩
    refine wo ?_
    refine AD ?_
    refine Ab 6 2 ?_
    refine wo ?_
    refine AD ?_
    refine Ab 5 3 ?_
    refine Bx (xs:= [.tmp 14]) (Lf st) (.box b4 73 (eChg Chg.zero):: .box b2 73 (eChg c)::LF) (fun L=> .box b4 73 (eChg Chg.zero):: .box b2 73 (eChg c)::(L++LF)) (f:=F) (cs:=cs) (.refl _) rfl rfl Aq _ (hp st c.file (by simp[Ct,hk])) (fun _=>Aq.symm) fun r L' ⟨e1,e2⟩=>?_
    subst e1 e2
    refine AD ?_
    refine B4 8 ?_
    refine Ab 3 7 ?_
    refine Bx (xs:= [.tmp 18]) (Lf (g st c.file)) (.box b4 73 (eChg Chg.zero):: .box b2 73 (eChg c)::LF) (fun L=> .box b4 73 (eChg Chg.zero):: .box b2 73 (eChg c)::(L++LF)) (f:=F) (cs:=cs) (.refl _) rfl rfl Aq _ (hp (g st c.file) c.parent (by simp[Ct,hk])) (fun _=>Aq.symm) fun r L' ⟨e1,e2⟩=>?_
    subst e1 e2
    refine AD ?_
    refine Ab 2 9 ?_
    refine wo ?_
    refine AD ?_
    refine B4 10 ?_
    refine Ab 0 11 ?_
    refine wo ?_
    refine AD ?_
    refine Cu (by decide+kernel) ?_
    rw[show Fx f c= { c with file:=f c.file,parent:=f c.parent } by unfold Fx;simp[hk],show(EF c).foldl g st=g (g st c.file) c.parent by unfold EF;simp[hk]]
    exact⟨(),trivial,⟨rfl,rfl,rfl⟩,.refl _⟩
  ·refine wf ?_
   refine Cv (σ:=Unit) (fun _=>True) (fun _=> [(1,.clo F cs),(2,.raw (.pointer (some ⟨b2,0,none⟩))),(4,.raw (.pointer (some ⟨b4,0,none⟩))),(9,.raw (.int .i64 c.kind)),(22,.raw (.bool (decide (c.kind=3∨c.kind=4))))]) (fun _=> .box b4 73 (eChg Chg.zero):: .box b2 73 (eChg c)::(Lf st++LF)) ?_ fun _ _=>?_
   ·refine A6 (fun h=>?_) (fun h=>?_)
    ·refine wf ?_
     exact⟨(),trivial,⟨rfl,rfl,rfl,rfl,by show PV.raw (.bool (decide (c.kind=3)))=_;simp[h]⟩,.refl _⟩
    ·refine wf ?_
     exact⟨(),trivial,⟨rfl,rfl,rfl,rfl,by show PV.raw (.bool (decide (c.kind=4)))=_;simp[h]⟩,.refl _⟩
   refine A6 (fun h=>?_) (fun h3=>?_)
   ·have hk: ¬c.kind=2∧(2≤c.kind∧c.kind≤6)∧ ¬(c.kind=5∨c.kind=6):=by omega
    refine wf ?_
    refine Bx (xs:= [.tmp 27]) (Lf st) (.box b4 73 (eChg Chg.zero):: .box b2 73 (eChg c)::LF) (fun L=> .box b4 73 (eChg Chg.zero):: .box b2 73 (eChg c)::(L++LF)) (f:=F) (cs:=cs) (.refl _) rfl rfl Aq _ (hp st c.file (by simp[Ct,hk])) (fun _=>Aq.symm) fun r L' ⟨e1,e2⟩=>?_
    subst e1 e2
    refine wf ?_
    rw[show Fx f c= { c with file:=f c.file } by unfold Fx;simp[hk],show(EF c).foldl g st=g st c.file by unfold EF;simp[hk]]
    exact⟨(),trivial,⟨rfl,rfl,rfl⟩,.refl _⟩
   ·refine wf ?_
    refine Cv (σ:=Unit) (fun _=>True) (fun _=> [(1,.clo F cs),(2,.raw (.pointer (some ⟨b2,0,none⟩))),(4,.raw (.pointer (some ⟨b4,0,none⟩))),(30,.raw (.bool (decide (c.kind=5∨c.kind=6))))]) (fun _=> .box b4 73 (eChg Chg.zero):: .box b2 73 (eChg c)::(Lf st++LF)) ?_ fun _ _=>?_
    ·refine A6 (fun h=>?_) (fun h=>?_)
     ·refine wf ?_
      exact⟨(),trivial,⟨rfl,rfl,rfl,by show PV.raw (.bool (decide (c.kind=5)))=_;simp[h]⟩,.refl _⟩
     ·refine wf ?_
      exact⟨(),trivial,⟨rfl,rfl,rfl,by show PV.raw (.bool (decide (c.kind=6)))=_;simp[h]⟩,.refl _⟩
    refine A6 (fun h=>?_) (fun h5=>?_)
    ·have hk: ¬c.kind=2∧(2≤c.kind∧c.kind≤6)∧(c.kind=5∨c.kind=6):=by omega
     refine wn ?_
     refine Gp [2,6,10,3,7,11,13,15,17] (by decide+kernel) ?_
     refine B4 0 ?_
     refine B4 1 ?_
     refine B4 4 ?_
     refine B4 5 ?_
     refine B4 8 ?_
     refine B4 9 ?_
     refine Cw (fuel:=11) [2,6,10] (by decide+kernel) (by simp) fun i hi=>?_
     simp only[AI,Ai,or_false]at hi
     rcases hi with rfl|rfl|rfl
     ·refine⟨_,rfl,?_⟩
      refine wo ?_
      refine AD ?_
      refine Cw (fuel:=10) [3,6,10] (by decide+kernel) (by simp) fun i hi=>?_
      simp only[AI,Ai,or_false]at hi
      rcases hi with rfl|rfl|rfl
      ·refine⟨_,rfl,?_⟩
       refine Bx (xs:= [.tmp 35]) (Lf st) (.box b4 73 (eChg Chg.zero):: .box b2 73 (eChg c)::LF) (fun L=> .box b4 73 (eChg Chg.zero):: .box b2 73 (eChg c)::(L++LF)) (f:=F) (cs:=cs) (.refl _) rfl rfl Aq _ (hp st c.file (by simp[Ct,hk])) (fun _=>Aq.symm) fun r L' ⟨e1,e2⟩=>?_
       subst e1 e2
       refine AD ?_
       refine Cw (fuel:=9) [6,10] (by decide+kernel) (by simp) fun i hi=>?_
       simp only[AI,Ai,or_false]at hi
       rcases hi with rfl|rfl
       ·refine⟨_,rfl,?_⟩
        refine wo ?_
        refine AD ?_
        refine Cw (fuel:=8) [7,10] (by decide+kernel) (by simp) fun i hi=>?_
        simp only[AI,Ai,or_false]at hi
        rcases hi with rfl|rfl
        ·refine⟨_,rfl,?_⟩
         refine Bx (xs:= [.tmp 39]) (Lf (g st c.file)) (.box b4 73 (eChg Chg.zero):: .box b2 73 (eChg c)::LF) (fun L=> .box b4 73 (eChg Chg.zero):: .box b2 73 (eChg c)::(L++LF)) (f:=F) (cs:=cs) (.refl _) rfl rfl Aq _ (hp (g st c.file) c.after (by simp[Ct,hk])) (fun _=>Aq.symm) fun r L' ⟨e1,e2⟩=>?_
         subst e1 e2
         refine AD ?_
         refine Ab 7 10 ?_
         refine wo ?_
         refine AD ?_
         refine B4 12 ?_
         refine Ab 5 11 ?_
         refine Bx (xs:= [.tmp 43]) (Lf (g (g st c.file) c.after)) (.box b4 73 (eChg Chg.zero):: .box b2 73 (eChg c)::LF) (fun L=> .box b4 73 (eChg Chg.zero):: .box b2 73 (eChg c)::(L++LF)) (f:=F) (cs:=cs) (.refl _) rfl rfl Aq _ (hp (g (g st c.file) c.after) c.before (by simp[Ct,hk])) (fun _=>Aq.symm) fun r L' ⟨e1,e2⟩=>?_
         subst e1 e2
         refine AD ?_
         refine Ab 4 13 ?_
         refine wo ?_
         refine AD ?_
         refine B4 14 ?_
         refine Ab 2 15 ?_
         refine wo ?_
         refine AD ?_
         refine B4 16 ?_
         refine Ab 0 17 ?_
         refine wo ?_
         refine AD ?_
         refine Cu (by decide+kernel) ?_
         rw[show Fx f c= { c with file:=f c.file,after:=f c.after,before:=f c.before } by unfold Fx;simp[hk],show(EF c).foldl g st=g (g (g st c.file) c.after) c.before by unfold EF;simp[hk]]
         exact⟨(),trivial,⟨rfl,rfl,rfl⟩,.refl _⟩
        ·refine⟨_,rfl,?_⟩
         refine wo ?_
         refine AD ?_
         refine B4 12 ?_
         refine Ab 6 7 ?_
         refine Bx (xs:= [.tmp 39]) (Lf (g st c.file)) (.box b4 73 (eChg Chg.zero):: .box b2 73 (eChg c)::LF) (fun L=> .box b4 73 (eChg Chg.zero):: .box b2 73 (eChg c)::(L++LF)) (f:=F) (cs:=cs) (.refl _) rfl rfl Aq _ (hp (g st c.file) c.after (by simp[Ct,hk])) (fun _=>Aq.symm) fun r L' ⟨e1,e2⟩=>?_
         subst e1 e2
         refine AD ?_
         refine Ab 5 11 ?_
         refine Bx (xs:= [.tmp 43]) (Lf (g (g st c.file) c.after)) (.box b4 73 (eChg Chg.zero):: .box b2 73 (eChg c)::LF) (fun L=> .box b4 73 (eChg Chg.zero):: .box b2 73 (eChg c)::(L++LF)) (f:=F) (cs:=cs) (.refl _) rfl rfl Aq _ (hp (g (g st c.file) c.after) c.before (by simp[Ct,hk])) (fun _=>Aq.symm) fun r L' ⟨e1,e2⟩=>?_
         subst e1 e2
         refine AD ?_
         refine Ab 4 13 ?_
         refine wo ?_
         refine AD ?_
         refine B4 14 ?_
         refine Ab 2 15 ?_
         refine wo ?_
         refine AD ?_
         refine B4 16 ?_
         refine Ab 0 17 ?_
         refine wo ?_
         refine AD ?_
         refine Cu (by decide+kernel) ?_
         rw[show Fx f c= { c with file:=f c.file,after:=f c.after,before:=f c.before } by unfold Fx;simp[hk],show(EF c).foldl g st=g (g (g st c.file) c.after) c.before by unfold EF;simp[hk]]
         exact⟨(),trivial,⟨rfl,rfl,rfl⟩,.refl _⟩
       ·refine⟨_,rfl,?_⟩
        refine wo ?_
        refine AD ?_
        refine Ab 8 6 ?_
        refine wo ?_
        refine AD ?_
        refine B4 12 ?_
        refine Ab 6 7 ?_
        refine Bx (xs:= [.tmp 39]) (Lf (g st c.file)) (.box b4 73 (eChg Chg.zero):: .box b2 73 (eChg c)::LF) (fun L=> .box b4 73 (eChg Chg.zero):: .box b2 73 (eChg c)::(L++LF)) (f:=F) (cs:=cs) (.refl _) rfl rfl Aq _ (hp (g st c.file) c.after (by simp[Ct,hk])) (fun _=>Aq.symm) fun r L' ⟨e1,e2⟩=>?_
        subst e1 e2
        refine AD ?_
        refine Ab 5 11 ?_
        refine Bx (xs:= [.tmp 43]) (Lf (g (g st c.file) c.after)) (.box b4 73 (eChg Chg.zero):: .box b2 73 (eChg c)::LF) (fun L=> .box b4 73 (eChg Chg.zero):: .box b2 73 (eChg c)::(L++LF)) (f:=F) (cs:=cs) (.refl _) rfl rfl Aq _ (hp (g (g st c.file) c.after) c.before (by simp[Ct,hk])) (fun _=>Aq.symm) fun r L' ⟨e1,e2⟩=>?_
        subst e1 e2
        refine AD ?_
        refine Ab 4 13 ?_
        refine wo ?_
        refine AD ?_
        refine B4 14 ?_
        refine Ab 2 15 ?_
        refine wo ?_
        refine AD ?_
        refine B4 16 ?_
        refine Ab 0 17 ?_
        refine wo ?_
        refine AD ?_
        refine Cu (by decide+kernel) ?_
        rw[show Fx f c= { c with file:=f c.file,after:=f c.after,before:=f c.before } by unfold Fx;simp[hk],show(EF c).foldl g st=g (g (g st c.file) c.after) c.before by unfold EF;simp[hk]]
        exact⟨(),trivial,⟨rfl,rfl,rfl⟩,.refl _⟩
      ·refine⟨_,rfl,?_⟩
       refine wo ?_
       refine AD ?_
       refine Cw (fuel:=9) [3,10] (by decide+kernel) (by simp) fun i hi=>?_
       simp only[AI,Ai,or_false]at hi
       rcases hi with rfl|rfl
       ·refine⟨_,rfl,?_⟩
        refine Bx (xs:= [.tmp 35]) (Lf st) (.box b4 73 (eChg Chg.zero):: .box b2 73 (eChg c)::LF) (fun L=> .box b4 73 (eChg Chg.zero):: .box b2 73 (eChg c)::(L++LF)) (f:=F) (cs:=cs) (.refl _) rfl rfl Aq _ (hp st c.file (by simp[Ct,hk])) (fun _=>Aq.symm) fun r L' ⟨e1,e2⟩=>?_
        subst e1 e2
        refine AD ?_
        refine Cw (fuel:=8) [7,10] (by decide+kernel) (by simp) fun i hi=>?_
        simp only[AI,Ai,or_false]at hi
        rcases hi with rfl|rfl
        ·refine⟨_,rfl,?_⟩
         refine Bx (xs:= [.tmp 39]) (Lf (g st c.file)) (.box b4 73 (eChg Chg.zero):: .box b2 73 (eChg c)::LF) (fun L=> .box b4 73 (eChg Chg.zero):: .box b2 73 (eChg c)::(L++LF)) (f:=F) (cs:=cs) (.refl _) rfl rfl Aq _ (hp (g st c.file) c.after (by simp[Ct,hk])) (fun _=>Aq.symm) fun r L' ⟨e1,e2⟩=>?_
         subst e1 e2
         refine AD ?_
         refine Ab 7 10 ?_
         refine wo ?_
         refine AD ?_
         refine B4 12 ?_
         refine Ab 5 11 ?_
         refine Bx (xs:= [.tmp 43]) (Lf (g (g st c.file) c.after)) (.box b4 73 (eChg Chg.zero):: .box b2 73 (eChg c)::LF) (fun L=> .box b4 73 (eChg Chg.zero):: .box b2 73 (eChg c)::(L++LF)) (f:=F) (cs:=cs) (.refl _) rfl rfl Aq _ (hp (g (g st c.file) c.after) c.before (by simp[Ct,hk])) (fun _=>Aq.symm) fun r L' ⟨e1,e2⟩=>?_
         subst e1 e2
         refine AD ?_
         refine Ab 4 13 ?_
         refine wo ?_
         refine AD ?_
         refine B4 14 ?_
         refine Ab 2 15 ?_
         refine wo ?_
         refine AD ?_
         refine B4 16 ?_
         refine Ab 0 17 ?_
         refine wo ?_
         refine AD ?_
         refine Cu (by decide+kernel) ?_
         rw[show Fx f c= { c with file:=f c.file,after:=f c.after,before:=f c.before } by unfold Fx;simp[hk],show(EF c).foldl g st=g (g (g st c.file) c.after) c.before by unfold EF;simp[hk]]
         exact⟨(),trivial,⟨rfl,rfl,rfl⟩,.refl _⟩
        ·refine⟨_,rfl,?_⟩
         refine wo ?_
         refine AD ?_
         refine B4 12 ?_
         refine Ab 6 7 ?_
         refine Bx (xs:= [.tmp 39]) (Lf (g st c.file)) (.box b4 73 (eChg Chg.zero):: .box b2 73 (eChg c)::LF) (fun L=> .box b4 73 (eChg Chg.zero):: .box b2 73 (eChg c)::(L++LF)) (f:=F) (cs:=cs) (.refl _) rfl rfl Aq _ (hp (g st c.file) c.after (by simp[Ct,hk])) (fun _=>Aq.symm) fun r L' ⟨e1,e2⟩=>?_
         subst e1 e2
         refine AD ?_
         refine Ab 5 11 ?_
         refine Bx (xs:= [.tmp 43]) (Lf (g (g st c.file) c.after)) (.box b4 73 (eChg Chg.zero):: .box b2 73 (eChg c)::LF) (fun L=> .box b4 73 (eChg Chg.zero):: .box b2 73 (eChg c)::(L++LF)) (f:=F) (cs:=cs) (.refl _) rfl rfl Aq _ (hp (g (g st c.file) c.after) c.before (by simp[Ct,hk])) (fun _=>Aq.symm) fun r L' ⟨e1,e2⟩=>?_
         subst e1 e2
         refine AD ?_
         refine Ab 4 13 ?_
         refine wo ?_
         refine AD ?_
         refine B4 14 ?_
         refine Ab 2 15 ?_
         refine wo ?_
         refine AD ?_
         refine B4 16 ?_
         refine Ab 0 17 ?_
         refine wo ?_
         refine AD ?_
         refine Cu (by decide+kernel) ?_
         rw[show Fx f c= { c with file:=f c.file,after:=f c.after,before:=f c.before } by unfold Fx;simp[hk],show(EF c).foldl g st=g (g (g st c.file) c.after) c.before by unfold EF;simp[hk]]
         exact⟨(),trivial,⟨rfl,rfl,rfl⟩,.refl _⟩
       ·refine⟨_,rfl,?_⟩
        refine wo ?_
        refine AD ?_
        refine Ab 8 3 ?_
        refine Bx (xs:= [.tmp 35]) (Lf st) (.box b4 73 (eChg Chg.zero):: .box b2 73 (eChg c)::LF) (fun L=> .box b4 73 (eChg Chg.zero):: .box b2 73 (eChg c)::(L++LF)) (f:=F) (cs:=cs) (.refl _) rfl rfl Aq _ (hp st c.file (by simp[Ct,hk])) (fun _=>Aq.symm) fun r L' ⟨e1,e2⟩=>?_
        subst e1 e2
        refine AD ?_
        refine B4 12 ?_
        refine Ab 6 7 ?_
        refine Bx (xs:= [.tmp 39]) (Lf (g st c.file)) (.box b4 73 (eChg Chg.zero):: .box b2 73 (eChg c)::LF) (fun L=> .box b4 73 (eChg Chg.zero):: .box b2 73 (eChg c)::(L++LF)) (f:=F) (cs:=cs) (.refl _) rfl rfl Aq _ (hp (g st c.file) c.after (by simp[Ct,hk])) (fun _=>Aq.symm) fun r L' ⟨e1,e2⟩=>?_
        subst e1 e2
        refine AD ?_
        refine Ab 5 11 ?_
        refine Bx (xs:= [.tmp 43]) (Lf (g (g st c.file) c.after)) (.box b4 73 (eChg Chg.zero):: .box b2 73 (eChg c)::LF) (fun L=> .box b4 73 (eChg Chg.zero):: .box b2 73 (eChg c)::(L++LF)) (f:=F) (cs:=cs) (.refl _) rfl rfl Aq _ (hp (g (g st c.file) c.after) c.before (by simp[Ct,hk])) (fun _=>Aq.symm) fun r L' ⟨e1,e2⟩=>?_
        subst e1 e2
        refine AD ?_
        refine Ab 4 13 ?_
        refine wo ?_
        refine AD ?_
        refine B4 14 ?_
        refine Ab 2 15 ?_
        refine wo ?_
        refine AD ?_
        refine B4 16 ?_
        refine Ab 0 17 ?_
        refine wo ?_
        refine AD ?_
        refine Cu (by decide+kernel) ?_
        rw[show Fx f c= { c with file:=f c.file,after:=f c.after,before:=f c.before } by unfold Fx;simp[hk],show(EF c).foldl g st=g (g (g st c.file) c.after) c.before by unfold EF;simp[hk]]
        exact⟨(),trivial,⟨rfl,rfl,rfl⟩,.refl _⟩
      ·refine⟨_,rfl,?_⟩
       refine wo ?_
       refine AD ?_
       refine Cw (fuel:=9) [3,6] (by decide+kernel) (by simp) fun i hi=>?_
       simp only[AI,Ai,or_false]at hi
       rcases hi with rfl|rfl
       ·refine⟨_,rfl,?_⟩
        refine Bx (xs:= [.tmp 35]) (Lf st) (.box b4 73 (eChg Chg.zero):: .box b2 73 (eChg c)::LF) (fun L=> .box b4 73 (eChg Chg.zero):: .box b2 73 (eChg c)::(L++LF)) (f:=F) (cs:=cs) (.refl _) rfl rfl Aq _ (hp st c.file (by simp[Ct,hk])) (fun _=>Aq.symm) fun r L' ⟨e1,e2⟩=>?_
        subst e1 e2
        refine AD ?_
        refine Ab 8 6 ?_
        refine wo ?_
        refine AD ?_
        refine B4 12 ?_
        refine Ab 6 7 ?_
        refine Bx (xs:= [.tmp 39]) (Lf (g st c.file)) (.box b4 73 (eChg Chg.zero):: .box b2 73 (eChg c)::LF) (fun L=> .box b4 73 (eChg Chg.zero):: .box b2 73 (eChg c)::(L++LF)) (f:=F) (cs:=cs) (.refl _) rfl rfl Aq _ (hp (g st c.file) c.after (by simp[Ct,hk])) (fun _=>Aq.symm) fun r L' ⟨e1,e2⟩=>?_
        subst e1 e2
        refine AD ?_
        refine Ab 5 11 ?_
        refine Bx (xs:= [.tmp 43]) (Lf (g (g st c.file) c.after)) (.box b4 73 (eChg Chg.zero):: .box b2 73 (eChg c)::LF) (fun L=> .box b4 73 (eChg Chg.zero):: .box b2 73 (eChg c)::(L++LF)) (f:=F) (cs:=cs) (.refl _) rfl rfl Aq _ (hp (g (g st c.file) c.after) c.before (by simp[Ct,hk])) (fun _=>Aq.symm) fun r L' ⟨e1,e2⟩=>?_
        subst e1 e2
        refine AD ?_
        refine Ab 4 13 ?_
        refine wo ?_
        refine AD ?_
        refine B4 14 ?_
        refine Ab 2 15 ?_
        refine wo ?_
        refine AD ?_
        refine B4 16 ?_
        refine Ab 0 17 ?_
        refine wo ?_
        refine AD ?_
        refine Cu (by decide+kernel) ?_
        rw[show Fx f c= { c with file:=f c.file,after:=f c.after,before:=f c.before } by unfold Fx;simp[hk],show(EF c).foldl g st=g (g (g st c.file) c.after) c.before by unfold EF;simp[hk]]
        exact⟨(),trivial,⟨rfl,rfl,rfl⟩,.refl _⟩
       ·refine⟨_,rfl,?_⟩
        refine wo ?_
        refine AD ?_
        refine Ab 8 3 ?_
        refine Bx (xs:= [.tmp 35]) (Lf st) (.box b4 73 (eChg Chg.zero):: .box b2 73 (eChg c)::LF) (fun L=> .box b4 73 (eChg Chg.zero):: .box b2 73 (eChg c)::(L++LF)) (f:=F) (cs:=cs) (.refl _) rfl rfl Aq _ (hp st c.file (by simp[Ct,hk])) (fun _=>Aq.symm) fun r L' ⟨e1,e2⟩=>?_
        subst e1 e2
        refine AD ?_
        refine B4 12 ?_
        refine Ab 6 7 ?_
        refine Bx (xs:= [.tmp 39]) (Lf (g st c.file)) (.box b4 73 (eChg Chg.zero):: .box b2 73 (eChg c)::LF) (fun L=> .box b4 73 (eChg Chg.zero):: .box b2 73 (eChg c)::(L++LF)) (f:=F) (cs:=cs) (.refl _) rfl rfl Aq _ (hp (g st c.file) c.after (by simp[Ct,hk])) (fun _=>Aq.symm) fun r L' ⟨e1,e2⟩=>?_
        subst e1 e2
        refine AD ?_
        refine Ab 5 11 ?_
        refine Bx (xs:= [.tmp 43]) (Lf (g (g st c.file) c.after)) (.box b4 73 (eChg Chg.zero):: .box b2 73 (eChg c)::LF) (fun L=> .box b4 73 (eChg Chg.zero):: .box b2 73 (eChg c)::(L++LF)) (f:=F) (cs:=cs) (.refl _) rfl rfl Aq _ (hp (g (g st c.file) c.after) c.before (by simp[Ct,hk])) (fun _=>Aq.symm) fun r L' ⟨e1,e2⟩=>?_
        subst e1 e2
        refine AD ?_
        refine Ab 4 13 ?_
        refine wo ?_
        refine AD ?_
        refine B4 14 ?_
        refine Ab 2 15 ?_
        refine wo ?_
        refine AD ?_
        refine B4 16 ?_
        refine Ab 0 17 ?_
        refine wo ?_
        refine AD ?_
        refine Cu (by decide+kernel) ?_
        rw[show Fx f c= { c with file:=f c.file,after:=f c.after,before:=f c.before } by unfold Fx;simp[hk],show(EF c).foldl g st=g (g (g st c.file) c.after) c.before by unfold EF;simp[hk]]
        exact⟨(),trivial,⟨rfl,rfl,rfl⟩,.refl _⟩
     ·refine⟨_,rfl,?_⟩
      refine wo ?_
      refine AD ?_
      refine Cw (fuel:=10) [2,10] (by decide+kernel) (by simp) fun i hi=>?_
      simp only[AI,Ai,or_false]at hi
      rcases hi with rfl|rfl
      ·refine⟨_,rfl,?_⟩
       refine wo ?_
       refine AD ?_
       refine Cw (fuel:=9) [3,10] (by decide+kernel) (by simp) fun i hi=>?_
       simp only[AI,Ai,or_false]at hi
       rcases hi with rfl|rfl
       ·refine⟨_,rfl,?_⟩
        refine Bx (xs:= [.tmp 35]) (Lf st) (.box b4 73 (eChg Chg.zero):: .box b2 73 (eChg c)::LF) (fun L=> .box b4 73 (eChg Chg.zero):: .box b2 73 (eChg c)::(L++LF)) (f:=F) (cs:=cs) (.refl _) rfl rfl Aq _ (hp st c.file (by simp[Ct,hk])) (fun _=>Aq.symm) fun r L' ⟨e1,e2⟩=>?_
        subst e1 e2
        refine AD ?_
        refine Cw (fuel:=8) [7,10] (by decide+kernel) (by simp) fun i hi=>?_
        simp only[AI,Ai,or_false]at hi
        rcases hi with rfl|rfl
        ·refine⟨_,rfl,?_⟩
         refine Bx (xs:= [.tmp 39]) (Lf (g st c.file)) (.box b4 73 (eChg Chg.zero):: .box b2 73 (eChg c)::LF) (fun L=> .box b4 73 (eChg Chg.zero):: .box b2 73 (eChg c)::(L++LF)) (f:=F) (cs:=cs) (.refl _) rfl rfl Aq _ (hp (g st c.file) c.after (by simp[Ct,hk])) (fun _=>Aq.symm) fun r L' ⟨e1,e2⟩=>?_
         subst e1 e2
         refine AD ?_
         refine Ab 7 10 ?_
         refine wo ?_
         refine AD ?_
         refine B4 12 ?_
         refine Ab 5 11 ?_
         refine Bx (xs:= [.tmp 43]) (Lf (g (g st c.file) c.after)) (.box b4 73 (eChg Chg.zero):: .box b2 73 (eChg c)::LF) (fun L=> .box b4 73 (eChg Chg.zero):: .box b2 73 (eChg c)::(L++LF)) (f:=F) (cs:=cs) (.refl _) rfl rfl Aq _ (hp (g (g st c.file) c.after) c.before (by simp[Ct,hk])) (fun _=>Aq.symm) fun r L' ⟨e1,e2⟩=>?_
         subst e1 e2
         refine AD ?_
         refine Ab 4 13 ?_
         refine wo ?_
         refine AD ?_
         refine B4 14 ?_
         refine Ab 2 15 ?_
         refine wo ?_
         refine AD ?_
         refine B4 16 ?_
         refine Ab 0 17 ?_
         refine wo ?_
         refine AD ?_
         refine Cu (by decide+kernel) ?_
         rw[show Fx f c= { c with file:=f c.file,after:=f c.after,before:=f c.before } by unfold Fx;simp[hk],show(EF c).foldl g st=g (g (g st c.file) c.after) c.before by unfold EF;simp[hk]]
         exact⟨(),trivial,⟨rfl,rfl,rfl⟩,.refl _⟩
        ·refine⟨_,rfl,?_⟩
         refine wo ?_
         refine AD ?_
         refine B4 12 ?_
         refine Ab 6 7 ?_
         refine Bx (xs:= [.tmp 39]) (Lf (g st c.file)) (.box b4 73 (eChg Chg.zero):: .box b2 73 (eChg c)::LF) (fun L=> .box b4 73 (eChg Chg.zero):: .box b2 73 (eChg c)::(L++LF)) (f:=F) (cs:=cs) (.refl _) rfl rfl Aq _ (hp (g st c.file) c.after (by simp[Ct,hk])) (fun _=>Aq.symm) fun r L' ⟨e1,e2⟩=>?_
         subst e1 e2
         refine AD ?_
         refine Ab 5 11 ?_
         refine Bx (xs:= [.tmp 43]) (Lf (g (g st c.file) c.after)) (.box b4 73 (eChg Chg.zero):: .box b2 73 (eChg c)::LF) (fun L=> .box b4 73 (eChg Chg.zero):: .box b2 73 (eChg c)::(L++LF)) (f:=F) (cs:=cs) (.refl _) rfl rfl Aq _ (hp (g (g st c.file) c.after) c.before (by simp[Ct,hk])) (fun _=>Aq.symm) fun r L' ⟨e1,e2⟩=>?_
         subst e1 e2
         refine AD ?_
         refine Ab 4 13 ?_
         refine wo ?_
         refine AD ?_
         refine B4 14 ?_
         refine Ab 2 15 ?_
         refine wo ?_
         refine AD ?_
         refine B4 16 ?_
         refine Ab 0 17 ?_
         refine wo ?_
         refine AD ?_
         refine Cu (by decide+kernel) ?_
         rw[show Fx f c= { c with file:=f c.file,after:=f c.after,before:=f c.before } by unfold Fx;simp[hk],show(EF c).foldl g st=g (g (g st c.file) c.after) c.before by unfold EF;simp[hk]]
         exact⟨(),trivial,⟨rfl,rfl,rfl⟩,.refl _⟩
       ·refine⟨_,rfl,?_⟩
        refine wo ?_
        refine AD ?_
        refine Ab 8 3 ?_
        refine Bx (xs:= [.tmp 35]) (Lf st) (.box b4 73 (eChg Chg.zero):: .box b2 73 (eChg c)::LF) (fun L=> .box b4 73 (eChg Chg.zero):: .box b2 73 (eChg c)::(L++LF)) (f:=F) (cs:=cs) (.refl _) rfl rfl Aq _ (hp st c.file (by simp[Ct,hk])) (fun _=>Aq.symm) fun r L' ⟨e1,e2⟩=>?_
        subst e1 e2
        refine AD ?_
        refine B4 12 ?_
        refine Ab 6 7 ?_
        refine Bx (xs:= [.tmp 39]) (Lf (g st c.file)) (.box b4 73 (eChg Chg.zero):: .box b2 73 (eChg c)::LF) (fun L=> .box b4 73 (eChg Chg.zero):: .box b2 73 (eChg c)::(L++LF)) (f:=F) (cs:=cs) (.refl _) rfl rfl Aq _ (hp (g st c.file) c.after (by simp[Ct,hk])) (fun _=>Aq.symm) fun r L' ⟨e1,e2⟩=>?_
        subst e1 e2
        refine AD ?_
        refine Ab 5 11 ?_
        refine Bx (xs:= [.tmp 43]) (Lf (g (g st c.file) c.after)) (.box b4 73 (eChg Chg.zero):: .box b2 73 (eChg c)::LF) (fun L=> .box b4 73 (eChg Chg.zero):: .box b2 73 (eChg c)::(L++LF)) (f:=F) (cs:=cs) (.refl _) rfl rfl Aq _ (hp (g (g st c.file) c.after) c.before (by simp[Ct,hk])) (fun _=>Aq.symm) fun r L' ⟨e1,e2⟩=>?_
        subst e1 e2
        refine AD ?_
        refine Ab 4 13 ?_
        refine wo ?_
        refine AD ?_
        refine B4 14 ?_
        refine Ab 2 15 ?_
        refine wo ?_
        refine AD ?_
        refine B4 16 ?_
        refine Ab 0 17 ?_
        refine wo ?_
        refine AD ?_
        refine Cu (by decide+kernel) ?_
        rw[show Fx f c= { c with file:=f c.file,after:=f c.after,before:=f c.before } by unfold Fx;simp[hk],show(EF c).foldl g st=g (g (g st c.file) c.after) c.before by unfold EF;simp[hk]]
        exact⟨(),trivial,⟨rfl,rfl,rfl⟩,.refl _⟩
      ·refine⟨_,rfl,?_⟩
       refine wo ?_
       refine AD ?_
       refine Ab 9 2 ?_
       refine wo ?_
       refine AD ?_
       refine Ab 8 3 ?_
       refine Bx (xs:= [.tmp 35]) (Lf st) (.box b4 73 (eChg Chg.zero):: .box b2 73 (eChg c)::LF) (fun L=> .box b4 73 (eChg Chg.zero):: .box b2 73 (eChg c)::(L++LF)) (f:=F) (cs:=cs) (.refl _) rfl rfl Aq _ (hp st c.file (by simp[Ct,hk])) (fun _=>Aq.symm) fun r L' ⟨e1,e2⟩=>?_
       subst e1 e2
       refine AD ?_
       refine B4 12 ?_
       refine Ab 6 7 ?_
       refine Bx (xs:= [.tmp 39]) (Lf (g st c.file)) (.box b4 73 (eChg Chg.zero):: .box b2 73 (eChg c)::LF) (fun L=> .box b4 73 (eChg Chg.zero):: .box b2 73 (eChg c)::(L++LF)) (f:=F) (cs:=cs) (.refl _) rfl rfl Aq _ (hp (g st c.file) c.after (by simp[Ct,hk])) (fun _=>Aq.symm) fun r L' ⟨e1,e2⟩=>?_
       subst e1 e2
       refine AD ?_
       refine Ab 5 11 ?_
       refine Bx (xs:= [.tmp 43]) (Lf (g (g st c.file) c.after)) (.box b4 73 (eChg Chg.zero):: .box b2 73 (eChg c)::LF) (fun L=> .box b4 73 (eChg Chg.zero):: .box b2 73 (eChg c)::(L++LF)) (f:=F) (cs:=cs) (.refl _) rfl rfl Aq _ (hp (g (g st c.file) c.after) c.before (by simp[Ct,hk])) (fun _=>Aq.symm) fun r L' ⟨e1,e2⟩=>?_
       subst e1 e2
       refine AD ?_
       refine Ab 4 13 ?_
       refine wo ?_
       refine AD ?_
       refine B4 14 ?_
       refine Ab 2 15 ?_
       refine wo ?_
       refine AD ?_
       refine B4 16 ?_
       refine Ab 0 17 ?_
       refine wo ?_
       refine AD ?_
       refine Cu (by decide+kernel) ?_
       rw[show Fx f c= { c with file:=f c.file,after:=f c.after,before:=f c.before } by unfold Fx;simp[hk],show(EF c).foldl g st=g (g (g st c.file) c.after) c.before by unfold EF;simp[hk]]
       exact⟨(),trivial,⟨rfl,rfl,rfl⟩,.refl _⟩
     ·refine⟨_,rfl,?_⟩
      refine wo ?_
      refine AD ?_
      refine Cw (fuel:=10) [2,6] (by decide+kernel) (by simp) fun i hi=>?_
      simp only[AI,Ai,or_false]at hi
      rcases hi with rfl|rfl
      ·refine⟨_,rfl,?_⟩
       refine wo ?_
       refine AD ?_
       refine Cw (fuel:=9) [3,6] (by decide+kernel) (by simp) fun i hi=>?_
       simp only[AI,Ai,or_false]at hi
       rcases hi with rfl|rfl
       ·refine⟨_,rfl,?_⟩
        refine Bx (xs:= [.tmp 35]) (Lf st) (.box b4 73 (eChg Chg.zero):: .box b2 73 (eChg c)::LF) (fun L=> .box b4 73 (eChg Chg.zero):: .box b2 73 (eChg c)::(L++LF)) (f:=F) (cs:=cs) (.refl _) rfl rfl Aq _ (hp st c.file (by simp[Ct,hk])) (fun _=>Aq.symm) fun r L' ⟨e1,e2⟩=>?_
        subst e1 e2
        refine AD ?_
        refine Ab 8 6 ?_
        refine wo ?_
        refine AD ?_
        refine B4 12 ?_
        refine Ab 6 7 ?_
        refine Bx (xs:= [.tmp 39]) (Lf (g st c.file)) (.box b4 73 (eChg Chg.zero):: .box b2 73 (eChg c)::LF) (fun L=> .box b4 73 (eChg Chg.zero):: .box b2 73 (eChg c)::(L++LF)) (f:=F) (cs:=cs) (.refl _) rfl rfl Aq _ (hp (g st c.file) c.after (by simp[Ct,hk])) (fun _=>Aq.symm) fun r L' ⟨e1,e2⟩=>?_
        subst e1 e2
        refine AD ?_
        refine Ab 5 11 ?_
        refine Bx (xs:= [.tmp 43]) (Lf (g (g st c.file) c.after)) (.box b4 73 (eChg Chg.zero):: .box b2 73 (eChg c)::LF) (fun L=> .box b4 73 (eChg Chg.zero):: .box b2 73 (eChg c)::(L++LF)) (f:=F) (cs:=cs) (.refl _) rfl rfl Aq _ (hp (g (g st c.file) c.after) c.before (by simp[Ct,hk])) (fun _=>Aq.symm) fun r L' ⟨e1,e2⟩=>?_
        subst e1 e2
        refine AD ?_
        refine Ab 4 13 ?_
        refine wo ?_
        refine AD ?_
        refine B4 14 ?_
        refine Ab 2 15 ?_
        refine wo ?_
        refine AD ?_
        refine B4 16 ?_
        refine Ab 0 17 ?_
        refine wo ?_
        refine AD ?_
        refine Cu (by decide+kernel) ?_
        rw[show Fx f c= { c with file:=f c.file,after:=f c.after,before:=f c.before } by unfold Fx;simp[hk],show(EF c).foldl g st=g (g (g st c.file) c.after) c.before by unfold EF;simp[hk]]
        exact⟨(),trivial,⟨rfl,rfl,rfl⟩,.refl _⟩
       ·refine⟨_,rfl,?_⟩
        refine wo ?_
        refine AD ?_
        refine Ab 8 3 ?_
        refine Bx (xs:= [.tmp 35]) (Lf st) (.box b4 73 (eChg Chg.zero):: .box b2 73 (eChg c)::LF) (fun L=> .box b4 73 (eChg Chg.zero):: .box b2 73 (eChg c)::(L++LF)) (f:=F) (cs:=cs) (.refl _) rfl rfl Aq _ (hp st c.file (by simp[Ct,hk])) (fun _=>Aq.symm) fun r L' ⟨e1,e2⟩=>?_
        subst e1 e2
        refine AD ?_
        refine B4 12 ?_
        refine Ab 6 7 ?_
        refine Bx (xs:= [.tmp 39]) (Lf (g st c.file)) (.box b4 73 (eChg Chg.zero):: .box b2 73 (eChg c)::LF) (fun L=> .box b4 73 (eChg Chg.zero):: .box b2 73 (eChg c)::(L++LF)) (f:=F) (cs:=cs) (.refl _) rfl rfl Aq _ (hp (g st c.file) c.after (by simp[Ct,hk])) (fun _=>Aq.symm) fun r L' ⟨e1,e2⟩=>?_
        subst e1 e2
        refine AD ?_
        refine Ab 5 11 ?_
        refine Bx (xs:= [.tmp 43]) (Lf (g (g st c.file) c.after)) (.box b4 73 (eChg Chg.zero):: .box b2 73 (eChg c)::LF) (fun L=> .box b4 73 (eChg Chg.zero):: .box b2 73 (eChg c)::(L++LF)) (f:=F) (cs:=cs) (.refl _) rfl rfl Aq _ (hp (g (g st c.file) c.after) c.before (by simp[Ct,hk])) (fun _=>Aq.symm) fun r L' ⟨e1,e2⟩=>?_
        subst e1 e2
        refine AD ?_
        refine Ab 4 13 ?_
        refine wo ?_
        refine AD ?_
        refine B4 14 ?_
        refine Ab 2 15 ?_
        refine wo ?_
        refine AD ?_
        refine B4 16 ?_
        refine Ab 0 17 ?_
        refine wo ?_
        refine AD ?_
        refine Cu (by decide+kernel) ?_
        rw[show Fx f c= { c with file:=f c.file,after:=f c.after,before:=f c.before } by unfold Fx;simp[hk],show(EF c).foldl g st=g (g (g st c.file) c.after) c.before by unfold EF;simp[hk]]
        exact⟨(),trivial,⟨rfl,rfl,rfl⟩,.refl _⟩
      ·refine⟨_,rfl,?_⟩
       refine wo ?_
       refine AD ?_
       refine Ab 9 2 ?_
       refine wo ?_
       refine AD ?_
       refine Ab 8 3 ?_
       refine Bx (xs:= [.tmp 35]) (Lf st) (.box b4 73 (eChg Chg.zero):: .box b2 73 (eChg c)::LF) (fun L=> .box b4 73 (eChg Chg.zero):: .box b2 73 (eChg c)::(L++LF)) (f:=F) (cs:=cs) (.refl _) rfl rfl Aq _ (hp st c.file (by simp[Ct,hk])) (fun _=>Aq.symm) fun r L' ⟨e1,e2⟩=>?_
       subst e1 e2
       refine AD ?_
       refine B4 12 ?_
       refine Ab 6 7 ?_
       refine Bx (xs:= [.tmp 39]) (Lf (g st c.file)) (.box b4 73 (eChg Chg.zero):: .box b2 73 (eChg c)::LF) (fun L=> .box b4 73 (eChg Chg.zero):: .box b2 73 (eChg c)::(L++LF)) (f:=F) (cs:=cs) (.refl _) rfl rfl Aq _ (hp (g st c.file) c.after (by simp[Ct,hk])) (fun _=>Aq.symm) fun r L' ⟨e1,e2⟩=>?_
       subst e1 e2
       refine AD ?_
       refine Ab 5 11 ?_
       refine Bx (xs:= [.tmp 43]) (Lf (g (g st c.file) c.after)) (.box b4 73 (eChg Chg.zero):: .box b2 73 (eChg c)::LF) (fun L=> .box b4 73 (eChg Chg.zero):: .box b2 73 (eChg c)::(L++LF)) (f:=F) (cs:=cs) (.refl _) rfl rfl Aq _ (hp (g (g st c.file) c.after) c.before (by simp[Ct,hk])) (fun _=>Aq.symm) fun r L' ⟨e1,e2⟩=>?_
       subst e1 e2
       refine AD ?_
       refine Ab 4 13 ?_
       refine wo ?_
       refine AD ?_
       refine B4 14 ?_
       refine Ab 2 15 ?_
       refine wo ?_
       refine AD ?_
       refine B4 16 ?_
       refine Ab 0 17 ?_
       refine wo ?_
       refine AD ?_
       refine Cu (by decide+kernel) ?_
       rw[show Fx f c= { c with file:=f c.file,after:=f c.after,before:=f c.before } by unfold Fx;simp[hk],show(EF c).foldl g st=g (g (g st c.file) c.after) c.before by unfold EF;simp[hk]]
       exact⟨(),trivial,⟨rfl,rfl,rfl⟩,.refl _⟩
    ·have hk: ¬c.kind=2∧ ¬(2≤c.kind∧c.kind≤6)∧ ¬(c.kind=5∨c.kind=6):=by omega
     refine wf ?_
     rw[show Fx f c=c by unfold Fx;simp[hk],show(EF c).foldl g st=st by unfold EF;simp[hk]]
     exact⟨(),trivial,⟨rfl,rfl,rfl⟩,.refl _⟩
 have o2:(Fx f c).over=c.over:=rfl
 generalize hc2:Fx f c=c2 at o2 ⊢
 have ho2:c2.over.length≤1000:=by rw[o2];exact ho
 refine wf ?_
 refine we (vf:=vIdn) (c:=c2.over.length) rfl rfl (by omega) (by omega) fun v0 R0 hv0=>?_
 refine wo ?_
 refine AD ?_
 refine E0 Aq.symm ?_
 refine wf ?_
 refine Ad (σ:=Nat × St × Value × List Res) (fun k=>k.1≤c2.over.length∧k.2.1=(c2.over.take k.1).foldl g ((EF c).foldl g st)∧qY k.2.2.1 ((c2.over.take k.1).map f) k.2.2.2) (fun k=>c2.over.length - k.1) (fun k=> [(1,.clo F cs),(2,.raw (.pointer (some ⟨b2,0,none⟩))),(4,.raw (.pointer (some ⟨b4,0,none⟩))),(5,.raw k.2.2.1),(53,.slice (c2.over.map eIdent) .ro),(54,.raw (.int .i64 c2.over.length)),(55,.raw (.int .i64 k.1))]) (fun k=> .box b4 73 (eChg Chg.zero):: .box b2 73 (eChg c2)::(k.2.2.2++(Lf k.2.1++LF))) (0,(EF c).foldl g st,v0,R0) ⟨by simp,rfl,hv0⟩ ⟨rfl,rfl,rfl,rfl,rfl,rfl,rfl⟩ (.refl _) ?_
 rintro⟨k,s,v,R⟩ ⟨hk,hs,hI⟩
 dsimp only at hk hs hI ⊢
 refine wf ?_
 refine A6 (fun hc=>?_) (fun hc=>?_)
 ·have hlt:k < c2.over.length:=by omega
  refine wz fun b7=>?_
  refine Ao 7 ?_
  refine wf ?_
  refine Bx (xs:= [.tmp 61]) (Lf s) (.box b4 73 (eChg Chg.zero):: .box b2 73 (eChg c2)::(R++LF)) (fun L=> .box b4 73 (eChg Chg.zero):: .box b2 73 (eChg c2)::(R++(L++LF))) (f:=F) (cs:=cs) (.refl _) rfl rfl Yz _ (hp s c2.over[k] (by rw[dC,Aj];exact .inr (o2 ▸ AF hlt))) (fun _=>Yz.symm) fun r L' ⟨e1,e2⟩=>?_
  subst e1 e2
  refine wf ?_
  refine Im (f:=eIdent) (m:= [f c2.over[k]]) (R:=R) (LF:= .box b4 73 (eChg Chg.zero):: .box b2 73 (eChg c2)::(Lf (g s c2.over[k])++LF)) (fun R'=> .box b4 73 (eChg Chg.zero):: .box b2 73 (eChg c2)::(R'++(Lf (g s c2.over[k])++LF))) rfl rfl hI Aq (fun R'=>Aq.symm) (by simp only[AR,Aa,AN,Af];omega) (by simp only[AR,Aa,AN,Af];omega) fun v3 R3 h3=>?_
  refine wf ?_
  refine wf ?_
  refine⟨(k+1,_,v3,R3),⟨by dsimp only;omega,?_,?_⟩,by dsimp only;omega,⟨rfl,rfl,rfl,rfl,rfl,rfl,rfl⟩,.refl _⟩
  ·dsimp only
   rw[A7 hlt,BO,←hs];rfl
  ·dsimp only
   rw[A7 hlt,Ak]
   exact h3
 ·rw[AE (by omega)]at hI hs
  have hms:(sortI (c2.over.map f)).length≤maxN∧(sortI (c2.over.map f)).length*33≤maxN:=by
   have h1:maxN=140737488355328:=rfl
   have h2:(sortI (c2.over.map f)).length=c2.over.length:=by rw[sortI,Cg,AR]
   omega
  have hfin:Eo f c= { c2 with over:=sortI (c2.over.map f) }:=by rw[uB,hc2,o2]
  have hst:(Ct c).foldl g st=s:=by rw[dC,BO,hs,o2]
  refine wf ?_
  refine Bx (xs:= [.tmp 66,.func 159]) R (.box b4 73 (eChg Chg.zero):: .box b2 73 (eChg c2)::(Lf s++LF)) (fun R'=> .box b4 73 (eChg Chg.zero):: .box b2 73 (eChg c2)::(R'++(Lf s++LF))) (f:=158) (cs:= []) (CA _) rfl rfl Aq _ (YJ _ _ R hI (by simp only[AR];omega)) (fun _=>Aq.symm) fun r' L3 ⟨v3,e3,h3⟩=>?_
  subst e3
  refine wo ?_
  refine AD ?_
  refine Gn (f:=eIdent) 5 h3 hms Aq rfl ?_
  rw[hfin,hst]
  refine wf ?_
  exact⟨trivial,_,_,.cons (.cell 4 73 rfl AG FF.out (by simp)) .nil,.cons _ (.cons _ (.refl _)),rfl,rfl⟩
instance yZ:NG Tryz.prog 140 31 3:=⟨by kernel_rfl⟩
theorem bq (st:List (Dig × Int)) (d:Dig) (m:Nat) (x:Ident) (hs: ∀ e∈st,0≤e.2∧e.2≤1000000000000) (hn:x.n≤1000000000000):
  BA Tryz.prog 103 [.agg (eIdent x),.pt (eDig d) 0,.pt [.raw (.map (some m))] 0] [.map m (BQ kDig vInt st)] (fun r L'=>r= .agg (eIdent (fJ st d x))∧L'= [.map m (BQ kDig vInt st)]):=by
 refine C5 Tryz.func103 rfl Tryz.ntmps103 (rs:= [.cell 4 65]) rfl rfl fun hb LF=>?_
 rw[B0,B8]
 refine wf ?_
 refine C6 fun b4=>?_
 refine wf ?_
 refine C6 fun b5=>?_
 refine ws ?_
 refine Cv (σ:=Unit) (fun _=>True) (fun _=> [(1,.pt (eDig d) 0),(2,.pt [.raw (.map (some m))] 0),(3,.pt (eIdent x) 0),(4,.raw (.pointer (some ⟨b4,0,none⟩))),(5,.raw (.pointer (some ⟨b5,0,none⟩)))]) (fun _=> .box b5 31 (eDig (if Ea x=true then d else x.patch)):: .box b4 65 (eIdent Ident.zero):: .map m (BQ kDig vInt st)::LF) ?_ fun _ _=>?_
 ·refine AW (fun h=>?_) (fun h=>?_)
  ·refine wf ?_
   rw[if_pos h]
   exact⟨(),trivial,⟨rfl,rfl,rfl,rfl,rfl⟩,.refl _⟩
  ·refine wf ?_
   rw[if_neg (by simp[h])]
   exact⟨(),trivial,⟨rfl,rfl,rfl,rfl,rfl⟩,.refl _⟩
 have hj:fJ st d x=match C4 (if Ea x=true then d else x.patch) st with|some k=>if 0≤x.n then⟨Dig.zero,k+x.n⟩else x|none=>x:=rfl
 rw[hj]
 generalize (if Ea x=true then d else x.patch)=e
 have hb0:0≤(C4 e st).getD 0∧(C4 e st).getD 0≤1000000000000:=by
  cases hg:C4 e st with
  |none=>exact⟨by decide,by decide⟩
  |some k=>exact hs _ (Jg hg)
 have hj:(match C4 e st with|some k=>if 0≤x.n then(⟨Dig.zero,k+x.n⟩:Ident)else x|none=>x)=if(C4 e st).isSome=true∧0≤x.n then⟨Dig.zero,(C4 e st).getD 0+x.n⟩else x:=by
  cases hg:C4 e st with
  |none=>simp
  |some k=>simp
 rw[hj]
 refine wf ?_
 refine Av (fun h=>?_) (fun h=>?_)
 ·refine wf ?_
  refine A6 (fun h2=>?_) (fun h2=>?_)
  ·rw[if_pos ⟨h,h2⟩]
   refine wf ?_
   exact⟨trivial,_,_,.cons (.cell 4 65 rfl (AH _ AG) FF.out (by simp)) .nil,.cons _ (.cons _ (.refl _)),rfl,rfl⟩
  ·rw[if_neg fun k=>h2 k.2]
   refine wf ?_
   exact⟨trivial,_,_,.cons (.cell 4 65 rfl (AH _ AG) FF.out (by simp)) .nil,.cons _ (.cons _ (.refl _)),rfl,rfl⟩
 ·rw[if_neg fun k=>by simp[k.1]at h]
  refine wf ?_
  exact⟨trivial,_,_,.cons (.cell 4 65 rfl (AH _ AG) FF.out (by simp)) .nil,.cons _ (.cons _ (.refl _)),rfl,rfl⟩
@[reducible] def MN (m:Mta) (vd:Value) (cs:List Chg) (tg:CF):List PV:= [.str m.author,.str m.message,.raw (.int .i64 m.time),.raw vd,.slice (cs.map eChg) tg]
@[reducible] def ia (m:Mta) (ds:List Dig) (cs:List Chg) (tg:CF):List PV:= [.str m.author,.str m.message,.raw (.int .i64 m.time),.slice (ds.map eDig) .ro,.slice (cs.map eChg) tg]
theorem rf (m:Mta) (ds:List Dig) (cs:List Chg) (tg:CF):Le (.agg (ia m ds cs tg)) (.agg (Bz ⟨m.author,m.message,m.time,ds,cs⟩)):=fun g v hv=>by
 obtain⟨vs,rfl,h⟩:=hv.agg_inv
 match vs,h with
 | [a,b,c,d,e],h=>
   exact EB.agg (.cons h.uncons.1 (.cons h.uncons.2.uncons.1 (.cons h.uncons.2.uncons.2.uncons.1 (.cons h.uncons.2.uncons.2.uncons.2.uncons.1 (.cons h.uncons.2.uncons.2.uncons.2.uncons.2.uncons.1.ro (.nil g))))))
 | [],h=>have:=h.len;simp at this
 | [_],h=>have:=h.len;simp at this
 | [_,_],h=>have:=h.len;simp at this
 | [_,_,_],h=>have:=h.len;simp at this
 | [_,_,_,_],h=>have:=h.len;simp at this
 |_::_::_::_::_::_::_,h=>have:=h.len;simp at this
theorem qk:Cp Tryz.prog 40 [.str [],.str [],.raw (.int .i64 0),.raw (.slice none 0 0),.slice [] .nil]:=⟨by
 have h:((Tryz.prog.info? 40).bind (·.zero)).map (·.cells.toList)=some [.string ⟨#[]⟩,.string ⟨#[]⟩,.int .i64 0,.slice none 0 0,.slice none 0 0]:=by kernel_rfl
 obtain⟨v,h1,h2⟩:=Bn.1 h
 obtain⟨i,h3,h4⟩:=Dw.1 h1
 exact⟨i,v,_,h3,h4,by rw[←h2],fun g=> .cons (.str (by simp)) (.cons (.str (by simp)) (.cons (.raw _) (.cons (.raw _) (.cons (.nilN none (by simp)) (.nil g)))))⟩⟩
instance :Cp Tryz.prog 140 [.raw (.map none)]:=LZ (v:= .map none) (by kernel_rfl) rfl fun _=> .raw _
theorem Sz {s:List Sto} (v:BH s) {x:Sto} (hx:x∈s) {c:Chg} (hc:c∈x.patch.changes): ∀ y∈Ct c,y.n≤16200:=by
 have hu:=v.uses hx hc
 have cnt: ∀ z∈s,Hg z.patch≤16200:=fun z hz=>(E1 (v.close.1.2 z hz)).1
 have key: ∀ y,(R7 (Hg x.patch) y∧Kn s y)→y.n≤16200:=fun y ⟨h1,h2⟩=>by
  by_cases hz:y.patch=Dig.zero
  ·have:=h1.2 hz;have:=cnt x hx;omega
  ·obtain⟨z,hz',_,_,h4⟩:=h2 hz
   have:=cnt z hz';omega
 intro y hy
 unfold Ct at hy
 simp only[Aj]at hy
 rcases hy with ((hy|hy)|hy)|hy
 ·split at hy
  ·rename_i h;rw[An.1 hy];exact key _ (hu.file h.1 h.2)
  ·cases hy
 ·split at hy
  ·rename_i h
   rw[An.1 hy]
   by_cases hr:c.parent=rRoot
   ·rw[hr];decide
   ·exact key _ (hu.parent h hr)
  ·cases hy
 ·split at hy
  ·rename_i h
   simp only[AI,Ai,or_false]at hy
   rcases hy with rfl|rfl
   ·exact key _ (hu.after h)
   ·exact key _ (hu.before h)
  ·cases hy
 ·exact key _ (hu.over y hy)
theorem eH {m:Mta} {vd:Value} {cs:List Chg} {tg:CF} (h:vd.oneCell'=true):KF (MN m vd cs tg):=O5 (O5 (FJ rfl (FJ h (NB HG))))
instance zt (m:Mta) (vd:Value) (cs:List Chg) (tg:CF):At (MN m vd cs tg) 3 (.raw vd):=⟨rfl⟩
instance zq (m:Mta) (vd:Value) (cs:List Chg) (tg:CF):At (MN m vd cs tg) 4 (.slice (cs.map eChg) tg):=⟨rfl⟩
theorem Ov {s:List Sto} (v:BH s) {x:Sto} (hx:x∈s):CB Tryz.prog 29 [.agg (Bz x.patch)] (.raw (.int .i64 (cntS s x.id))):=⟨by
 have i1:B1 (ED x.patch=false):=⟨v.close.1.2 x hx⟩
 have e:cntS s x.id=(Kq x.patch).1.length:=by
  rw[v.cntS hx,(So (by rw[Tc];exact(v.id x hx).1)).1];rfl
 refine Au Tryz.func29 Tryz.ntmps29 rfl (rs:= [.tmp 2]) rfl rfl fun hb LF=>?_
 refine wf ?_
 refine B2 (.of_eq ?_)
 rw[e]⟩
theorem fZ {a b c d:Res} {l:List Res}:(a::b::c::d::l).Perm (d::c::b::a::l):=(List.reverse_perm [a,b,c,d]).symm.append_right l
theorem Re {a b c d:Res} {L M:List Res}:(a::b::c::d::(L++M)).Perm (L++(a::b::c::d::M)):=(((Aq (a:=c) (b:=d)).cons b).cons a).trans Aq
theorem Oe {a b c:Res} {l:List Res}:(a::b::c::l).Perm (c::a::b::l):=((List.Perm.swap c b l).cons a).trans (.swap c a (b::l))
structure v7 (s:List Sto) (l:List Dig) (i:Nat) (st:List (Dig × Int)) (n:Int) (cs:List Chg) (ds:List Dig):Prop where
 is:((BK s).take i).foldl (jP s l) ([],0,[],[])=(st,n,cs,ds)
 n0:0≤n∧n≤i*16200
 st: ∀ e∈st,0≤e.2∧e.2≤i*16200
 cs:cs.length≤i*200
 ds:ds.length≤i*200
theorem v7.out {s:List Sto} {l:List Dig} {i:Nat} {st:List (Dig × Int)} {n:Int} {cs:List Chg} {ds:List Dig} (h:v7 s l i st n cs ds) (hi:i < (BK s).length) (hl: ¬(BK s)[i]∈l):v7 s l (i+1) st n cs ds:=by
 obtain⟨h1,h2,h3,h4,h5⟩:=h
 refine⟨?_,by omega,fun e he=>by have:=h3 e he;omega,by omega,by omega⟩
 rw[A7 hi,BO,h1,BM,Ho]
 unfold jP
 rw[if_neg hl]
theorem v7.in_ {s:List Sto} (v:BH s) {l:List Dig} {i:Nat} {st:List (Dig × Int)} {n:Int} {cs:List Chg} {ds:List Dig} (h:v7 s l i st n cs ds) (hi:i < (BK s).length) {x:Sto} (hx:x∈s) (hd:(BK s)[i]=x.id) (hl:x.id∈l):
  v7 s l (i+1) (Cn x.id n st) (n+cntS s x.id) (cs++x.patch.changes.map (Eo (fJ (Cn x.id n st) x.id))) (ds++x.patch.deps.filter fun e=>decide (¬e∈l)):=by
 obtain⟨h1,h2,h3,h4,h5⟩:=h
 have hb:=v.close.1.2 x hx
 have hc:cntS s x.id≤16200:=by rw[v.cntS hx];exact(E1 hb).1
 obtain⟨_,_,g1,g2,_⟩:=Ek hb
 have hf:(x.patch.deps.filter fun e=>decide (¬e∈l)).length≤x.patch.deps.length:=Dk _ _
 refine⟨?_,by omega,fun e he=>?_,?_,?_⟩
 ·rw[A7 hi,BO,h1,BM,Ho,hd]
  unfold jP
  rw[if_pos hl,v.getS hx]
  rfl
 ·have key: ∀ (m:List (Dig × Int)) e,e∈Cn x.id n m→e.2=n∨e∈m:=fun m=>by
   induction m with
   |nil=>intro e he;simp[Cn]at he;exact .inl (by rw[he])
   |cons a m ih=>
    intro e he
    unfold Cn at he
    split at he
    ·rcases AI.1 he with rfl|he
     ·exact .inl rfl
     ·exact .inr (AH _ he)
    ·rcases AI.1 he with rfl|he
     ·exact .inr AG
     ·exact(ih e he).imp id (AH _)
  rcases key st e he with h|h
  ·rw[h];omega
  ·have:=h3 e h;omega
 ·rw[AA,AR];omega
 ·rw[AA];omega
structure JS where
 i:Nat
 st:List (Dig × Int)
 n:Int
 cs:List Chg
 tg:CF
 vd:Value
 ds:List Dig
 R:List Res
theorem gF (s:List Sto) (t:CF) (l:List Dig) (u:CF) (m:Mta) (hv:BH s):CB Tryz.prog 39 [.slice (s.map eSto) t,.slice (l.map eDig) u,.agg (FY m)] (.agg (Bz (HD s l m))):=⟨by
 have c1:=fun t=>Rh s t hv.close.1 hv.asc
 have ho:=C8 s
 have hol:(BK s).length≤200:=by
  have:=Eg ho.nodup (u:=ids s) ho.sub
  have:=hv.close.1.1
  unfold ids at*
  simp only[AR]at*
  omega
 refine Au Tryz.func39 Tryz.ntmps39 rfl (rs:= [.cell 6 40]) rfl rfl fun hb LF=>?_
 refine wf ?_
 refine C6 fun b6=>?_
 refine AD ?_
 repeat(refine DX ?_)
 refine CQ (by kernel_rfl) ?_
 iterate 6 (refine w1 ?_)
 refine TM (hZ:=qk) (c0:= [.str m.author]) (c1:= [.str m.message]) (c2:= [.raw (.int .i64 m.time)]) (r0:= [.str m.author,.str [],.raw (.int .i64 0),.raw (.slice none 0 0),.slice [] .nil]) (r1:= [.str m.author,.str m.message,.raw (.int .i64 0),.raw (.slice none 0 0),.slice [] .nil]) (r2:=MN m (.slice none 0 0) [] .nil) (hP0:=⟨rfl,by simp⟩) (hP1:=⟨rfl,by simp⟩) (hP2:=⟨rfl,by simp⟩) ?_ ?_ ?_ rfl rfl rfl ?_
 ·exact Dj.one (c:= .str m.author) Dv.out
 ·exact Dj.one (c:= .str m.message) Dv.out
 ·exact Dj.one (c:= .raw (.int .i64 m.time)) Dv.out
 refine C6 fun b7=>?_
 refine QF (new:=MN m (.slice none 0 0) [] .nil) (hf:=⟨eH rfl⟩) rfl rfl .here rfl (by simp) ?_
 refine AD ?_
 repeat(refine DX ?_)
 refine CQ (by kernel_rfl) ?_
 refine KK fun mp=>?_
 refine C6 fun b8=>?_
 refine wo ?_
 refine AD ?_
 refine Ao 8 ?_
 refine wf ?_
 refine EO 139 ?_
 refine E0 fZ ?_
 refine Ad (σ:=JS) (fun k=>k.i≤(BK s).length∧v7 s l k.i k.st k.n k.cs k.ds∧VB k.vd k.ds k.R) (fun k=>(BK s).length - k.i) (fun k=> [(0,.slice (s.map eSto) t),(1,.slice (l.map eDig) u),(6,.raw (.pointer (some ⟨b6,0,none⟩))),(7,.raw (.pointer (some ⟨b7,0,none⟩))),(8,.pt [.raw (.map (some mp))] 0),(9,.raw (.int .i64 k.n)),(27,.slice ((BK s).map eDig) .ro),(28,.raw (.int .i64 (BK s).length)),(29,.raw (.int .i64 k.i))]) (fun k=> .box b6 40 (Bz Pat.zero):: .box b7 40 (MN m k.vd k.cs k.tg):: .map mp (BQ kDig vInt k.st):: .tok k.tg (k.cs).length 139::(k.R++LF)) ⟨0,[],0,[],.nil,.slice none 0 0,[],[]⟩ ⟨by simp,⟨rfl,by decide,fun e he=>absurd he Ai,by simp,by simp⟩,.nil none (by simp)⟩ ⟨rfl,rfl,rfl,rfl,rfl,rfl,rfl,rfl,rfl⟩ (.refl _) ?_
 rintro⟨i,st,n,cs,tg,vd,ds,R⟩ ⟨hi,hJ,hR⟩
 dsimp only at hi hJ hR ⊢
 refine wf ?_
 refine A6 (fun hc=>?_) (fun hc=>?_)
 ·have hlt:i < (BK s).length:=by omega
  obtain⟨x,hx,hxd⟩:=AQ.1 (ho.sub _ (AF hlt))
  refine wz fun b11=>?_
  refine Ao 11 ?_
  refine wf ?_
  refine AY (fun h=>?_) (fun h=>?_)
  ·refine wf ?_
   exact⟨⟨i+1,st,n,cs,tg,vd,ds,R⟩,⟨by dsimp only;omega,hJ.out hlt h,hR⟩,by dsimp only;omega,⟨rfl,rfl,rfl,rfl,rfl,rfl,rfl,rfl,rfl⟩,.refl _⟩
  ·have hl:x.id∈l:=by rw[hxd];exact h
   have hJ':=hJ.in_ hv hlt hx hxd.symm hl
   have hb0:=hv.close.1.2 x hx
   have hc16:cntS s x.id≤16200:=by rw[hv.cntS hx];exact(E1 hb0).1
   obtain⟨_,_,g1,g2,gch⟩:=Ek hb0
   have cg: ∀ t,CB Tryz.prog 17 [.slice (s.map eSto) t,.agg (eDig x.id)] (.tuple [.agg (Bz x.patch),.raw (.bool true)]):=fun t=>by
    have:=KJ s t x.id
    rw[hv.getS hx]at this
    exact this
   have cc:=Ov hv hx
   have hn0:=hJ.n0
   have hst0:=hJ'.st
   have hcs0:=hJ.cs
   have hds0:=hJ.ds
   rw[←hxd]
   refine wz fun b12=>?_
   refine Ao 12 ?_
   refine wf ?_
   refine QG (κ:=Dig) (ek:=kDig) (ev:=vInt) (k0:=x.id) (x0:=n) (L':= .box b6 40 (Bz Pat.zero):: .box b7 40 (MN m vd cs tg):: .tok tg cs.length 139::(R++LF)) rfl Oe (.refl _) (.refl _) ?_
   refine AD ?_
   refine E0 Oe.symm ?_
   refine wf ?_
   refine Ad (σ:=Nat × List Chg × CF) (fun k=>k.1≤x.patch.changes.length∧k.2.1=cs++(x.patch.changes.take k.1).map (Eo (fJ (Cn x.id n st) x.id))) (fun k=>x.patch.changes.length - k.1) (fun k=> [(0,.slice (s.map eSto) t),(1,.slice (l.map eDig) u),(6,.raw (.pointer (some ⟨b6,0,none⟩))),(7,.raw (.pointer (some ⟨b7,0,none⟩))),(8,.pt [.raw (.map (some mp))] 0),(9,.raw (.int .i64 (n+cntS s x.id))),(27,.slice ((BK s).map eDig) .ro),(28,.raw (.int .i64 (BK s).length)),(29,.raw (.int .i64 i)),(11,.pt (eDig x.id) 0),(12,.pt (Bz x.patch) 0),(51,.slice (x.patch.changes.map eChg) .ro),(52,.raw (.int .i64 x.patch.changes.length)),(53,.raw (.int .i64 k.1))]) (fun k=> .box b6 40 (Bz Pat.zero):: .box b7 40 (MN m vd k.2.1 k.2.2):: .map mp (BQ kDig vInt (Cn x.id n st)):: .tok k.2.2 (k.2.1).length 139::(R++LF)) (0,cs,tg) ⟨by simp,by simp⟩ ⟨rfl,rfl,rfl,rfl,rfl,rfl,rfl,rfl,rfl,rfl,rfl,rfl,rfl,rfl⟩ (.refl _) ?_
   rintro⟨j,cs1,tg1⟩ ⟨hj,hcs⟩
   dsimp only at hj hcs ⊢
   refine wf ?_
   refine A6 (fun hc1=>?_) (fun hc1=>?_)
   ·have hjl:j < x.patch.changes.length:=by omega
    have hch:=AF hjl
    have hl1:cs1.length=cs.length+j:=by rw[hcs];simp;omega
    refine wz fun b15=>?_
    refine Ao 15 ?_
    refine wn ?_
    refine Bj 6 ?_ ?_
    ·decide+kernel
    refine wf ?_
    refine QI (xs:= [.tmp 59,.tmp 60]) [.map mp (BQ kDig vInt (Cn x.id n st))] (.box b6 40 (Bz Pat.zero):: .box b7 40 (MN m vd cs1 tg1):: .tok tg1 cs1.length 139::(R++LF)) (.agg (eChg (Eo (fJ (Cn x.id n st) x.id) x.patch.changes[j]))) (f:=102) (cs:= []) (CA _) rfl rfl Oe (Rn 103 _ (fun _:Unit=> [.map mp (BQ kDig vInt (Cn x.id n st))]) (fJ (Cn x.id n st) x.id) (fun _ _=>()) x.patch.changes[j] (fun _ y hy=>bq (Cn x.id n st) x.id mp y (fun e he=>by have:=hst0 e he;omega) (by have:=Sz hv hx hch y hy;omega)) (by have:=(gch _ hch).over;omega) ()) ?_
    refine dB fun v'=>?_
    refine GJ (ay:= .slice ((cs1++ [Eo (fJ (Cn x.id n st) x.id) x.patch.changes[j]]).map eChg) v') (MN m vd (cs1++ [Eo (fJ (Cn x.id n st) x.id) x.patch.changes[j]]) v') rfl rfl Dv.out rfl (by simp) ?_
    refine wf ?_
    refine wf ?_
    refine⟨(j+1,(cs1++ [Eo (fJ (Cn x.id n st) x.id) x.patch.changes[j]]),v'),⟨by dsimp only;omega,?_⟩,by dsimp only;omega,⟨rfl,rfl,rfl,rfl,rfl,rfl,rfl,rfl,rfl,rfl,rfl,rfl,rfl,rfl⟩,.refl _⟩
    dsimp only
    rw[A7 hjl,Ak,hcs,AU]
    rfl
   ·have hcs:cs1=cs++x.patch.changes.map (Eo (fJ (Cn x.id n st) x.id)):=by rw[hcs,AE (by omega)]
    rw[←hcs]at hJ'
    refine wf ?_
    refine Ad (σ:=Nat × Value × List Dig × List Res) (fun k=>k.1≤x.patch.deps.length∧k.2.2.1=ds++(x.patch.deps.take k.1).filter (fun e=>decide (¬e∈l))∧VB k.2.1 k.2.2.1 k.2.2.2) (fun k=>x.patch.deps.length - k.1) (fun k=> [(0,.slice (s.map eSto) t),(1,.slice (l.map eDig) u),(6,.raw (.pointer (some ⟨b6,0,none⟩))),(7,.raw (.pointer (some ⟨b7,0,none⟩))),(8,.pt [.raw (.map (some mp))] 0),(9,.raw (.int .i64 (n+cntS s x.id))),(27,.slice ((BK s).map eDig) .ro),(28,.raw (.int .i64 (BK s).length)),(29,.raw (.int .i64 i)),(12,.pt (Bz x.patch) 0),(67,.slice (x.patch.deps.map eDig) .ro),(68,.raw (.int .i64 x.patch.deps.length)),(69,.raw (.int .i64 k.1))]) (fun k=> .box b6 40 (Bz Pat.zero):: .box b7 40 (MN m k.2.1 cs1 tg1):: .map mp (BQ kDig vInt (Cn x.id n st)):: .tok tg1 (cs1).length 139::(k.2.2.2++LF)) (0,vd,ds,R) ⟨by simp,by simp,hR⟩ ⟨rfl,rfl,rfl,rfl,rfl,rfl,rfl,rfl,rfl,rfl,rfl,rfl,rfl⟩ (.refl _) ?_
    rintro⟨q,vd1,ds1,R1⟩ ⟨hq,hds,hR1⟩
    dsimp only at hq hds hR1 ⊢
    have hdl:ds1.length≤40000+q:=by
     have:=Dk (fun e=>decide (¬e∈l)) (x.patch.deps.take q)
     rw[hds,AA]
     rw[Aa]at this
     omega
    refine wf ?_
    refine A6 (fun hc2=>?_) (fun hc2=>?_)
    ·have hql:q < x.patch.deps.length:=by omega
     refine wz fun b17=>?_
     refine Ao 17 ?_
     refine wf ?_
     refine AY (fun hd=>?_) (fun hd=>?_)
     ·refine wf ?_
      refine Im (f:=eDig) (m:= [x.patch.deps[q]]) (R:=R1) (LF:= .box b6 40 (Bz Pat.zero):: .box b7 40 (MN m vd1 cs1 tg1):: .map mp (BQ kDig vInt (Cn x.id n st)):: .tok tg1 cs1.length 139::LF) (fun R'=> .box b6 40 (Bz Pat.zero):: .box b7 40 (MN m vd1 cs1 tg1):: .map mp (BQ kDig vInt (Cn x.id n st)):: .tok tg1 cs1.length 139::(R'++LF)) rfl rfl hR1 Re (fun R'=>Re.symm) (by simp only[AN,Af];omega) (by simp only[AN,Af];omega) fun v2 R2 hv2=>?_
      refine wf ?_
      refine Hr (MN m v2 cs1 tg1) rfl rfl hv2.one rfl (by simp) ?_
      refine wf ?_
      refine wf ?_
      refine⟨(q+1,v2,_,R2),⟨by dsimp only;omega,?_,hv2⟩,by dsimp only;omega,⟨rfl,rfl,rfl,rfl,rfl,rfl,rfl,rfl,rfl,rfl,rfl,rfl,rfl⟩,.refl _⟩
      dsimp only
      rw[A7 hql,Fa,hds,AU,Eu (by simpa using hd)]
      rfl
     ·refine wf ?_
      refine⟨(q+1,vd1,ds1,R1),⟨by dsimp only;omega,?_,hR1⟩,by dsimp only;omega,⟨rfl,rfl,rfl,rfl,rfl,rfl,rfl,rfl,rfl,rfl,rfl,rfl,rfl⟩,.refl _⟩
      dsimp only
      rw[A7 hql,Fa,hds,Ew (by simpa using hd)]
      simp
    ·have hds:ds1=ds++x.patch.deps.filter (fun e=>decide (¬e∈l)):=by rw[hds,AE (by omega)]
     rw[←hds]at hJ'
     refine wf ?_
     exact⟨⟨i+1,(Cn x.id n st),(n+cntS s x.id),cs1,tg1,vd1,ds1,R1⟩,⟨by dsimp only;omega,hJ',hR1⟩,by dsimp only;omega,⟨rfl,rfl,rfl,rfl,rfl,rfl,rfl,rfl,rfl⟩,.refl _⟩
 have hii:i=(BK s).length:=by omega
 have hjn:HD s l m=⟨m.author,m.message,m.time,Kj (sortD ds),cs⟩:=by
  unfold HD
  rw[show(BK s).foldl (jP s l) ([],0,[],[])=(st,n,cs,ds) by rw[←hJ.is,AE (by omega)]]
 have hds0:=hJ.ds
 have hsl:(sortD ds).length=ds.length:=by unfold sortD;rw[Cg]
 rw[hjn]
 refine wf ?_
 refine Bx (xs:= [.tmp 86,.func 61]) R (.box b6 40 (Bz Pat.zero):: .box b7 40 (MN m vd cs tg):: .map mp (BQ kDig vInt st):: .tok tg cs.length 139::LF) (fun R'=> .box b6 40 (Bz Pat.zero):: .box b7 40 (MN m vd cs tg):: .map mp (BQ kDig vInt st):: .tok tg cs.length 139::(R'++LF)) (f:=60) (cs:= []) (CA _) rfl rfl Re _ (Sk ds vd R hR (by omega)) (fun _=>Re.symm) fun r L2 ⟨v2,e2,hv2⟩=>?_
 subst e2
 refine wf ?_
 refine Bx (xs:= [.tmp 89]) L2 (.box b6 40 (Bz Pat.zero):: .box b7 40 (MN m v2 cs tg):: .map mp (BQ kDig vInt st):: .tok tg cs.length 139::LF) (fun R'=> .box b6 40 (Bz Pat.zero):: .box b7 40 (MN m v2 cs tg):: .map mp (BQ kDig vInt st):: .tok tg cs.length 139::(R'++LF)) (f:=62) (cs:= []) (CA _) rfl rfl Re _ (Pw (sortD ds) v2 L2 hv2 (by omega)) (fun _=>Re.symm) fun r L3 ⟨hr,hL3⟩=>?_
 subst hr hL3
 refine wo ?_
 refine GJ (ay:= .slice ((Kj (sortD ds)).map eDig) .ro) (ia m (Kj (sortD ds)) cs tg) rfl rfl Dv.out rfl (by simp) ?_
 refine wf ?_
 refine VU (cs:=ia m (Kj (sortD ds)) cs tg) rfl (AH _ AG) rfl ?_
 refine QF (new:=ia m (Kj (sortD ds)) cs tg) (hf:=⟨O5 (O5 (FJ rfl (NB (NB HG))))⟩) rfl rfl .here rfl (by simp) ?_
 refine wf ?_
 exact Fo rfl (rf _ _ _ _)⟩
attribute [local irreducible] Km
theorem Q5 {α:Type} (a:List α):a.zipIdx.reverse.map (·.1)=a.reverse:=by
 rw[List.map_reverse,show(fun x:α × Nat=>x.1)=Prod.fst from rfl,aV]
def Ur (s:List Sto) (e:Dig × Nat):List Atm:=(atmS s e.1).reverse
theorem VP (s:List Sto):(BK s).zipIdx.reverse.flatMap (Ur s)=Lj s:=by
 have:(BK s).zipIdx.reverse.flatMap (Ur s)=((BK s).zipIdx.reverse.map (·.1)).flatMap fun d=>(atmS s d).reverse:=by rw[List.flatMap_map];rfl
 rw[this,Q5]
 unfold Lj
 rw[List.reverse_flatMap]
 rfl
instance vh (s:List Sto) (t:CF):CB Tryz.prog 202 [.slice (s.map eSto) t] (.clo 253 [.pt [.slice (s.map eSto) .ro] 0]):=⟨by
 refine Au Tryz.func202 Tryz.ntmps202 rfl (rs:= [.tmp 2]) rfl rfl fun hb LF=>?_
 refine wf ?_
 exact B2 (.refl _)⟩
theorem ZM {s:List Sto} (v:BH s):Uc Tryz.prog 253 [.pt [.slice (s.map eSto) .ro] 0] lY (Lj s):=by
 have c1:=fun t=>Rh s t v.close.1 v.asc
 have ho:=C8 s
 have hol:(BK s).length≤200:=by
  have:=Eg ho.nodup (u:=ids s) ho.sub
  have:=v.close.1.1
  unfold ids at*
  simp only[AR]at*
  omega
 intro l J Jx hY L hJ
 refine C5 Tryz.func253 rfl Tryz.ntmps253 (rs:= []) rfl rfl fun hb LF=>?_
 refine wf ?_
 refine GD (cT (BK s) .ro (by omega)) [14,15] (σ:=List Res) (fun pre s'=>J (pre.flatMap (Ur s)) s') (fun _ s'=> ∃ p,Jx p s') (fun s' LF'=>s'++LF') L LF ?_ rfl (fun _=>rfl) (by simp) (fun s' LF'=>by rw[BX]) (.refl _) hJ ?_ ?_ ?_
 ·exact .refl _
 ·intro pre x s' LF' hpx hI
  obtain⟨rest,hrest⟩:=hpx
  have hxm:x.1∈BK s:=by
   have:x∈(BK s).zipIdx.reverse:=by rw[←hrest];simp
   have:x.1∈(BK s).zipIdx.reverse.map (·.1):=AQ.2 ⟨x,this,rfl⟩
   rw[Q5]at this
   simpa using this
  obtain⟨y,hys,hyd⟩:=AQ.1 (ho.sub _ hxm)
  have hb0:=v.close.1.2 y hys
  have i1:B1 (ED y.patch=false):=⟨hb0⟩
  have hat:atmS s x.1=(El y.patch).1:=by
   unfold Go.Proofs.atmS
   rw[←hyd,v.getS hys];rfl
  have hal:(El y.patch).1.length≤1000000:=by
   rw[←hat,←hyd,v.at_len hys]
   have:=(E1 hb0).1
   unfold Hg
   omega
  have cg: ∀ t,CB Tryz.prog 17 [.slice (s.map eSto) t,.agg (eDig x.1)] (.tuple [.agg (Bz y.patch),.raw (.bool true)]):=fun t=>by
   have:=KJ s t x.1
   rw[←hyd,v.getS hys]at this
   rw[←hyd]
   exact this
  have hseq:Lj s=pre.flatMap (Ur s)++((El y.patch).1.reverse++rest.flatMap (Ur s)):=by
   rw[←VP,←hrest,FI,FI,AU]
   congr 2
   unfold Ur
   rw[A09,hat]
  unfold bkD
  refine wz fun b4=>?_
  refine Ao 4 ?_
  refine wz fun b5=>?_
  refine Ao 5 ?_
  refine wf ?_
  refine GD (cU (El y.patch).1 .ro hal) [29,30] (σ:=List Res) (fun pre2 s2=>J (pre.flatMap (Ur s)++pre2.map (·.1)) s2) (fun _ s2=> ∃ p,Jx p s2) (fun s2 LF2=>s2++LF2) s' LF' ?_ rfl (fun _=>rfl) (by simp) (fun s2 LF2=>by rw[BX]) (.refl _) (by simpa using hI) ?_ ?_ ?_
  ·exact .refl _
  ·intro pre2 z s2 LF2 hpz hI2
   obtain⟨rest2,hrest2⟩:=hpz
   have hr2:(El y.patch).1.reverse=pre2.map (·.1)++([z.1]++rest2.map (·.1)):=by
    rw[←Q5,←hrest2,Ak,Ak,AU]
    rfl
   have hy2:=hY (pre.flatMap (Ur s)++pre2.map (·.1)) z.1 s2 ⟨rest2.map (·.1)++rest.flatMap (Ur s),by rw[hseq,hr2];simp⟩ hI2
   unfold bkA
   refine wz fun b10=>?_
   refine Ao 10 ?_
   refine wf ?_
   refine HL s2 LF2 rfl rfl rfl (.refl _) _ hy2 fun bo L2 hR=>?_
   refine wf ?_
   rcases hR with ⟨rfl,h⟩|⟨rfl,h⟩
   ·refine wf ?_
    exact⟨L2,by simpa using h,.refl _⟩
   ·refine wf ?_
    exact⟨L2,⟨_,h⟩,.refl _⟩
  ·intro s2 hs2
   refine⟨s2,?_,.refl _⟩
   rw[Q5]at hs2
   dsimp only
   rw[FI,A09]
   unfold Ur at hs2 ⊢
   rw[hat]
   exact hs2
  ·intro pre2 s2 h
   exact⟨s2,h,.refl _⟩
 ·intro s' h
  rw[VP]at h
  exact⟨trivial,_,s',.nil,.refl _,.inl h⟩
 ·intro pre s' h
  exact⟨trivial,_,s',.nil,.refl _,.inr h⟩
end Go.Proofs
namespace Go.Q
open Go
class A0Y (P:Program) (T:Nat):Prop where
 out: ∃ td,P.underlying T=some td∧ ∀ ms,td≠ .interface ms
def ke (P:Program) (T:Nat) (m:String):Option (Bool × Option (Nat × Bool)):=(P.info? T).bind fun i=>(i.methods.find? (·.name==m)).map fun r=>(r.path.isEmpty,r.func)
class A0O (P:Program) (T:Nat) (m:String) (f:outParam Nat):Prop where
 row:ke P T m=some (true,some (f,true))
 ptr: ∃ E,P.underlying T=some (.pointer E)
class A0N (P:Program) (T:Nat) (m:String) (E f:outParam Nat):Prop where
 row:ke P T m=some (true,some (f,false))
 ptr:P.underlying T=some (.pointer E)
section
variable {P:Program} {N:Nat} {all:Array Oper} {K:Env→List Res→Prop} {fl:List Bool} {os:List Oper} {ρ:Env} {L:List Res} {d:Nat} {ty:TypeId} {pos:String} {af:Array Edge}
end
section
variable {κ α:Type} [DecidableEq κ] (f:α→List PV) (by_:Nat)
def SZ (x:List α × CF):PV:= .slice (x.1.map f) x.2
def al (x:List α × CF):Res:= .tok x.2 x.1.length by_
def PB (m:List (κ × (List α × CF))):List Res:=m.map fun e=>al by_ e.2
def mJ (k:κ) (m:List (κ × (List α × CF))) (R:List Res):Prop:=(C4 k m=none∧R=PB by_ m)∨ ∃ v,C4 k m=some v∧(PB by_ m).Perm (al by_ v::R)
theorem SF (k:κ): ∀ m:List (κ × (List α × CF)),∃ R,mJ by_ k m R∧ ∀ v,(PB by_ (Cn k v m)).Perm (al by_ v::R)
 | []=>⟨[],.inl ⟨rfl,rfl⟩,fun v=> .refl _⟩
 |(a,y)::l=>by
  by_cases e:k=a
  ·exact⟨PB by_ l,.inr ⟨y,by simp[C4,e],.refl _⟩,fun v=>by simp[Cn,e,PB]⟩
  ·obtain⟨R,h1,h2⟩:=SF k l
   refine⟨al by_ y::R,?_,fun v=>?_⟩
   ·rcases h1 with ⟨h,rfl⟩|⟨v,h,hp⟩
    ·exact .inl ⟨by simp[C4,e,h],rfl⟩
    ·exact .inr ⟨v,by simp[C4,e,h],(List.Perm.cons (al by_ y) hp).trans (.swap _ _ _)⟩
   ·have e2:Cn k v ((a,y)::l)=(a,y)::Cn k v l:=by simp[Cn,e]
    rw[e2]
    exact(List.Perm.cons (al by_ y) (h2 v)).trans (.swap _ _ _)
theorem fW {P:Program} {N:Nat} {c:Code} {Q:PPost} {ρ:Env} {A LF R:List Res} {m:List (κ × (List α × CF))} {k:κ} (h:mJ by_ k m R) (hk:ER P N c Q ρ (A++al by_ ((C4 k m).getD ([],.nil))::(R++LF))):ER P N c Q ρ (A++(PB by_ m++LF)):=by
 rcases h with ⟨h,rfl⟩|⟨v,h,hp⟩
 ·rw[h]at hk
  refine EO by_ ?_
  exact E0 Bc.symm hk
 ·rw[h]at hk
  exact E0 (A0S A (hp.append_right LF)) hk
end
section
variable {P:Program} {N:Nat} {all:Array Oper} {K:Env→List Res→Prop} {fl:List Bool} {os:List Oper} {ρ:Env} {L:List Res} {d:Nat} {ty:TypeId} {pos:String} {af:Array Edge}
end
end Go.Q
namespace Go.Proofs
open Go Go.Q Go.Sort
def LA (s:List Sto) (y:Ident):Option Atm:=match getS s y.patch with
 |none=>none
 |some p=>(El p).1.find? fun a=>decide (a.id=y)
def OG (s:List Sto) (y:Ident):Bool:=(LA s y).isSome&&decide (y∉(GM (Lj s)).2)
def dr (a b:Atm):Bool:=decide (a.kind=b.kind)&&decide (a.type=b.type)&&decide (a.name=b.name)&&decide (a.mode=b.mode)&&decide (a.data=b.data)&&decide (a.text=b.text)&&decide (a.over.length=b.over.length)
def Xv (s t:List Sto) (x y:Ident):Bool:=match LA s x with
 |none=>false
 |some a=>match LA t y with
  |none=>false
  |some b=>dr a b&&decide (OG s x=OG t y)
theorem BH.find {s:List Sto} (v:BH s) {x:Sto} (hx:x∈s) {i:Nat} (hi:i < x.patch.changes.length) {k:Nat} (hk:k < cntC x.patch.changes[i]):LA s ⟨x.id,(CP x.patch.changes i+k:Nat)⟩=some (IQ x i k):=by
 have hp:=EN (Fj (v.id x hx).1).1
 have hl:(El x.patch).1=Go.Proofs.atmS s x.id:=by
  unfold Go.Proofs.atmS
  rw[v.getS hx];rfl
 unfold LA
 dsimp only
 rw[v.getS hx]
 dsimp only
 rw[hl,mc]
 have hg:=v.at_get hx hi hk
 obtain⟨hlt,he⟩:=Bb.1 hg
 refine⟨BR (J2 hi hk),_,hlt,he,fun m hm=>?_⟩
 have hml:m < Hg x.patch:=by rw[v.at_len hx]at hlt;omega
 obtain⟨j,hj,q,hq,e⟩:=hp.split hml
 have hgm:=v.at_get hx hj hq
 rw[←e,AO (by omega)]at hgm
 rw[CN hgm,J2 hj hq]
 simp only[AJ,A8,Ident.mk.injEq,true_and]
 omega
def NK (φ:Ident→Ident) (x z:Sto) (i j:Nat):Prop:= ∃ (hi:i < x.patch.changes.length) (hj:j < z.patch.changes.length),∃ f:Ident→Ident,z.patch.changes[j]=Eo f x.patch.changes[i]∧(∀ y∈x.patch.changes[i].over,Cr (f y) z.id=φ (Cr y x.id))∧
 ∀ k,k < cntC x.patch.changes[i]→φ ⟨x.id,(CP x.patch.changes i+k:Nat)⟩=⟨z.id,(CP z.patch.changes j+k:Nat)⟩
structure R6 (s t:List Sto) (φ:Ident→Ident):Prop where
 inj: ∀ x∈s,∀ n:Nat,n < Hg x.patch→ ∀ y∈s,∀ m:Nat,m < Hg y.patch→φ ⟨x.id,n⟩=φ ⟨y.id,m⟩→x.id=y.id∧n=m
 to: ∀ x∈s,∀ i,i < x.patch.changes.length→ ∃ z∈t,∃ j,NK φ x z i j
 from_: ∀ z∈t,∀ j,j < z.patch.changes.length→ ∃ x∈s,∃ i,NK φ x z i j
theorem UV (f:Ident→Ident) (c:Chg):cntC (Eo f c)=cntC c:=by
 have:=congrArg List.length (Vo f c 0 0)
 rw[AR,AR]at this
 exact this
theorem oe (f:Ident→Ident) (c:Chg):(∀ w,w∈fc (Eo f c)↔ ∃ y∈fc c,w=f y)∧(fc (Eo f c)).length=(fc c).length:=by
 have hk:(Eo f c).kind=c.kind:=rfl
 have ho:(Eo f c).over=sortI (c.over.map f):=rfl
 unfold fc
 rw[hk,ho]
 split
 ·refine⟨fun w=>?_,by unfold sortI;rw[Cg,AR]⟩
  rw[OV,AQ]
  exact⟨fun⟨y,hy,e⟩=>⟨y,hy,e.symm⟩,fun⟨y,hy,e⟩=>⟨y,hy,e.symm⟩⟩
 ·exact⟨fun w=>⟨fun h=>absurd h Ai,fun⟨y,hy,_⟩=>absurd hy Ai⟩,rfl⟩
theorem NK.pair {φ:Ident→Ident} {x z:Sto} {i j:Nat} (h:NK φ x z i j): ∃ (hi:i < x.patch.changes.length) (hj:j < z.patch.changes.length),cntC z.patch.changes[j]=cntC x.patch.changes[i]∧ ∀ k,k < cntC x.patch.changes[i]→
  (IQ z j k).id=φ (IQ x i k).id∧(IQ z j k).kind=(IQ x i k).kind∧dr (IQ x i k) (IQ z j k)=true∧ ∀ w,w∈(IQ z j k).over↔ ∃ y∈fc x.patch.changes[i],w=φ (Cr y x.id):=by
 obtain⟨hi,hj,f,e1,e2,e3⟩:=h
 have hc:cntC z.patch.changes[j]=cntC x.patch.changes[i]:=by rw[e1,UV]
 refine⟨hi,hj,hc,fun k hk=>?_⟩
 have hk':k < cntC z.patch.changes[j]:=by omega
 have hid:(IQ z j k).id=φ (IQ x i k).id:=by rw[J2 hj hk',J2 hi hk,e3 k hk]
 have l1:k < (Ca x.patch.changes[i] (CP x.patch.changes i)).length:=by rw[IW];exact hk
 have l2:k < (Ca z.patch.changes[j] (CP z.patch.changes j)).length:=by rw[IW];exact hk'
 have hs:=congrArg (fun l=>l[k]?) (Vo f x.patch.changes[i] (CP x.patch.changes i) (CP z.patch.changes j))
 rw[←e1,EW,EW,AO l1,AO l2,Ed,Ed]at hs
 have hs:=CN hs
 simp only[Prod.mk.injEq]at hs
 obtain⟨s1,s2,s3,s4,s5,s6⟩:=hs
 have a1:IQ x i k=fP x.id (Ca x.patch.changes[i] (CP x.patch.changes i))[k]:=by
  unfold IQ
  rw[Qn hi,C0,AO l1,BU]
 have a2:IQ z j k=fP z.id (Ca z.patch.changes[j] (CP z.patch.changes j))[k]:=by
  unfold IQ
  rw[Qn hj,C0,AO l2,BU]
 obtain⟨_,p1,p2,p3,p4,p5,p6,p7⟩:=Qs x.id (Ca x.patch.changes[i] (CP x.patch.changes i))[k]
 obtain⟨_,q1,q2,q3,q4,q5,q6,q7⟩:=Qs z.id (Ca z.patch.changes[j] (CP z.patch.changes j))[k]
 have o1:=Oj (AF l1)
 have o2:((Ca z.patch.changes[j] (CP z.patch.changes j))[k]).over=fc (Eo f x.patch.changes[i]):=(Oj (AF l2)).trans (by rw[e1])
 obtain⟨m1,m2⟩:=oe f x.patch.changes[i]
 refine⟨hid,by rw[a1,a2,p1,q1,s1],?_,fun w=>?_⟩
 ·unfold dr
  rw[a1,a2,p1,q1,p2,q2,p3,q3,p4,q4,p5,q5,p6,q6,p7,q7,s1,s2,s3,s4,s5,s6,o1,o2]
  unfold sortI
  simp[m2]
 ·rw[Ox hj hk',e1]
  constructor
  ·rintro⟨y,hy,rfl⟩
   obtain⟨y0,hy0,rfl⟩:=(m1 y).1 hy
   exact⟨y0,hy0,e2 y0 (Qa hy0)⟩
  ·rintro⟨y,hy,rfl⟩
   exact⟨f y,(m1 _).2 ⟨y,hy,rfl⟩,(e2 y (Qa hy)).symm⟩
theorem BH.over_id {s:List Sto} (v:BH s) {x:Sto} (hx:x∈s) {i:Nat} (hi:i < x.patch.changes.length) {y:Ident} (hy:y∈x.patch.changes[i].over): ∃ z∈s,∃ n:Nat,n < Hg z.patch∧Cr y x.id=⟨z.id,n⟩:=by
 have hp:=EN (Fj (v.id x hx).1).1
 rcases v.over_at hx hi hy with ⟨_,a,b,e⟩|⟨_,e,_,_,z,hz,e1,a,b⟩
 ·have:=Ej x.patch.changes (show i≤x.patch.changes.length by omega)
  have hc:=hp.cnt
  refine⟨x,hx,y.n.toNat,by omega,?_⟩
  rw[e];congr 1;omega
 ·refine⟨z,hz,y.n.toNat,by omega,?_⟩
  rw[e,e1]
  cases y
  congr 1
  dsimp only at a ⊢;omega
theorem R6.named {s t:List Sto} {φ:Ident→Ident} (h:R6 s t φ) (v:BH s) (w:BH t):aN (Lj s) (Lj t) φ:=by
 have key: ∀ {x z:Sto} {i j:Nat},x∈s→NK φ x z i j→ ∀ (hi:i < x.patch.changes.length) k,k < cntC x.patch.changes[i]→(IQ z j k).id=φ (IQ x i k).id∧(IQ z j k).kind=(IQ x i k).kind∧ ∀ c∈Lj s,c.id∈(IQ x i k).over↔φ c.id∈(IQ z j k).over:=fun {x z i j} hx ha hi k hk=>by
  obtain⟨_,hj,hc,hp⟩:=ha.pair
  obtain⟨p1,p2,_,p4⟩:=hp k hk
  refine⟨p1,p2,fun c hcm=>?_⟩
  obtain⟨x',hx',i',hi',k',hk',rfl⟩:=v.mem_seq.1 hcm
  have hlt:=(EN (Fj (v.id x' hx').1).1).lt hi' hk'
  rw[p4,Ox hi hk,J2 hi' hk']
  constructor
  ·rintro⟨y,hy,e⟩
   exact⟨y,hy,by rw[e]⟩
  ·rintro⟨y,hy,e⟩
   refine⟨y,hy,?_⟩
   obtain⟨z',hz',n,hn,e2⟩:=v.over_id hx hi (Qa hy)
   rw[e2]at e ⊢
   obtain⟨q1,q2⟩:=h.inj x' hx' _ hlt z' hz' n hn e
   rw[q1,q2]
 refine⟨fun a ha=>?_,fun b hb=>?_⟩
 ·obtain⟨x,hx,i,hi,k,hk,rfl⟩:=v.mem_seq.1 ha
  obtain⟨z,hz,j,hal⟩:=h.to x hx i hi
  obtain⟨_,hj,hc,_⟩:=hal.pair
  exact⟨IQ z j k,w.mem_seq.2 ⟨z,hz,j,hj,k,by omega,rfl⟩,key hx hal hi k hk⟩
 ·obtain⟨z,hz,j,hj,k,hk,rfl⟩:=w.mem_seq.1 hb
  obtain⟨x,hx,i,hal⟩:=h.from_ z hz j hj
  obtain⟨hi,_,hc,_⟩:=hal.pair
  exact⟨IQ x i k,v.mem_seq.2 ⟨x,hx,i,hi,k,by omega,rfl⟩,key hx hal hi k (by omega)⟩
theorem R6.alike {s t:List Sto} {φ:Ident→Ident} (h:R6 s t φ) (v:BH s) (w:BH t) {x:Sto} (hx:x∈s) {n:Nat} (hn:n < Hg x.patch):Xv s t ⟨x.id,n⟩ (φ ⟨x.id,n⟩)=true:=by
 have hp:=EN (Fj (v.id x hx).1).1
 obtain⟨i,hi,k,hk,rfl⟩:=hp.split hn
 obtain⟨z,hz,j,hal⟩:=h.to x hx i hi
 obtain⟨_,hj,hc,hpr⟩:=hal.pair
 obtain⟨p1,_,p3,_⟩:=hpr k hk
 have hk':k < cntC z.patch.changes[j]:=by omega
 rw[J2 hi hk,J2 hj hk']at p1
 have f1:=v.find hx hi hk
 have f2:=w.find hz hj hk'
 rw[p1]at f2
 have hd:=(h.named v w).dead v.late w.late (v.mem_seq.2 ⟨x,hx,i,hi,k,hk,rfl⟩)
 rw[J2 hi hk]at hd
 unfold Xv
 rw[f1]
 dsimp only
 rw[f2]
 dsimp only
 rw[p3,EK,AB]
 unfold OG
 rw[f1,f2]
 simp only[ct,EK,decide_eq_decide]
 exact not_congr hd
end Go.Proofs
