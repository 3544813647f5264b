/- Contracts of the program: squash.mapped over any closure whose contract takes resources. -/
import Derived.Test.YtaibdmankdppkaaGreatDoorZar
import Derived.Test.YtaibdmankdppkaaGreatDoorZas
import Derived.Test.YtaibdmankdppkaaGreatDoorZan
import Derived.Test.YtaibdmankdppkaaGreatDoorZaq
import Derived.Test.YtaibdmankdppkaaGreatDoorZal
import Derived.Test.YtaibdmankdppkaaGreatDoorZai
set_option linter.unusedSimpArgs false
set_option linter.unusedVariables false
set_option maxHeartbeats 8000000
namespace Go.Proofs
open Go Go.Q
attribute [local irreducible] ER AU H8 BA Fk
theorem ZD {a b:Res} {R L M:List Res}:(a::b::(R++(L++M))).Perm (L++(a::b::(R++M))):=((List.perm_append_comm_assoc R L M).cons b |>.cons a).trans Ao
def EE (c:Chg):List Ident:=(if 2≤c.kind∧c.kind≤6 then [c.file]else [])++(if c.kind=2 then [c.parent]else [])++(if c.kind=5∨c.kind=6 then [c.after,c.before]else [])
theorem dT (c:Chg):Ct c=EE c++c.over:=rfl
def GD (f:Ident→Ident) (c:Chg):Chg:={ c with file:=if 2≤c.kind∧c.kind≤6 then f c.file else c.file,parent:=if c.kind=2 then f c.parent else c.parent,after:=if c.kind=5∨c.kind=6 then f c.after else c.after,before:=if c.kind=5∨c.kind=6 then f c.before else c.before }
theorem uG (f:Ident→Ident) (c:Chg):FU f c= { GD f c with over:=sortI (c.over.map f) }:=rfl
theorem S0 (F:Nat) (cs:List PV) {St:Type} (Lf:St→List Res) (f:Ident→Ident) (g:St→Ident→St) (c:Chg) [hF:B2 Tryz.prog F]
  (hp: ∀ st,∀ x∈Ct c,BA Tryz.prog F (.agg (eIdent x)::cs) (Lf st) (fun r L'=>r= .agg (eIdent (f x))∧L'=Lf (g st x))) (ho:c.over.length≤1000) (st:St):
  BA Tryz.prog 102 [.agg (eChg c),.clo F cs] (Lf st) (fun r L'=>r= .agg (eChg (FU f c))∧L'=Lf ((Ct c).foldl g st)):=by
 refine C4 Tryz.func102 rfl Tryz.ntmps102 (rs:= [.cell 4 73]) rfl rfl fun hb LF=>?_
 refine vV fun b2=>?_
 refine Bx fun b4=>?_
 refine AE ?_
 refine ws ?_
 refine Cv (σ:=Unit) (fun _=>True) (fun _=> [(1,.clo F cs),(2,.raw (.pointer (some ⟨b2,0,none⟩))),(4,.raw (.pointer (some ⟨b4,0,none⟩)))]) (fun _=> .box b4 73 (eChg Chg.zero):: .box b2 73 (eChg (GD f c))::(Lf ((EE c).foldl g st)++LF)) ?_ fun _ _=>?_
 ·refine wf ?_
  refine A6 (fun hk=>?_) (fun hk2=>?_)
  ·refine wn ?_
   refine H2 [2,6,3,7,9,11] (by decide+kernel) ?_
   refine B5 0 ?_
   refine B5 1 ?_
   refine B5 4 ?_
   refine B5 5 ?_
   refine Cw (fuel:=7) [2,6] (by decide+kernel) (by simp) fun i hi=>?_
   simp only[AH,Ai,or_false]at hi
   rcases hi with rfl|rfl
   ·refine⟨_,rfl,?_⟩
    refine wo ?_
    refine AE ?_
    refine Cw (fuel:=6) [3,6] (by decide+kernel) (by simp) fun i hi=>?_
    simp only[AH,Ai,or_false]at hi
    rcases hi with rfl|rfl
    ·refine⟨_,rfl,?_⟩
     refine C0 (xs:= [.tmp 14]) (Lf st) (.box b4 73 (eChg Chg.zero):: .box b2 73 (eChg c)::LF) (fun L=> .box b4 73 (eChg Chg.zero):: .box b2 73 (eChg c)::(L++LF)) (f:=F) (cs:=cs) (.refl _) rfl rfl Ao _ (hp st c.file (by simp[Ct,hk])) (fun _=>Ao.symm) fun r L' ⟨e1,e2⟩=>?_
     subst e1 e2
     refine AE ?_
     refine Ad 5 6 ?_
     refine wo ?_
     refine AE ?_
     refine B5 8 ?_
     refine Ad 3 7 ?_
     refine C0 (xs:= [.tmp 18]) (Lf (g st c.file)) (.box b4 73 (eChg Chg.zero):: .box b2 73 (eChg c)::LF) (fun L=> .box b4 73 (eChg Chg.zero):: .box b2 73 (eChg c)::(L++LF)) (f:=F) (cs:=cs) (.refl _) rfl rfl Ao _ (hp (g st c.file) c.parent (by simp[Ct,hk])) (fun _=>Ao.symm) fun r L' ⟨e1,e2⟩=>?_
     subst e1 e2
     refine AE ?_
     refine Ad 2 9 ?_
     refine wo ?_
     refine AE ?_
     refine B5 10 ?_
     refine Ad 0 11 ?_
     refine wo ?_
     refine AE ?_
     refine Cu (by decide+kernel) ?_
     rw[show GD f c= { c with file:=f c.file,parent:=f c.parent } by unfold GD;simp[hk],show(EE c).foldl g st=g (g st c.file) c.parent by unfold EE;simp[hk]]
     exact⟨(),trivial,⟨rfl,rfl,rfl⟩,.refl _⟩
    ·refine⟨_,rfl,?_⟩
     refine wo ?_
     refine AE ?_
     refine Ad 5 3 ?_
     refine C0 (xs:= [.tmp 14]) (Lf st) (.box b4 73 (eChg Chg.zero):: .box b2 73 (eChg c)::LF) (fun L=> .box b4 73 (eChg Chg.zero):: .box b2 73 (eChg c)::(L++LF)) (f:=F) (cs:=cs) (.refl _) rfl rfl Ao _ (hp st c.file (by simp[Ct,hk])) (fun _=>Ao.symm) fun r L' ⟨e1,e2⟩=>?_
     subst e1 e2
     refine AE ?_
     refine B5 8 ?_
     refine Ad 3 7 ?_
     refine C0 (xs:= [.tmp 18]) (Lf (g st c.file)) (.box b4 73 (eChg Chg.zero):: .box b2 73 (eChg c)::LF) (fun L=> .box b4 73 (eChg Chg.zero):: .box b2 73 (eChg c)::(L++LF)) (f:=F) (cs:=cs) (.refl _) rfl rfl Ao _ (hp (g st c.file) c.parent (by simp[Ct,hk])) (fun _=>Ao.symm) fun r L' ⟨e1,e2⟩=>?_
     subst e1 e2
     refine AE ?_
     refine Ad 2 9 ?_
     refine wo ?_
     refine AE ?_
     refine B5 10 ?_
     refine Ad 0 11 ?_
     refine wo ?_
     refine AE ?_
     refine Cu (by decide+kernel) ?_
     rw[show GD f c= { c with file:=f c.file,parent:=f c.parent } by unfold GD;simp[hk],show(EE c).foldl g st=g (g st c.file) c.parent by unfold EE;simp[hk]]
     exact⟨(),trivial,⟨rfl,rfl,rfl⟩,.refl _⟩
   ·refine⟨_,rfl,?_⟩
    refine wo ?_
    refine AE ?_
    refine Ad 6 2 ?_
    refine wo ?_
    refine AE ?_
    refine Ad 5 3 ?_
    refine C0 (xs:= [.tmp 14]) (Lf st) (.box b4 73 (eChg Chg.zero):: .box b2 73 (eChg c)::LF) (fun L=> .box b4 73 (eChg Chg.zero):: .box b2 73 (eChg c)::(L++LF)) (f:=F) (cs:=cs) (.refl _) rfl rfl Ao _ (hp st c.file (by simp[Ct,hk])) (fun _=>Ao.symm) fun r L' ⟨e1,e2⟩=>?_
    subst e1 e2
    refine AE ?_
    refine B5 8 ?_
    refine Ad 3 7 ?_
    refine C0 (xs:= [.tmp 18]) (Lf (g st c.file)) (.box b4 73 (eChg Chg.zero):: .box b2 73 (eChg c)::LF) (fun L=> .box b4 73 (eChg Chg.zero):: .box b2 73 (eChg c)::(L++LF)) (f:=F) (cs:=cs) (.refl _) rfl rfl Ao _ (hp (g st c.file) c.parent (by simp[Ct,hk])) (fun _=>Ao.symm) fun r L' ⟨e1,e2⟩=>?_
    subst e1 e2
    refine AE ?_
    refine Ad 2 9 ?_
    refine wo ?_
    refine AE ?_
    refine B5 10 ?_
    refine Ad 0 11 ?_
    refine wo ?_
    refine AE ?_
    refine Cu (by decide+kernel) ?_
    rw[show GD f c= { c with file:=f c.file,parent:=f c.parent } by unfold GD;simp[hk],show(EE c).foldl g st=g (g st c.file) c.parent by unfold EE;simp[hk]]
    exact⟨(),trivial,⟨rfl,rfl,rfl⟩,.refl _⟩
  ·refine wf ?_
   refine Cv (σ:=Unit) (fun _=>True) (fun _=> [(1,.clo F cs),(2,.raw (.pointer (some ⟨b2,0,none⟩))),(4,.raw (.pointer (some ⟨b4,0,none⟩))),(9,.raw (.int .i64 c.kind)),(22,.raw (.bool (decide (c.kind=3∨c.kind=4))))]) (fun _=> .box b4 73 (eChg Chg.zero):: .box b2 73 (eChg c)::(Lf st++LF)) ?_ fun _ _=>?_
   ·refine A6 (fun h=>?_) (fun h=>?_)
    ·refine wf ?_
     exact⟨(),trivial,⟨rfl,rfl,rfl,rfl,by show PV.raw (.bool (decide (c.kind=3)))=_;simp[h]⟩,.refl _⟩
    ·refine wf ?_
     exact⟨(),trivial,⟨rfl,rfl,rfl,rfl,by show PV.raw (.bool (decide (c.kind=4)))=_;simp[h]⟩,.refl _⟩
   refine A6 (fun h=>?_) (fun h3=>?_)
   ·have hk: ¬c.kind=2∧(2≤c.kind∧c.kind≤6)∧ ¬(c.kind=5∨c.kind=6):=by omega
    refine wf ?_
    refine C0 (xs:= [.tmp 27]) (Lf st) (.box b4 73 (eChg Chg.zero):: .box b2 73 (eChg c)::LF) (fun L=> .box b4 73 (eChg Chg.zero):: .box b2 73 (eChg c)::(L++LF)) (f:=F) (cs:=cs) (.refl _) rfl rfl Ao _ (hp st c.file (by simp[Ct,hk])) (fun _=>Ao.symm) fun r L' ⟨e1,e2⟩=>?_
    subst e1 e2
    refine wf ?_
    rw[show GD f c= { c with file:=f c.file } by unfold GD;simp[hk],show(EE c).foldl g st=g st c.file by unfold EE;simp[hk]]
    exact⟨(),trivial,⟨rfl,rfl,rfl⟩,.refl _⟩
   ·refine wf ?_
    refine Cv (σ:=Unit) (fun _=>True) (fun _=> [(1,.clo F cs),(2,.raw (.pointer (some ⟨b2,0,none⟩))),(4,.raw (.pointer (some ⟨b4,0,none⟩))),(30,.raw (.bool (decide (c.kind=5∨c.kind=6))))]) (fun _=> .box b4 73 (eChg Chg.zero):: .box b2 73 (eChg c)::(Lf st++LF)) ?_ fun _ _=>?_
    ·refine A6 (fun h=>?_) (fun h=>?_)
     ·refine wf ?_
      exact⟨(),trivial,⟨rfl,rfl,rfl,by show PV.raw (.bool (decide (c.kind=5)))=_;simp[h]⟩,.refl _⟩
     ·refine wf ?_
      exact⟨(),trivial,⟨rfl,rfl,rfl,by show PV.raw (.bool (decide (c.kind=6)))=_;simp[h]⟩,.refl _⟩
    refine A6 (fun h=>?_) (fun h5=>?_)
    ·have hk: ¬c.kind=2∧(2≤c.kind∧c.kind≤6)∧(c.kind=5∨c.kind=6):=by omega
     refine wn ?_
     refine H2 [2,6,10,3,7,11,13,15,17] (by decide+kernel) ?_
     refine B5 0 ?_
     refine B5 1 ?_
     refine B5 4 ?_
     refine B5 5 ?_
     refine B5 8 ?_
     refine B5 9 ?_
     refine Cw (fuel:=11) [2,6,10] (by decide+kernel) (by simp) fun i hi=>?_
     simp only[AH,Ai,or_false]at hi
     rcases hi with rfl|rfl|rfl
     ·refine⟨_,rfl,?_⟩
      refine wo ?_
      refine AE ?_
      refine Cw (fuel:=10) [3,6,10] (by decide+kernel) (by simp) fun i hi=>?_
      simp only[AH,Ai,or_false]at hi
      rcases hi with rfl|rfl|rfl
      ·refine⟨_,rfl,?_⟩
       refine C0 (xs:= [.tmp 35]) (Lf st) (.box b4 73 (eChg Chg.zero):: .box b2 73 (eChg c)::LF) (fun L=> .box b4 73 (eChg Chg.zero):: .box b2 73 (eChg c)::(L++LF)) (f:=F) (cs:=cs) (.refl _) rfl rfl Ao _ (hp st c.file (by simp[Ct,hk])) (fun _=>Ao.symm) fun r L' ⟨e1,e2⟩=>?_
       subst e1 e2
       refine AE ?_
       refine Cw (fuel:=9) [6,10] (by decide+kernel) (by simp) fun i hi=>?_
       simp only[AH,Ai,or_false]at hi
       rcases hi with rfl|rfl
       ·refine⟨_,rfl,?_⟩
        refine wo ?_
        refine AE ?_
        refine Cw (fuel:=8) [7,10] (by decide+kernel) (by simp) fun i hi=>?_
        simp only[AH,Ai,or_false]at hi
        rcases hi with rfl|rfl
        ·refine⟨_,rfl,?_⟩
         refine C0 (xs:= [.tmp 39]) (Lf (g st c.file)) (.box b4 73 (eChg Chg.zero):: .box b2 73 (eChg c)::LF) (fun L=> .box b4 73 (eChg Chg.zero):: .box b2 73 (eChg c)::(L++LF)) (f:=F) (cs:=cs) (.refl _) rfl rfl Ao _ (hp (g st c.file) c.after (by simp[Ct,hk])) (fun _=>Ao.symm) fun r L' ⟨e1,e2⟩=>?_
         subst e1 e2
         refine AE ?_
         refine Ad 7 10 ?_
         refine wo ?_
         refine AE ?_
         refine B5 12 ?_
         refine Ad 5 11 ?_
         refine C0 (xs:= [.tmp 43]) (Lf (g (g st c.file) c.after)) (.box b4 73 (eChg Chg.zero):: .box b2 73 (eChg c)::LF) (fun L=> .box b4 73 (eChg Chg.zero):: .box b2 73 (eChg c)::(L++LF)) (f:=F) (cs:=cs) (.refl _) rfl rfl Ao _ (hp (g (g st c.file) c.after) c.before (by simp[Ct,hk])) (fun _=>Ao.symm) fun r L' ⟨e1,e2⟩=>?_
         subst e1 e2
         refine AE ?_
         refine Ad 4 13 ?_
         refine wo ?_
         refine AE ?_
         refine B5 14 ?_
         refine Ad 2 15 ?_
         refine wo ?_
         refine AE ?_
         refine B5 16 ?_
         refine Ad 0 17 ?_
         refine wo ?_
         refine AE ?_
         refine Cu (by decide+kernel) ?_
         rw[show GD f c= { c with file:=f c.file,after:=f c.after,before:=f c.before } by unfold GD;simp[hk],show(EE c).foldl g st=g (g (g st c.file) c.after) c.before by unfold EE;simp[hk]]
         exact⟨(),trivial,⟨rfl,rfl,rfl⟩,.refl _⟩
        ·refine⟨_,rfl,?_⟩
         refine wo ?_
         refine AE ?_
         refine B5 12 ?_
         refine Ad 6 7 ?_
         refine C0 (xs:= [.tmp 39]) (Lf (g st c.file)) (.box b4 73 (eChg Chg.zero):: .box b2 73 (eChg c)::LF) (fun L=> .box b4 73 (eChg Chg.zero):: .box b2 73 (eChg c)::(L++LF)) (f:=F) (cs:=cs) (.refl _) rfl rfl Ao _ (hp (g st c.file) c.after (by simp[Ct,hk])) (fun _=>Ao.symm) fun r L' ⟨e1,e2⟩=>?_
         subst e1 e2
         refine AE ?_
         refine Ad 5 11 ?_
         refine C0 (xs:= [.tmp 43]) (Lf (g (g st c.file) c.after)) (.box b4 73 (eChg Chg.zero):: .box b2 73 (eChg c)::LF) (fun L=> .box b4 73 (eChg Chg.zero):: .box b2 73 (eChg c)::(L++LF)) (f:=F) (cs:=cs) (.refl _) rfl rfl Ao _ (hp (g (g st c.file) c.after) c.before (by simp[Ct,hk])) (fun _=>Ao.symm) fun r L' ⟨e1,e2⟩=>?_
         subst e1 e2
         refine AE ?_
         refine Ad 4 13 ?_
         refine wo ?_
         refine AE ?_
         refine B5 14 ?_
         refine Ad 2 15 ?_
         refine wo ?_
         refine AE ?_
         refine B5 16 ?_
         refine Ad 0 17 ?_
         refine wo ?_
         refine AE ?_
         refine Cu (by decide+kernel) ?_
         rw[show GD f c= { c with file:=f c.file,after:=f c.after,before:=f c.before } by unfold GD;simp[hk],show(EE c).foldl g st=g (g (g st c.file) c.after) c.before by unfold EE;simp[hk]]
         exact⟨(),trivial,⟨rfl,rfl,rfl⟩,.refl _⟩
       ·refine⟨_,rfl,?_⟩
        refine wo ?_
        refine AE ?_
        refine Ad 8 6 ?_
        refine wo ?_
        refine AE ?_
        refine B5 12 ?_
        refine Ad 6 7 ?_
        refine C0 (xs:= [.tmp 39]) (Lf (g st c.file)) (.box b4 73 (eChg Chg.zero):: .box b2 73 (eChg c)::LF) (fun L=> .box b4 73 (eChg Chg.zero):: .box b2 73 (eChg c)::(L++LF)) (f:=F) (cs:=cs) (.refl _) rfl rfl Ao _ (hp (g st c.file) c.after (by simp[Ct,hk])) (fun _=>Ao.symm) fun r L' ⟨e1,e2⟩=>?_
        subst e1 e2
        refine AE ?_
        refine Ad 5 11 ?_
        refine C0 (xs:= [.tmp 43]) (Lf (g (g st c.file) c.after)) (.box b4 73 (eChg Chg.zero):: .box b2 73 (eChg c)::LF) (fun L=> .box b4 73 (eChg Chg.zero):: .box b2 73 (eChg c)::(L++LF)) (f:=F) (cs:=cs) (.refl _) rfl rfl Ao _ (hp (g (g st c.file) c.after) c.before (by simp[Ct,hk])) (fun _=>Ao.symm) fun r L' ⟨e1,e2⟩=>?_
        subst e1 e2
        refine AE ?_
        refine Ad 4 13 ?_
        refine wo ?_
        refine AE ?_
        refine B5 14 ?_
        refine Ad 2 15 ?_
        refine wo ?_
        refine AE ?_
        refine B5 16 ?_
        refine Ad 0 17 ?_
        refine wo ?_
        refine AE ?_
        refine Cu (by decide+kernel) ?_
        rw[show GD f c= { c with file:=f c.file,after:=f c.after,before:=f c.before } by unfold GD;simp[hk],show(EE c).foldl g st=g (g (g st c.file) c.after) c.before by unfold EE;simp[hk]]
        exact⟨(),trivial,⟨rfl,rfl,rfl⟩,.refl _⟩
      ·refine⟨_,rfl,?_⟩
       refine wo ?_
       refine AE ?_
       refine Cw (fuel:=9) [3,10] (by decide+kernel) (by simp) fun i hi=>?_
       simp only[AH,Ai,or_false]at hi
       rcases hi with rfl|rfl
       ·refine⟨_,rfl,?_⟩
        refine C0 (xs:= [.tmp 35]) (Lf st) (.box b4 73 (eChg Chg.zero):: .box b2 73 (eChg c)::LF) (fun L=> .box b4 73 (eChg Chg.zero):: .box b2 73 (eChg c)::(L++LF)) (f:=F) (cs:=cs) (.refl _) rfl rfl Ao _ (hp st c.file (by simp[Ct,hk])) (fun _=>Ao.symm) fun r L' ⟨e1,e2⟩=>?_
        subst e1 e2
        refine AE ?_
        refine Cw (fuel:=8) [7,10] (by decide+kernel) (by simp) fun i hi=>?_
        simp only[AH,Ai,or_false]at hi
        rcases hi with rfl|rfl
        ·refine⟨_,rfl,?_⟩
         refine C0 (xs:= [.tmp 39]) (Lf (g st c.file)) (.box b4 73 (eChg Chg.zero):: .box b2 73 (eChg c)::LF) (fun L=> .box b4 73 (eChg Chg.zero):: .box b2 73 (eChg c)::(L++LF)) (f:=F) (cs:=cs) (.refl _) rfl rfl Ao _ (hp (g st c.file) c.after (by simp[Ct,hk])) (fun _=>Ao.symm) fun r L' ⟨e1,e2⟩=>?_
         subst e1 e2
         refine AE ?_
         refine Ad 7 10 ?_
         refine wo ?_
         refine AE ?_
         refine B5 12 ?_
         refine Ad 5 11 ?_
         refine C0 (xs:= [.tmp 43]) (Lf (g (g st c.file) c.after)) (.box b4 73 (eChg Chg.zero):: .box b2 73 (eChg c)::LF) (fun L=> .box b4 73 (eChg Chg.zero):: .box b2 73 (eChg c)::(L++LF)) (f:=F) (cs:=cs) (.refl _) rfl rfl Ao _ (hp (g (g st c.file) c.after) c.before (by simp[Ct,hk])) (fun _=>Ao.symm) fun r L' ⟨e1,e2⟩=>?_
         subst e1 e2
         refine AE ?_
         refine Ad 4 13 ?_
         refine wo ?_
         refine AE ?_
         refine B5 14 ?_
         refine Ad 2 15 ?_
         refine wo ?_
         refine AE ?_
         refine B5 16 ?_
         refine Ad 0 17 ?_
         refine wo ?_
         refine AE ?_
         refine Cu (by decide+kernel) ?_
         rw[show GD f c= { c with file:=f c.file,after:=f c.after,before:=f c.before } by unfold GD;simp[hk],show(EE c).foldl g st=g (g (g st c.file) c.after) c.before by unfold EE;simp[hk]]
         exact⟨(),trivial,⟨rfl,rfl,rfl⟩,.refl _⟩
        ·refine⟨_,rfl,?_⟩
         refine wo ?_
         refine AE ?_
         refine B5 12 ?_
         refine Ad 6 7 ?_
         refine C0 (xs:= [.tmp 39]) (Lf (g st c.file)) (.box b4 73 (eChg Chg.zero):: .box b2 73 (eChg c)::LF) (fun L=> .box b4 73 (eChg Chg.zero):: .box b2 73 (eChg c)::(L++LF)) (f:=F) (cs:=cs) (.refl _) rfl rfl Ao _ (hp (g st c.file) c.after (by simp[Ct,hk])) (fun _=>Ao.symm) fun r L' ⟨e1,e2⟩=>?_
         subst e1 e2
         refine AE ?_
         refine Ad 5 11 ?_
         refine C0 (xs:= [.tmp 43]) (Lf (g (g st c.file) c.after)) (.box b4 73 (eChg Chg.zero):: .box b2 73 (eChg c)::LF) (fun L=> .box b4 73 (eChg Chg.zero):: .box b2 73 (eChg c)::(L++LF)) (f:=F) (cs:=cs) (.refl _) rfl rfl Ao _ (hp (g (g st c.file) c.after) c.before (by simp[Ct,hk])) (fun _=>Ao.symm) fun r L' ⟨e1,e2⟩=>?_
         subst e1 e2
         refine AE ?_
         refine Ad 4 13 ?_
         refine wo ?_
         refine AE ?_
         refine B5 14 ?_
         refine Ad 2 15 ?_
         refine wo ?_
         refine AE ?_
         refine B5 16 ?_
         refine Ad 0 17 ?_
         refine wo ?_
         refine AE ?_
         refine Cu (by decide+kernel) ?_
         rw[show GD f c= { c with file:=f c.file,after:=f c.after,before:=f c.before } by unfold GD;simp[hk],show(EE c).foldl g st=g (g (g st c.file) c.after) c.before by unfold EE;simp[hk]]
         exact⟨(),trivial,⟨rfl,rfl,rfl⟩,.refl _⟩
       ·refine⟨_,rfl,?_⟩
        refine wo ?_
        refine AE ?_
        refine Ad 8 3 ?_
        refine C0 (xs:= [.tmp 35]) (Lf st) (.box b4 73 (eChg Chg.zero):: .box b2 73 (eChg c)::LF) (fun L=> .box b4 73 (eChg Chg.zero):: .box b2 73 (eChg c)::(L++LF)) (f:=F) (cs:=cs) (.refl _) rfl rfl Ao _ (hp st c.file (by simp[Ct,hk])) (fun _=>Ao.symm) fun r L' ⟨e1,e2⟩=>?_
        subst e1 e2
        refine AE ?_
        refine B5 12 ?_
        refine Ad 6 7 ?_
        refine C0 (xs:= [.tmp 39]) (Lf (g st c.file)) (.box b4 73 (eChg Chg.zero):: .box b2 73 (eChg c)::LF) (fun L=> .box b4 73 (eChg Chg.zero):: .box b2 73 (eChg c)::(L++LF)) (f:=F) (cs:=cs) (.refl _) rfl rfl Ao _ (hp (g st c.file) c.after (by simp[Ct,hk])) (fun _=>Ao.symm) fun r L' ⟨e1,e2⟩=>?_
        subst e1 e2
        refine AE ?_
        refine Ad 5 11 ?_
        refine C0 (xs:= [.tmp 43]) (Lf (g (g st c.file) c.after)) (.box b4 73 (eChg Chg.zero):: .box b2 73 (eChg c)::LF) (fun L=> .box b4 73 (eChg Chg.zero):: .box b2 73 (eChg c)::(L++LF)) (f:=F) (cs:=cs) (.refl _) rfl rfl Ao _ (hp (g (g st c.file) c.after) c.before (by simp[Ct,hk])) (fun _=>Ao.symm) fun r L' ⟨e1,e2⟩=>?_
        subst e1 e2
        refine AE ?_
        refine Ad 4 13 ?_
        refine wo ?_
        refine AE ?_
        refine B5 14 ?_
        refine Ad 2 15 ?_
        refine wo ?_
        refine AE ?_
        refine B5 16 ?_
        refine Ad 0 17 ?_
        refine wo ?_
        refine AE ?_
        refine Cu (by decide+kernel) ?_
        rw[show GD f c= { c with file:=f c.file,after:=f c.after,before:=f c.before } by unfold GD;simp[hk],show(EE c).foldl g st=g (g (g st c.file) c.after) c.before by unfold EE;simp[hk]]
        exact⟨(),trivial,⟨rfl,rfl,rfl⟩,.refl _⟩
      ·refine⟨_,rfl,?_⟩
       refine wo ?_
       refine AE ?_
       refine Cw (fuel:=9) [3,6] (by decide+kernel) (by simp) fun i hi=>?_
       simp only[AH,Ai,or_false]at hi
       rcases hi with rfl|rfl
       ·refine⟨_,rfl,?_⟩
        refine C0 (xs:= [.tmp 35]) (Lf st) (.box b4 73 (eChg Chg.zero):: .box b2 73 (eChg c)::LF) (fun L=> .box b4 73 (eChg Chg.zero):: .box b2 73 (eChg c)::(L++LF)) (f:=F) (cs:=cs) (.refl _) rfl rfl Ao _ (hp st c.file (by simp[Ct,hk])) (fun _=>Ao.symm) fun r L' ⟨e1,e2⟩=>?_
        subst e1 e2
        refine AE ?_
        refine Ad 8 6 ?_
        refine wo ?_
        refine AE ?_
        refine B5 12 ?_
        refine Ad 6 7 ?_
        refine C0 (xs:= [.tmp 39]) (Lf (g st c.file)) (.box b4 73 (eChg Chg.zero):: .box b2 73 (eChg c)::LF) (fun L=> .box b4 73 (eChg Chg.zero):: .box b2 73 (eChg c)::(L++LF)) (f:=F) (cs:=cs) (.refl _) rfl rfl Ao _ (hp (g st c.file) c.after (by simp[Ct,hk])) (fun _=>Ao.symm) fun r L' ⟨e1,e2⟩=>?_
        subst e1 e2
        refine AE ?_
        refine Ad 5 11 ?_
        refine C0 (xs:= [.tmp 43]) (Lf (g (g st c.file) c.after)) (.box b4 73 (eChg Chg.zero):: .box b2 73 (eChg c)::LF) (fun L=> .box b4 73 (eChg Chg.zero):: .box b2 73 (eChg c)::(L++LF)) (f:=F) (cs:=cs) (.refl _) rfl rfl Ao _ (hp (g (g st c.file) c.after) c.before (by simp[Ct,hk])) (fun _=>Ao.symm) fun r L' ⟨e1,e2⟩=>?_
        subst e1 e2
        refine AE ?_
        refine Ad 4 13 ?_
        refine wo ?_
        refine AE ?_
        refine B5 14 ?_
        refine Ad 2 15 ?_
        refine wo ?_
        refine AE ?_
        refine B5 16 ?_
        refine Ad 0 17 ?_
        refine wo ?_
        refine AE ?_
        refine Cu (by decide+kernel) ?_
        rw[show GD f c= { c with file:=f c.file,after:=f c.after,before:=f c.before } by unfold GD;simp[hk],show(EE c).foldl g st=g (g (g st c.file) c.after) c.before by unfold EE;simp[hk]]
        exact⟨(),trivial,⟨rfl,rfl,rfl⟩,.refl _⟩
       ·refine⟨_,rfl,?_⟩
        refine wo ?_
        refine AE ?_
        refine Ad 8 3 ?_
        refine C0 (xs:= [.tmp 35]) (Lf st) (.box b4 73 (eChg Chg.zero):: .box b2 73 (eChg c)::LF) (fun L=> .box b4 73 (eChg Chg.zero):: .box b2 73 (eChg c)::(L++LF)) (f:=F) (cs:=cs) (.refl _) rfl rfl Ao _ (hp st c.file (by simp[Ct,hk])) (fun _=>Ao.symm) fun r L' ⟨e1,e2⟩=>?_
        subst e1 e2
        refine AE ?_
        refine B5 12 ?_
        refine Ad 6 7 ?_
        refine C0 (xs:= [.tmp 39]) (Lf (g st c.file)) (.box b4 73 (eChg Chg.zero):: .box b2 73 (eChg c)::LF) (fun L=> .box b4 73 (eChg Chg.zero):: .box b2 73 (eChg c)::(L++LF)) (f:=F) (cs:=cs) (.refl _) rfl rfl Ao _ (hp (g st c.file) c.after (by simp[Ct,hk])) (fun _=>Ao.symm) fun r L' ⟨e1,e2⟩=>?_
        subst e1 e2
        refine AE ?_
        refine Ad 5 11 ?_
        refine C0 (xs:= [.tmp 43]) (Lf (g (g st c.file) c.after)) (.box b4 73 (eChg Chg.zero):: .box b2 73 (eChg c)::LF) (fun L=> .box b4 73 (eChg Chg.zero):: .box b2 73 (eChg c)::(L++LF)) (f:=F) (cs:=cs) (.refl _) rfl rfl Ao _ (hp (g (g st c.file) c.after) c.before (by simp[Ct,hk])) (fun _=>Ao.symm) fun r L' ⟨e1,e2⟩=>?_
        subst e1 e2
        refine AE ?_
        refine Ad 4 13 ?_
        refine wo ?_
        refine AE ?_
        refine B5 14 ?_
        refine Ad 2 15 ?_
        refine wo ?_
        refine AE ?_
        refine B5 16 ?_
        refine Ad 0 17 ?_
        refine wo ?_
        refine AE ?_
        refine Cu (by decide+kernel) ?_
        rw[show GD f c= { c with file:=f c.file,after:=f c.after,before:=f c.before } by unfold GD;simp[hk],show(EE c).foldl g st=g (g (g st c.file) c.after) c.before by unfold EE;simp[hk]]
        exact⟨(),trivial,⟨rfl,rfl,rfl⟩,.refl _⟩
     ·refine⟨_,rfl,?_⟩
      refine wo ?_
      refine AE ?_
      refine Cw (fuel:=10) [2,10] (by decide+kernel) (by simp) fun i hi=>?_
      simp only[AH,Ai,or_false]at hi
      rcases hi with rfl|rfl
      ·refine⟨_,rfl,?_⟩
       refine wo ?_
       refine AE ?_
       refine Cw (fuel:=9) [3,10] (by decide+kernel) (by simp) fun i hi=>?_
       simp only[AH,Ai,or_false]at hi
       rcases hi with rfl|rfl
       ·refine⟨_,rfl,?_⟩
        refine C0 (xs:= [.tmp 35]) (Lf st) (.box b4 73 (eChg Chg.zero):: .box b2 73 (eChg c)::LF) (fun L=> .box b4 73 (eChg Chg.zero):: .box b2 73 (eChg c)::(L++LF)) (f:=F) (cs:=cs) (.refl _) rfl rfl Ao _ (hp st c.file (by simp[Ct,hk])) (fun _=>Ao.symm) fun r L' ⟨e1,e2⟩=>?_
        subst e1 e2
        refine AE ?_
        refine Cw (fuel:=8) [7,10] (by decide+kernel) (by simp) fun i hi=>?_
        simp only[AH,Ai,or_false]at hi
        rcases hi with rfl|rfl
        ·refine⟨_,rfl,?_⟩
         refine C0 (xs:= [.tmp 39]) (Lf (g st c.file)) (.box b4 73 (eChg Chg.zero):: .box b2 73 (eChg c)::LF) (fun L=> .box b4 73 (eChg Chg.zero):: .box b2 73 (eChg c)::(L++LF)) (f:=F) (cs:=cs) (.refl _) rfl rfl Ao _ (hp (g st c.file) c.after (by simp[Ct,hk])) (fun _=>Ao.symm) fun r L' ⟨e1,e2⟩=>?_
         subst e1 e2
         refine AE ?_
         refine Ad 7 10 ?_
         refine wo ?_
         refine AE ?_
         refine B5 12 ?_
         refine Ad 5 11 ?_
         refine C0 (xs:= [.tmp 43]) (Lf (g (g st c.file) c.after)) (.box b4 73 (eChg Chg.zero):: .box b2 73 (eChg c)::LF) (fun L=> .box b4 73 (eChg Chg.zero):: .box b2 73 (eChg c)::(L++LF)) (f:=F) (cs:=cs) (.refl _) rfl rfl Ao _ (hp (g (g st c.file) c.after) c.before (by simp[Ct,hk])) (fun _=>Ao.symm) fun r L' ⟨e1,e2⟩=>?_
         subst e1 e2
         refine AE ?_
         refine Ad 4 13 ?_
         refine wo ?_
         refine AE ?_
         refine B5 14 ?_
         refine Ad 2 15 ?_
         refine wo ?_
         refine AE ?_
         refine B5 16 ?_
         refine Ad 0 17 ?_
         refine wo ?_
         refine AE ?_
         refine Cu (by decide+kernel) ?_
         rw[show GD f c= { c with file:=f c.file,after:=f c.after,before:=f c.before } by unfold GD;simp[hk],show(EE c).foldl g st=g (g (g st c.file) c.after) c.before by unfold EE;simp[hk]]
         exact⟨(),trivial,⟨rfl,rfl,rfl⟩,.refl _⟩
        ·refine⟨_,rfl,?_⟩
         refine wo ?_
         refine AE ?_
         refine B5 12 ?_
         refine Ad 6 7 ?_
         refine C0 (xs:= [.tmp 39]) (Lf (g st c.file)) (.box b4 73 (eChg Chg.zero):: .box b2 73 (eChg c)::LF) (fun L=> .box b4 73 (eChg Chg.zero):: .box b2 73 (eChg c)::(L++LF)) (f:=F) (cs:=cs) (.refl _) rfl rfl Ao _ (hp (g st c.file) c.after (by simp[Ct,hk])) (fun _=>Ao.symm) fun r L' ⟨e1,e2⟩=>?_
         subst e1 e2
         refine AE ?_
         refine Ad 5 11 ?_
         refine C0 (xs:= [.tmp 43]) (Lf (g (g st c.file) c.after)) (.box b4 73 (eChg Chg.zero):: .box b2 73 (eChg c)::LF) (fun L=> .box b4 73 (eChg Chg.zero):: .box b2 73 (eChg c)::(L++LF)) (f:=F) (cs:=cs) (.refl _) rfl rfl Ao _ (hp (g (g st c.file) c.after) c.before (by simp[Ct,hk])) (fun _=>Ao.symm) fun r L' ⟨e1,e2⟩=>?_
         subst e1 e2
         refine AE ?_
         refine Ad 4 13 ?_
         refine wo ?_
         refine AE ?_
         refine B5 14 ?_
         refine Ad 2 15 ?_
         refine wo ?_
         refine AE ?_
         refine B5 16 ?_
         refine Ad 0 17 ?_
         refine wo ?_
         refine AE ?_
         refine Cu (by decide+kernel) ?_
         rw[show GD f c= { c with file:=f c.file,after:=f c.after,before:=f c.before } by unfold GD;simp[hk],show(EE c).foldl g st=g (g (g st c.file) c.after) c.before by unfold EE;simp[hk]]
         exact⟨(),trivial,⟨rfl,rfl,rfl⟩,.refl _⟩
       ·refine⟨_,rfl,?_⟩
        refine wo ?_
        refine AE ?_
        refine Ad 8 3 ?_
        refine C0 (xs:= [.tmp 35]) (Lf st) (.box b4 73 (eChg Chg.zero):: .box b2 73 (eChg c)::LF) (fun L=> .box b4 73 (eChg Chg.zero):: .box b2 73 (eChg c)::(L++LF)) (f:=F) (cs:=cs) (.refl _) rfl rfl Ao _ (hp st c.file (by simp[Ct,hk])) (fun _=>Ao.symm) fun r L' ⟨e1,e2⟩=>?_
        subst e1 e2
        refine AE ?_
        refine B5 12 ?_
        refine Ad 6 7 ?_
        refine C0 (xs:= [.tmp 39]) (Lf (g st c.file)) (.box b4 73 (eChg Chg.zero):: .box b2 73 (eChg c)::LF) (fun L=> .box b4 73 (eChg Chg.zero):: .box b2 73 (eChg c)::(L++LF)) (f:=F) (cs:=cs) (.refl _) rfl rfl Ao _ (hp (g st c.file) c.after (by simp[Ct,hk])) (fun _=>Ao.symm) fun r L' ⟨e1,e2⟩=>?_
        subst e1 e2
        refine AE ?_
        refine Ad 5 11 ?_
        refine C0 (xs:= [.tmp 43]) (Lf (g (g st c.file) c.after)) (.box b4 73 (eChg Chg.zero):: .box b2 73 (eChg c)::LF) (fun L=> .box b4 73 (eChg Chg.zero):: .box b2 73 (eChg c)::(L++LF)) (f:=F) (cs:=cs) (.refl _) rfl rfl Ao _ (hp (g (g st c.file) c.after) c.before (by simp[Ct,hk])) (fun _=>Ao.symm) fun r L' ⟨e1,e2⟩=>?_
        subst e1 e2
        refine AE ?_
        refine Ad 4 13 ?_
        refine wo ?_
        refine AE ?_
        refine B5 14 ?_
        refine Ad 2 15 ?_
        refine wo ?_
        refine AE ?_
        refine B5 16 ?_
        refine Ad 0 17 ?_
        refine wo ?_
        refine AE ?_
        refine Cu (by decide+kernel) ?_
        rw[show GD f c= { c with file:=f c.file,after:=f c.after,before:=f c.before } by unfold GD;simp[hk],show(EE c).foldl g st=g (g (g st c.file) c.after) c.before by unfold EE;simp[hk]]
        exact⟨(),trivial,⟨rfl,rfl,rfl⟩,.refl _⟩
      ·refine⟨_,rfl,?_⟩
       refine wo ?_
       refine AE ?_
       refine Ad 9 2 ?_
       refine wo ?_
       refine AE ?_
       refine Ad 8 3 ?_
       refine C0 (xs:= [.tmp 35]) (Lf st) (.box b4 73 (eChg Chg.zero):: .box b2 73 (eChg c)::LF) (fun L=> .box b4 73 (eChg Chg.zero):: .box b2 73 (eChg c)::(L++LF)) (f:=F) (cs:=cs) (.refl _) rfl rfl Ao _ (hp st c.file (by simp[Ct,hk])) (fun _=>Ao.symm) fun r L' ⟨e1,e2⟩=>?_
       subst e1 e2
       refine AE ?_
       refine B5 12 ?_
       refine Ad 6 7 ?_
       refine C0 (xs:= [.tmp 39]) (Lf (g st c.file)) (.box b4 73 (eChg Chg.zero):: .box b2 73 (eChg c)::LF) (fun L=> .box b4 73 (eChg Chg.zero):: .box b2 73 (eChg c)::(L++LF)) (f:=F) (cs:=cs) (.refl _) rfl rfl Ao _ (hp (g st c.file) c.after (by simp[Ct,hk])) (fun _=>Ao.symm) fun r L' ⟨e1,e2⟩=>?_
       subst e1 e2
       refine AE ?_
       refine Ad 5 11 ?_
       refine C0 (xs:= [.tmp 43]) (Lf (g (g st c.file) c.after)) (.box b4 73 (eChg Chg.zero):: .box b2 73 (eChg c)::LF) (fun L=> .box b4 73 (eChg Chg.zero):: .box b2 73 (eChg c)::(L++LF)) (f:=F) (cs:=cs) (.refl _) rfl rfl Ao _ (hp (g (g st c.file) c.after) c.before (by simp[Ct,hk])) (fun _=>Ao.symm) fun r L' ⟨e1,e2⟩=>?_
       subst e1 e2
       refine AE ?_
       refine Ad 4 13 ?_
       refine wo ?_
       refine AE ?_
       refine B5 14 ?_
       refine Ad 2 15 ?_
       refine wo ?_
       refine AE ?_
       refine B5 16 ?_
       refine Ad 0 17 ?_
       refine wo ?_
       refine AE ?_
       refine Cu (by decide+kernel) ?_
       rw[show GD f c= { c with file:=f c.file,after:=f c.after,before:=f c.before } by unfold GD;simp[hk],show(EE c).foldl g st=g (g (g st c.file) c.after) c.before by unfold EE;simp[hk]]
       exact⟨(),trivial,⟨rfl,rfl,rfl⟩,.refl _⟩
     ·refine⟨_,rfl,?_⟩
      refine wo ?_
      refine AE ?_
      refine Cw (fuel:=10) [2,6] (by decide+kernel) (by simp) fun i hi=>?_
      simp only[AH,Ai,or_false]at hi
      rcases hi with rfl|rfl
      ·refine⟨_,rfl,?_⟩
       refine wo ?_
       refine AE ?_
       refine Cw (fuel:=9) [3,6] (by decide+kernel) (by simp) fun i hi=>?_
       simp only[AH,Ai,or_false]at hi
       rcases hi with rfl|rfl
       ·refine⟨_,rfl,?_⟩
        refine C0 (xs:= [.tmp 35]) (Lf st) (.box b4 73 (eChg Chg.zero):: .box b2 73 (eChg c)::LF) (fun L=> .box b4 73 (eChg Chg.zero):: .box b2 73 (eChg c)::(L++LF)) (f:=F) (cs:=cs) (.refl _) rfl rfl Ao _ (hp st c.file (by simp[Ct,hk])) (fun _=>Ao.symm) fun r L' ⟨e1,e2⟩=>?_
        subst e1 e2
        refine AE ?_
        refine Ad 8 6 ?_
        refine wo ?_
        refine AE ?_
        refine B5 12 ?_
        refine Ad 6 7 ?_
        refine C0 (xs:= [.tmp 39]) (Lf (g st c.file)) (.box b4 73 (eChg Chg.zero):: .box b2 73 (eChg c)::LF) (fun L=> .box b4 73 (eChg Chg.zero):: .box b2 73 (eChg c)::(L++LF)) (f:=F) (cs:=cs) (.refl _) rfl rfl Ao _ (hp (g st c.file) c.after (by simp[Ct,hk])) (fun _=>Ao.symm) fun r L' ⟨e1,e2⟩=>?_
        subst e1 e2
        refine AE ?_
        refine Ad 5 11 ?_
        refine C0 (xs:= [.tmp 43]) (Lf (g (g st c.file) c.after)) (.box b4 73 (eChg Chg.zero):: .box b2 73 (eChg c)::LF) (fun L=> .box b4 73 (eChg Chg.zero):: .box b2 73 (eChg c)::(L++LF)) (f:=F) (cs:=cs) (.refl _) rfl rfl Ao _ (hp (g (g st c.file) c.after) c.before (by simp[Ct,hk])) (fun _=>Ao.symm) fun r L' ⟨e1,e2⟩=>?_
        subst e1 e2
        refine AE ?_
        refine Ad 4 13 ?_
        refine wo ?_
        refine AE ?_
        refine B5 14 ?_
        refine Ad 2 15 ?_
        refine wo ?_
        refine AE ?_
        refine B5 16 ?_
        refine Ad 0 17 ?_
        refine wo ?_
        refine AE ?_
        refine Cu (by decide+kernel) ?_
        rw[show GD f c= { c with file:=f c.file,after:=f c.after,before:=f c.before } by unfold GD;simp[hk],show(EE c).foldl g st=g (g (g st c.file) c.after) c.before by unfold EE;simp[hk]]
        exact⟨(),trivial,⟨rfl,rfl,rfl⟩,.refl _⟩
       ·refine⟨_,rfl,?_⟩
        refine wo ?_
        refine AE ?_
        refine Ad 8 3 ?_
        refine C0 (xs:= [.tmp 35]) (Lf st) (.box b4 73 (eChg Chg.zero):: .box b2 73 (eChg c)::LF) (fun L=> .box b4 73 (eChg Chg.zero):: .box b2 73 (eChg c)::(L++LF)) (f:=F) (cs:=cs) (.refl _) rfl rfl Ao _ (hp st c.file (by simp[Ct,hk])) (fun _=>Ao.symm) fun r L' ⟨e1,e2⟩=>?_
        subst e1 e2
        refine AE ?_
        refine B5 12 ?_
        refine Ad 6 7 ?_
        refine C0 (xs:= [.tmp 39]) (Lf (g st c.file)) (.box b4 73 (eChg Chg.zero):: .box b2 73 (eChg c)::LF) (fun L=> .box b4 73 (eChg Chg.zero):: .box b2 73 (eChg c)::(L++LF)) (f:=F) (cs:=cs) (.refl _) rfl rfl Ao _ (hp (g st c.file) c.after (by simp[Ct,hk])) (fun _=>Ao.symm) fun r L' ⟨e1,e2⟩=>?_
        subst e1 e2
        refine AE ?_
        refine Ad 5 11 ?_
        refine C0 (xs:= [.tmp 43]) (Lf (g (g st c.file) c.after)) (.box b4 73 (eChg Chg.zero):: .box b2 73 (eChg c)::LF) (fun L=> .box b4 73 (eChg Chg.zero):: .box b2 73 (eChg c)::(L++LF)) (f:=F) (cs:=cs) (.refl _) rfl rfl Ao _ (hp (g (g st c.file) c.after) c.before (by simp[Ct,hk])) (fun _=>Ao.symm) fun r L' ⟨e1,e2⟩=>?_
        subst e1 e2
        refine AE ?_
        refine Ad 4 13 ?_
        refine wo ?_
        refine AE ?_
        refine B5 14 ?_
        refine Ad 2 15 ?_
        refine wo ?_
        refine AE ?_
        refine B5 16 ?_
        refine Ad 0 17 ?_
        refine wo ?_
        refine AE ?_
        refine Cu (by decide+kernel) ?_
        rw[show GD f c= { c with file:=f c.file,after:=f c.after,before:=f c.before } by unfold GD;simp[hk],show(EE c).foldl g st=g (g (g st c.file) c.after) c.before by unfold EE;simp[hk]]
        exact⟨(),trivial,⟨rfl,rfl,rfl⟩,.refl _⟩
      ·refine⟨_,rfl,?_⟩
       refine wo ?_
       refine AE ?_
       refine Ad 9 2 ?_
       refine wo ?_
       refine AE ?_
       refine Ad 8 3 ?_
       refine C0 (xs:= [.tmp 35]) (Lf st) (.box b4 73 (eChg Chg.zero):: .box b2 73 (eChg c)::LF) (fun L=> .box b4 73 (eChg Chg.zero):: .box b2 73 (eChg c)::(L++LF)) (f:=F) (cs:=cs) (.refl _) rfl rfl Ao _ (hp st c.file (by simp[Ct,hk])) (fun _=>Ao.symm) fun r L' ⟨e1,e2⟩=>?_
       subst e1 e2
       refine AE ?_
       refine B5 12 ?_
       refine Ad 6 7 ?_
       refine C0 (xs:= [.tmp 39]) (Lf (g st c.file)) (.box b4 73 (eChg Chg.zero):: .box b2 73 (eChg c)::LF) (fun L=> .box b4 73 (eChg Chg.zero):: .box b2 73 (eChg c)::(L++LF)) (f:=F) (cs:=cs) (.refl _) rfl rfl Ao _ (hp (g st c.file) c.after (by simp[Ct,hk])) (fun _=>Ao.symm) fun r L' ⟨e1,e2⟩=>?_
       subst e1 e2
       refine AE ?_
       refine Ad 5 11 ?_
       refine C0 (xs:= [.tmp 43]) (Lf (g (g st c.file) c.after)) (.box b4 73 (eChg Chg.zero):: .box b2 73 (eChg c)::LF) (fun L=> .box b4 73 (eChg Chg.zero):: .box b2 73 (eChg c)::(L++LF)) (f:=F) (cs:=cs) (.refl _) rfl rfl Ao _ (hp (g (g st c.file) c.after) c.before (by simp[Ct,hk])) (fun _=>Ao.symm) fun r L' ⟨e1,e2⟩=>?_
       subst e1 e2
       refine AE ?_
       refine Ad 4 13 ?_
       refine wo ?_
       refine AE ?_
       refine B5 14 ?_
       refine Ad 2 15 ?_
       refine wo ?_
       refine AE ?_
       refine B5 16 ?_
       refine Ad 0 17 ?_
       refine wo ?_
       refine AE ?_
       refine Cu (by decide+kernel) ?_
       rw[show GD f c= { c with file:=f c.file,after:=f c.after,before:=f c.before } by unfold GD;simp[hk],show(EE c).foldl g st=g (g (g st c.file) c.after) c.before by unfold EE;simp[hk]]
       exact⟨(),trivial,⟨rfl,rfl,rfl⟩,.refl _⟩
    ·have hk: ¬c.kind=2∧ ¬(2≤c.kind∧c.kind≤6)∧ ¬(c.kind=5∨c.kind=6):=by omega
     refine wf ?_
     rw[show GD f c=c by unfold GD;simp[hk],show(EE c).foldl g st=st by unfold EE;simp[hk]]
     exact⟨(),trivial,⟨rfl,rfl,rfl⟩,.refl _⟩
 have o2:(GD f c).over=c.over:=rfl
 generalize hc2:GD f c=c2 at o2 ⊢
 have ho2:c2.over.length≤1000:=by rw[o2];exact ho
 refine wf ?_
 refine wu (vf:=vIdn) (c:=c2.over.length) rfl rfl (by omega) (by omega) fun v0 R0 hv0=>?_
 refine wo ?_
 refine AE ?_
 refine E3 Ao.symm ?_
 refine wf ?_
 refine Ab (σ:=Nat × St × Value × List Res) (fun k=>k.1≤c2.over.length∧k.2.1=(c2.over.take k.1).foldl g ((EE c).foldl g st)∧qh k.2.2.1 ((c2.over.take k.1).map f) k.2.2.2) (fun k=>c2.over.length - k.1) (fun k=> [(1,.clo F cs),(2,.raw (.pointer (some ⟨b2,0,none⟩))),(4,.raw (.pointer (some ⟨b4,0,none⟩))),(5,.raw k.2.2.1),(53,.slice (c2.over.map eIdent) .ro),(54,.raw (.int .i64 c2.over.length)),(55,.raw (.int .i64 k.1))]) (fun k=> .box b4 73 (eChg Chg.zero):: .box b2 73 (eChg c2)::(k.2.2.2++(Lf k.2.1++LF))) (0,(EE c).foldl g st,v0,R0) ⟨by simp,rfl,hv0⟩ ⟨rfl,rfl,rfl,rfl,rfl,rfl,rfl⟩ (.refl _) ?_
 rintro⟨k,s,v,R⟩ ⟨hk,hs,hI⟩
 dsimp only at hk hs hI ⊢
 refine wf ?_
 refine A6 (fun hc=>?_) (fun hc=>?_)
 ·have hlt:k < c2.over.length:=by omega
  refine wz fun b7=>?_
  refine Al 7 ?_
  refine wf ?_
  refine C0 (xs:= [.tmp 61]) (Lf s) (.box b4 73 (eChg Chg.zero):: .box b2 73 (eChg c2)::(R++LF)) (fun L=> .box b4 73 (eChg Chg.zero):: .box b2 73 (eChg c2)::(R++(L++LF))) (f:=F) (cs:=cs) (.refl _) rfl rfl ZD _ (hp s c2.over[k] (by rw[dT,Aj];exact .inr (o2 ▸ AB hlt))) (fun _=>ZD.symm) fun r L' ⟨e1,e2⟩=>?_
  subst e1 e2
  refine wf ?_
  refine Iy (f:=eIdent) (m:= [f c2.over[k]]) (R:=R) (LF:= .box b4 73 (eChg Chg.zero):: .box b2 73 (eChg c2)::(Lf (g s c2.over[k])++LF)) (fun R'=> .box b4 73 (eChg Chg.zero):: .box b2 73 (eChg c2)::(R'++(Lf (g s c2.over[k])++LF))) rfl rfl hI Ao (fun R'=>Ao.symm) (by simp only[AR,Aa,AL,Af];omega) (by simp only[AR,Aa,AL,Af];omega) fun v3 R3 h3=>?_
  refine wf ?_
  refine wf ?_
  refine⟨(k+1,_,v3,R3),⟨by dsimp only;omega,?_,?_⟩,by dsimp only;omega,⟨rfl,rfl,rfl,rfl,rfl,rfl,rfl⟩,.refl _⟩
  ·dsimp only
   rw[A7 hlt,BX,←hs];rfl
  ·dsimp only
   rw[A7 hlt,Aq]
   exact h3
 ·rw[AF (by omega)]at hI hs
  have hms:(sortI (c2.over.map f)).length≤maxN∧(sortI (c2.over.map f)).length*33≤maxN:=by
   have h1:maxN=140737488355328:=rfl
   have h2:(sortI (c2.over.map f)).length=c2.over.length:=by rw[sortI,DA,AR]
   omega
  have hfin:FU f c= { c2 with over:=sortI (c2.over.map f) }:=by rw[uG,hc2,o2]
  have hst:(Ct c).foldl g st=s:=by rw[dT,BX,hs,o2]
  refine wf ?_
  refine C0 (xs:= [.tmp 66,.func 159]) R (.box b4 73 (eChg Chg.zero):: .box b2 73 (eChg c2)::(Lf s++LF)) (fun R'=> .box b4 73 (eChg Chg.zero):: .box b2 73 (eChg c2)::(R'++(Lf s++LF))) (f:=158) (cs:= []) (C5 _) rfl rfl Ao _ (YP _ _ R hI (by simp only[AR];omega)) (fun _=>Ao.symm) fun r' L3 ⟨v3,e3,h3⟩=>?_
  subst e3
  refine wo ?_
  refine AE ?_
  refine H0 (f:=eIdent) 5 h3 hms Ao rfl ?_
  rw[hfin,hst]
  refine wf ?_
  exact⟨trivial,_,_,.cons (.cell 4 73 rfl AG FA.out (by simp)) .nil,.cons _ (.cons _ (.refl _)),rfl,rfl⟩
instance yi:NP Tryz.prog 140 31 3:=⟨by kernel_rfl⟩
theorem cD (st:List (Dig × Int)) (d:Dig) (m:Nat) (x:Ident) (hs: ∀ e∈st,0≤e.2∧e.2≤1000000000000) (hn:x.n≤1000000000000):
  BA Tryz.prog 103 [.agg (eIdent x),.pt (eDig d) 0,.pt [.raw (.map (some m))] 0] [.map m (BO kDig vInt st)] (fun r L'=>r= .agg (eIdent (fJ st d x))∧L'= [.map m (BO kDig vInt st)]):=by
 refine C4 Tryz.func103 rfl Tryz.ntmps103 (rs:= [.cell 4 65]) rfl rfl fun hb LF=>?_
 rw[B3,BB]
 refine wf ?_
 refine Bx fun b4=>?_
 refine wf ?_
 refine Bx fun b5=>?_
 refine ws ?_
 refine Cv (σ:=Unit) (fun _=>True) (fun _=> [(1,.pt (eDig d) 0),(2,.pt [.raw (.map (some m))] 0),(3,.pt (eIdent x) 0),(4,.raw (.pointer (some ⟨b4,0,none⟩))),(5,.raw (.pointer (some ⟨b5,0,none⟩)))]) (fun _=> .box b5 31 (eDig (if Ed x=true then d else x.patch)):: .box b4 65 (eIdent Ident.zero):: .map m (BO kDig vInt st)::LF) ?_ fun _ _=>?_
 ·refine AW (fun h=>?_) (fun h=>?_)
  ·refine wf ?_
   rw[if_pos h]
   exact⟨(),trivial,⟨rfl,rfl,rfl,rfl,rfl⟩,.refl _⟩
  ·refine wf ?_
   rw[if_neg (by simp[h])]
   exact⟨(),trivial,⟨rfl,rfl,rfl,rfl,rfl⟩,.refl _⟩
 have hj:fJ st d x=match CB (if Ed x=true then d else x.patch) st with|some k=>if 0≤x.n then⟨Dig.zero,k+x.n⟩else x|none=>x:=rfl
 rw[hj]
 generalize (if Ed x=true then d else x.patch)=e
 have hb0:0≤(CB e st).getD 0∧(CB e st).getD 0≤1000000000000:=by
  cases hg:CB e st with
  |none=>exact⟨by decide,by decide⟩
  |some k=>exact hs _ (Qt hg)
 have hj:(match CB e st with|some k=>if 0≤x.n then(⟨Dig.zero,k+x.n⟩:Ident)else x|none=>x)=if(CB e st).isSome=true∧0≤x.n then⟨Dig.zero,(CB e st).getD 0+x.n⟩else x:=by
  cases hg:CB e st with
  |none=>simp
  |some k=>simp
 rw[hj]
 refine wf ?_
 refine Ay (fun h=>?_) (fun h=>?_)
 ·refine wf ?_
  refine A6 (fun h2=>?_) (fun h2=>?_)
  ·rw[if_pos ⟨h,h2⟩]
   refine wf ?_
   exact⟨trivial,_,_,.cons (.cell 4 65 rfl (AJ _ AG) FA.out (by simp)) .nil,.cons _ (.cons _ (.refl _)),rfl,rfl⟩
  ·rw[if_neg fun k=>h2 k.2]
   refine wf ?_
   exact⟨trivial,_,_,.cons (.cell 4 65 rfl (AJ _ AG) FA.out (by simp)) .nil,.cons _ (.cons _ (.refl _)),rfl,rfl⟩
 ·rw[if_neg fun k=>by simp[k.1]at h]
  refine wf ?_
  exact⟨trivial,_,_,.cons (.cell 4 65 rfl (AJ _ AG) FA.out (by simp)) .nil,.cons _ (.cons _ (.refl _)),rfl,rfl⟩
@[reducible] def MZ (m:Mta) (vd:Value) (cs:List Chg) (tg:CC):List PV:= [.str m.author,.str m.message,.raw (.int .i64 m.time),.raw vd,.slice (cs.map eChg) tg]
@[reducible] def jB (m:Mta) (ds:List Dig) (cs:List Chg) (tg:CC):List PV:= [.str m.author,.str m.message,.raw (.int .i64 m.time),.slice (ds.map eDig) .ro,.slice (cs.map eChg) tg]
theorem rp (m:Mta) (ds:List Dig) (cs:List Chg) (tg:CC):Le (.agg (jB m ds cs tg)) (.agg (Bn ⟨m.author,m.message,m.time,ds,cs⟩)):=fun g v hv=>by
 obtain⟨vs,rfl,h⟩:=hv.agg_inv
 match vs,h with
 | [a,b,c,d,e],h=>
   exact ED.agg (.cons h.uncons.1 (.cons h.uncons.2.uncons.1 (.cons h.uncons.2.uncons.2.uncons.1 (.cons h.uncons.2.uncons.2.uncons.2.uncons.1 (.cons h.uncons.2.uncons.2.uncons.2.uncons.2.uncons.1.ro (.nil g))))))
 | [],h=>have:=h.len;simp at this
 | [_],h=>have:=h.len;simp at this
 | [_,_],h=>have:=h.len;simp at this
 | [_,_,_],h=>have:=h.len;simp at this
 | [_,_,_,_],h=>have:=h.len;simp at this
 |_::_::_::_::_::_::_,h=>have:=h.len;simp at this
theorem qv:Ck Tryz.prog 40 [.str [],.str [],.raw (.int .i64 0),.raw (.slice none 0 0),.slice [] .nil]:=⟨by
 have h:((Tryz.prog.info? 40).bind (·.zero)).map (·.cells.toList)=some [.string ⟨#[]⟩,.string ⟨#[]⟩,.int .i64 0,.slice none 0 0,.slice none 0 0]:=by kernel_rfl
 obtain⟨v,h1,h2⟩:=Bl.1 h
 obtain⟨i,h3,h4⟩:=Dy.1 h1
 exact⟨i,v,_,h3,h4,by rw[←h2],fun g=> .cons (.str (by simp)) (.cons (.str (by simp)) (.cons (.raw _) (.cons (.raw _) (.cons (.nilN none (by simp)) (.nil g)))))⟩⟩
instance :Ck Tryz.prog 140 [.raw (.map none)]:=Lh (v:= .map none) (by kernel_rfl) rfl fun _=> .raw _
theorem TM {s:List Sto} (v:BP s) {x:Sto} (hx:x∈s) {c:Chg} (hc:c∈x.patch.changes): ∀ y∈Ct c,y.n≤16200:=by
 have hu:=v.uses hx hc
 have cnt: ∀ z∈s,Hl z.patch≤16200:=fun z hz=>(Dc (v.close.1.2 z hz)).1
 have key: ∀ y,(RL (Hl x.patch) y∧Kn s y)→y.n≤16200:=fun y ⟨h1,h2⟩=>by
  by_cases hz:y.patch=Dig.zero
  ·have:=h1.2 hz;have:=cnt x hx;omega
  ·obtain⟨z,hz',_,_,h4⟩:=h2 hz
   have:=cnt z hz';omega
 intro y hy
 unfold Ct at hy
 simp only[Aj]at hy
 rcases hy with ((hy|hy)|hy)|hy
 ·split at hy
  ·rename_i h;rw[Ah.1 hy];exact key _ (hu.file h.1 h.2)
  ·cases hy
 ·split at hy
  ·rename_i h
   rw[Ah.1 hy]
   by_cases hr:c.parent=rRoot
   ·rw[hr];decide
   ·exact key _ (hu.parent h hr)
  ·cases hy
 ·split at hy
  ·rename_i h
   simp only[AH,Ai,or_false]at hy
   rcases hy with rfl|rfl
   ·exact key _ (hu.after h)
   ·exact key _ (hu.before h)
  ·cases hy
 ·exact key _ (hu.over y hy)
theorem eZ {m:Mta} {vd:Value} {cs:List Chg} {tg:CC} (h:vd.oneCell'=true):KJ (MZ m vd cs tg):=OG (OG (FM rfl (FM h (NK HS))))
instance A03 (m:Mta) (vd:Value) (cs:List Chg) (tg:CC):At (MZ m vd cs tg) 3 (.raw vd):=⟨rfl⟩
instance A02 (m:Mta) (vd:Value) (cs:List Chg) (tg:CC):At (MZ m vd cs tg) 4 (.slice (cs.map eChg) tg):=⟨rfl⟩
theorem SF {s:List Sto} (v:BP s) {x:Sto} (hx:x∈s):C8 Tryz.prog 29 [.agg (Bn x.patch)] (.raw (.int .i64 (cntS s x.id))):=⟨by
 have i1:B0 (E7 x.patch=false):=⟨v.close.1.2 x hx⟩
 have e:cntS s x.id=(Kq x.patch).1.length:=by
  rw[v.cntS hx,(TD (by rw[Tn];exact(v.id x hx).1)).1];rfl
 refine Av Tryz.func29 Tryz.ntmps29 rfl (rs:= [.tmp 2]) rfl rfl fun hb LF=>?_
 refine wf ?_
 refine B1 (.of_eq ?_)
 rw[e]⟩
theorem fp {a b c d:Res} {l:List Res}:(a::b::c::d::l).Perm (d::c::b::a::l):=(List.reverse_perm [a,b,c,d]).symm.append_right l
theorem Rq {a b c d:Res} {L M:List Res}:(a::b::c::d::(L++M)).Perm (L++(a::b::c::d::M)):=(((Ao (a:=c) (b:=d)).cons b).cons a).trans Ao
theorem Ox {a b c:Res} {l:List Res}:(a::b::c::l).Perm (c::a::b::l):=((List.Perm.swap c b l).cons a).trans (.swap c a (b::l))
structure vH (s:List Sto) (l:List Dig) (i:Nat) (st:List (Dig × Int)) (n:Int) (cs:List Chg) (ds:List Dig):Prop where
 is:((CT s).take i).foldl (jP s l) ([],0,[],[])=(st,n,cs,ds)
 n0:0≤n∧n≤i*16200
 st: ∀ e∈st,0≤e.2∧e.2≤i*16200
 cs:cs.length≤i*200
 ds:ds.length≤i*200
theorem vH.out {s:List Sto} {l:List Dig} {i:Nat} {st:List (Dig × Int)} {n:Int} {cs:List Chg} {ds:List Dig} (h:vH s l i st n cs ds) (hi:i < (CT s).length) (hl: ¬(CT s)[i]∈l):vH s l (i+1) st n cs ds:=by
 obtain⟨h1,h2,h3,h4,h5⟩:=h
 refine⟨?_,by omega,fun e he=>by have:=h3 e he;omega,by omega,by omega⟩
 rw[A7 hi,BX,h1,Bp,La]
 unfold jP
 rw[if_neg hl]
theorem vH.in_ {s:List Sto} (v:BP s) {l:List Dig} {i:Nat} {st:List (Dig × Int)} {n:Int} {cs:List Chg} {ds:List Dig} (h:vH s l i st n cs ds) (hi:i < (CT s).length) {x:Sto} (hx:x∈s) (hd:(CT s)[i]=x.id) (hl:x.id∈l):
  vH s l (i+1) (DD x.id n st) (n+cntS s x.id) (cs++x.patch.changes.map (FU (fJ (DD x.id n st) x.id))) (ds++x.patch.deps.filter fun e=>decide (¬e∈l)):=by
 obtain⟨h1,h2,h3,h4,h5⟩:=h
 have hb:=v.close.1.2 x hx
 have hc:cntS s x.id≤16200:=by rw[v.cntS hx];exact(Dc hb).1
 obtain⟨_,_,g1,g2,_⟩:=EW hb
 have hf:(x.patch.deps.filter fun e=>decide (¬e∈l)).length≤x.patch.deps.length:=Eb _ _
 refine⟨?_,by omega,fun e he=>?_,?_,?_⟩
 ·rw[A7 hi,BX,h1,Bp,La,hd]
  unfold jP
  rw[if_pos hl,v.getS hx]
  rfl
 ·have key: ∀ (m:List (Dig × Int)) e,e∈DD x.id n m→e.2=n∨e∈m:=fun m=>by
   induction m with
   |nil=>intro e he;simp[DD]at he;exact .inl (by rw[he])
   |cons a m ih=>
    intro e he
    unfold DD at he
    split at he
    ·rcases AH.1 he with rfl|he
     ·exact .inl rfl
     ·exact .inr (AJ _ he)
    ·rcases AH.1 he with rfl|he
     ·exact .inr AG
     ·exact(ih e he).imp id (AJ _)
  rcases key st e he with h|h
  ·rw[h];omega
  ·have:=h3 e h;omega
 ·rw[AA,AR];omega
 ·rw[AA];omega
structure JS where
 i:Nat
 st:List (Dig × Int)
 n:Int
 cs:List Chg
 tg:CC
 vd:Value
 ds:List Dig
 R:List Res
theorem gY (s:List Sto) (t:CC) (l:List Dig) (u:CC) (m:Mta) (hv:BP s):C8 Tryz.prog 39 [.slice (s.map eSto) t,.slice (l.map eDig) u,.agg (GF m)] (.agg (Bn (Qv s l m))):=⟨by
 have c1:=fun t=>Rs s t hv.close.1 hv.asc
 have ho:=Da s
 have hol:(CT s).length≤200:=by
  have:=El ho.nodup (u:=ids s) ho.sub
  have:=hv.close.1.1
  unfold ids at*
  simp only[AR]at*
  omega
 refine Av Tryz.func39 Tryz.ntmps39 rfl (rs:= [.cell 6 40]) rfl rfl fun hb LF=>?_
 refine wf ?_
 refine Bx fun b6=>?_
 refine AE ?_
 repeat(refine DZ ?_)
 refine CK (by kernel_rfl) ?_
 iterate 6 (refine w1 ?_)
 refine TX (hZ:=qv) (c0:= [.str m.author]) (c1:= [.str m.message]) (c2:= [.raw (.int .i64 m.time)]) (r0:= [.str m.author,.str [],.raw (.int .i64 0),.raw (.slice none 0 0),.slice [] .nil]) (r1:= [.str m.author,.str m.message,.raw (.int .i64 0),.raw (.slice none 0 0),.slice [] .nil]) (r2:=MZ m (.slice none 0 0) [] .nil) (hP0:=⟨rfl,by simp⟩) (hP1:=⟨rfl,by simp⟩) (hP2:=⟨rfl,by simp⟩) ?_ ?_ ?_ rfl rfl rfl ?_
 ·exact Dn.one (c:= .str m.author) Dx.out
 ·exact Dn.one (c:= .str m.message) Dx.out
 ·exact Dn.one (c:= .raw (.int .i64 m.time)) Dx.out
 refine Bx fun b7=>?_
 refine QX (new:=MZ m (.slice none 0 0) [] .nil) (hf:=⟨eZ rfl⟩) rfl rfl .here rfl (by simp) ?_
 refine AE ?_
 repeat(refine DZ ?_)
 refine CK (by kernel_rfl) ?_
 refine KN fun mp=>?_
 refine Bx fun b8=>?_
 refine wo ?_
 refine AE ?_
 refine Al 8 ?_
 refine wf ?_
 refine EO 139 ?_
 refine E3 fp ?_
 refine Ab (σ:=JS) (fun k=>k.i≤(CT s).length∧vH s l k.i k.st k.n k.cs k.ds∧VN k.vd k.ds k.R) (fun k=>(CT s).length - k.i) (fun k=> [(0,.slice (s.map eSto) t),(1,.slice (l.map eDig) u),(6,.raw (.pointer (some ⟨b6,0,none⟩))),(7,.raw (.pointer (some ⟨b7,0,none⟩))),(8,.pt [.raw (.map (some mp))] 0),(9,.raw (.int .i64 k.n)),(27,.slice ((CT s).map eDig) .ro),(28,.raw (.int .i64 (CT s).length)),(29,.raw (.int .i64 k.i))]) (fun k=> .box b6 40 (Bn Pat.zero):: .box b7 40 (MZ m k.vd k.cs k.tg):: .map mp (BO kDig vInt k.st):: .tok k.tg (k.cs).length 139::(k.R++LF)) ⟨0,[],0,[],.nil,.slice none 0 0,[],[]⟩ ⟨by simp,⟨rfl,by decide,fun e he=>absurd he Ai,by simp,by simp⟩,.nil none (by simp)⟩ ⟨rfl,rfl,rfl,rfl,rfl,rfl,rfl,rfl,rfl⟩ (.refl _) ?_
 rintro⟨i,st,n,cs,tg,vd,ds,R⟩ ⟨hi,hJ,hR⟩
 dsimp only at hi hJ hR ⊢
 refine wf ?_
 refine A6 (fun hc=>?_) (fun hc=>?_)
 ·have hlt:i < (CT s).length:=by omega
  obtain⟨x,hx,hxd⟩:=AQ.1 (ho.sub _ (AB hlt))
  refine wz fun b11=>?_
  refine Al 11 ?_
  refine wf ?_
  refine AX (fun h=>?_) (fun h=>?_)
  ·refine wf ?_
   exact⟨⟨i+1,st,n,cs,tg,vd,ds,R⟩,⟨by dsimp only;omega,hJ.out hlt h,hR⟩,by dsimp only;omega,⟨rfl,rfl,rfl,rfl,rfl,rfl,rfl,rfl,rfl⟩,.refl _⟩
  ·have hl:x.id∈l:=by rw[hxd];exact h
   have hJ':=hJ.in_ hv hlt hx hxd.symm hl
   have hb0:=hv.close.1.2 x hx
   have hc16:cntS s x.id≤16200:=by rw[hv.cntS hx];exact(Dc hb0).1
   obtain⟨_,_,g1,g2,gch⟩:=EW hb0
   have cg: ∀ t,C8 Tryz.prog 17 [.slice (s.map eSto) t,.agg (eDig x.id)] (.tuple [.agg (Bn x.patch),.raw (.bool true)]):=fun t=>by
    have:=KM s t x.id
    rw[hv.getS hx]at this
    exact this
   have cc:=SF hv hx
   have hn0:=hJ.n0
   have hst0:=hJ'.st
   have hcs0:=hJ.cs
   have hds0:=hJ.ds
   rw[←hxd]
   refine wz fun b12=>?_
   refine Al 12 ?_
   refine wf ?_
   refine QY (κ:=Dig) (ek:=kDig) (ev:=vInt) (k0:=x.id) (x0:=n) (L':= .box b6 40 (Bn Pat.zero):: .box b7 40 (MZ m vd cs tg):: .tok tg cs.length 139::(R++LF)) rfl Ox (.refl _) (.refl _) ?_
   refine AE ?_
   refine E3 Ox.symm ?_
   refine wf ?_
   refine Ab (σ:=Nat × List Chg × CC) (fun k=>k.1≤x.patch.changes.length∧k.2.1=cs++(x.patch.changes.take k.1).map (FU (fJ (DD x.id n st) x.id))) (fun k=>x.patch.changes.length - k.1) (fun k=> [(0,.slice (s.map eSto) t),(1,.slice (l.map eDig) u),(6,.raw (.pointer (some ⟨b6,0,none⟩))),(7,.raw (.pointer (some ⟨b7,0,none⟩))),(8,.pt [.raw (.map (some mp))] 0),(9,.raw (.int .i64 (n+cntS s x.id))),(27,.slice ((CT s).map eDig) .ro),(28,.raw (.int .i64 (CT s).length)),(29,.raw (.int .i64 i)),(11,.pt (eDig x.id) 0),(12,.pt (Bn x.patch) 0),(51,.slice (x.patch.changes.map eChg) .ro),(52,.raw (.int .i64 x.patch.changes.length)),(53,.raw (.int .i64 k.1))]) (fun k=> .box b6 40 (Bn Pat.zero):: .box b7 40 (MZ m vd k.2.1 k.2.2):: .map mp (BO kDig vInt (DD x.id n st)):: .tok k.2.2 (k.2.1).length 139::(R++LF)) (0,cs,tg) ⟨by simp,by simp⟩ ⟨rfl,rfl,rfl,rfl,rfl,rfl,rfl,rfl,rfl,rfl,rfl,rfl,rfl,rfl⟩ (.refl _) ?_
   rintro⟨j,cs1,tg1⟩ ⟨hj,hcs⟩
   dsimp only at hj hcs ⊢
   refine wf ?_
   refine A6 (fun hc1=>?_) (fun hc1=>?_)
   ·have hjl:j < x.patch.changes.length:=by omega
    have hch:=AB hjl
    have hl1:cs1.length=cs.length+j:=by rw[hcs];simp;omega
    refine wz fun b15=>?_
    refine Al 15 ?_
    refine wn ?_
    refine BZ 6 ?_ ?_
    ·decide+kernel
    refine wf ?_
    refine Qa (xs:= [.tmp 59,.tmp 60]) [.map mp (BO kDig vInt (DD x.id n st))] (.box b6 40 (Bn Pat.zero):: .box b7 40 (MZ m vd cs1 tg1):: .tok tg1 cs1.length 139::(R++LF)) (.agg (eChg (FU (fJ (DD x.id n st) x.id) x.patch.changes[j]))) (f:=102) (cs:= []) (C5 _) rfl rfl Ox (S0 103 _ (fun _:Unit=> [.map mp (BO kDig vInt (DD x.id n st))]) (fJ (DD x.id n st) x.id) (fun _ _=>()) x.patch.changes[j] (fun _ y hy=>cD (DD x.id n st) x.id mp y (fun e he=>by have:=hst0 e he;omega) (by have:=TM hv hx hch y hy;omega)) (by have:=(gch _ hch).over;omega) ()) ?_
    refine dR fun v'=>?_
    refine GU (ay:= .slice ((cs1++ [FU (fJ (DD x.id n st) x.id) x.patch.changes[j]]).map eChg) v') (MZ m vd (cs1++ [FU (fJ (DD x.id n st) x.id) x.patch.changes[j]]) v') rfl rfl Dx.out rfl (by simp) ?_
    refine wf ?_
    refine wf ?_
    refine⟨(j+1,(cs1++ [FU (fJ (DD x.id n st) x.id) x.patch.changes[j]]),v'),⟨by dsimp only;omega,?_⟩,by dsimp only;omega,⟨rfl,rfl,rfl,rfl,rfl,rfl,rfl,rfl,rfl,rfl,rfl,rfl,rfl,rfl⟩,.refl _⟩
    dsimp only
    rw[A7 hjl,Aq,hcs,AV]
    rfl
   ·have hcs:cs1=cs++x.patch.changes.map (FU (fJ (DD x.id n st) x.id)):=by rw[hcs,AF (by omega)]
    rw[←hcs]at hJ'
    refine wf ?_
    refine Ab (σ:=Nat × Value × List Dig × List Res) (fun k=>k.1≤x.patch.deps.length∧k.2.2.1=ds++(x.patch.deps.take k.1).filter (fun e=>decide (¬e∈l))∧VN k.2.1 k.2.2.1 k.2.2.2) (fun k=>x.patch.deps.length - k.1) (fun k=> [(0,.slice (s.map eSto) t),(1,.slice (l.map eDig) u),(6,.raw (.pointer (some ⟨b6,0,none⟩))),(7,.raw (.pointer (some ⟨b7,0,none⟩))),(8,.pt [.raw (.map (some mp))] 0),(9,.raw (.int .i64 (n+cntS s x.id))),(27,.slice ((CT s).map eDig) .ro),(28,.raw (.int .i64 (CT s).length)),(29,.raw (.int .i64 i)),(12,.pt (Bn x.patch) 0),(67,.slice (x.patch.deps.map eDig) .ro),(68,.raw (.int .i64 x.patch.deps.length)),(69,.raw (.int .i64 k.1))]) (fun k=> .box b6 40 (Bn Pat.zero):: .box b7 40 (MZ m k.2.1 cs1 tg1):: .map mp (BO kDig vInt (DD x.id n st)):: .tok tg1 (cs1).length 139::(k.2.2.2++LF)) (0,vd,ds,R) ⟨by simp,by simp,hR⟩ ⟨rfl,rfl,rfl,rfl,rfl,rfl,rfl,rfl,rfl,rfl,rfl,rfl,rfl⟩ (.refl _) ?_
    rintro⟨q,vd1,ds1,R1⟩ ⟨hq,hds,hR1⟩
    dsimp only at hq hds hR1 ⊢
    have hdl:ds1.length≤40000+q:=by
     have:=Eb (fun e=>decide (¬e∈l)) (x.patch.deps.take q)
     rw[hds,AA]
     rw[Aa]at this
     omega
    refine wf ?_
    refine A6 (fun hc2=>?_) (fun hc2=>?_)
    ·have hql:q < x.patch.deps.length:=by omega
     refine wz fun b17=>?_
     refine Al 17 ?_
     refine wf ?_
     refine AX (fun hd=>?_) (fun hd=>?_)
     ·refine wf ?_
      refine Iy (f:=eDig) (m:= [x.patch.deps[q]]) (R:=R1) (LF:= .box b6 40 (Bn Pat.zero):: .box b7 40 (MZ m vd1 cs1 tg1):: .map mp (BO kDig vInt (DD x.id n st)):: .tok tg1 cs1.length 139::LF) (fun R'=> .box b6 40 (Bn Pat.zero):: .box b7 40 (MZ m vd1 cs1 tg1):: .map mp (BO kDig vInt (DD x.id n st)):: .tok tg1 cs1.length 139::(R'++LF)) rfl rfl hR1 Rq (fun R'=>Rq.symm) (by simp only[AL,Af];omega) (by simp only[AL,Af];omega) fun v2 R2 hv2=>?_
      refine wf ?_
      refine IA (MZ m v2 cs1 tg1) rfl rfl hv2.one rfl (by simp) ?_
      refine wf ?_
      refine wf ?_
      refine⟨(q+1,v2,_,R2),⟨by dsimp only;omega,?_,hv2⟩,by dsimp only;omega,⟨rfl,rfl,rfl,rfl,rfl,rfl,rfl,rfl,rfl,rfl,rfl,rfl,rfl⟩,.refl _⟩
      dsimp only
      rw[A7 hql,Eo,hds,AV,GH (by simpa using hd)]
      rfl
     ·refine wf ?_
      refine⟨(q+1,vd1,ds1,R1),⟨by dsimp only;omega,?_,hR1⟩,by dsimp only;omega,⟨rfl,rfl,rfl,rfl,rfl,rfl,rfl,rfl,rfl,rfl,rfl,rfl,rfl⟩,.refl _⟩
      dsimp only
      rw[A7 hql,Eo,hds,Eu (by simpa using hd)]
      simp
    ·have hds:ds1=ds++x.patch.deps.filter (fun e=>decide (¬e∈l)):=by rw[hds,AF (by omega)]
     rw[←hds]at hJ'
     refine wf ?_
     exact⟨⟨i+1,(DD x.id n st),(n+cntS s x.id),cs1,tg1,vd1,ds1,R1⟩,⟨by dsimp only;omega,hJ',hR1⟩,by dsimp only;omega,⟨rfl,rfl,rfl,rfl,rfl,rfl,rfl,rfl,rfl⟩,.refl _⟩
 have hii:i=(CT s).length:=by omega
 have hjn:Qv s l m=⟨m.author,m.message,m.time,KX (sortD ds),cs⟩:=by
  unfold Qv
  rw[show(CT s).foldl (jP s l) ([],0,[],[])=(st,n,cs,ds) by rw[←hJ.is,AF (by omega)]]
 have hds0:=hJ.ds
 have hsl:(sortD ds).length=ds.length:=by unfold sortD;rw[DA]
 rw[hjn]
 refine wf ?_
 refine C0 (xs:= [.tmp 86,.func 61]) R (.box b6 40 (Bn Pat.zero):: .box b7 40 (MZ m vd cs tg):: .map mp (BO kDig vInt st):: .tok tg cs.length 139::LF) (fun R'=> .box b6 40 (Bn Pat.zero):: .box b7 40 (MZ m vd cs tg):: .map mp (BO kDig vInt st):: .tok tg cs.length 139::(R'++LF)) (f:=60) (cs:= []) (C5 _) rfl rfl Rq _ (TA ds vd R hR (by omega)) (fun _=>Rq.symm) fun r L2 ⟨v2,e2,hv2⟩=>?_
 subst e2
 refine wf ?_
 refine C0 (xs:= [.tmp 89]) L2 (.box b6 40 (Bn Pat.zero):: .box b7 40 (MZ m v2 cs tg):: .map mp (BO kDig vInt st):: .tok tg cs.length 139::LF) (fun R'=> .box b6 40 (Bn Pat.zero):: .box b7 40 (MZ m v2 cs tg):: .map mp (BO kDig vInt st):: .tok tg cs.length 139::(R'++LF)) (f:=62) (cs:= []) (C5 _) rfl rfl Rq _ (QE (sortD ds) v2 L2 hv2 (by omega)) (fun _=>Rq.symm) fun r L3 ⟨hr,hL3⟩=>?_
 subst hr hL3
 refine wo ?_
 refine GU (ay:= .slice ((KX (sortD ds)).map eDig) .ro) (jB m (KX (sortD ds)) cs tg) rfl rfl Dx.out rfl (by simp) ?_
 refine wf ?_
 refine Vf (cs:=jB m (KX (sortD ds)) cs tg) rfl (AJ _ AG) rfl ?_
 refine QX (new:=jB m (KX (sortD ds)) cs tg) (hf:=⟨OG (OG (FM rfl (NK (NK HS))))⟩) rfl rfl .here rfl (by simp) ?_
 refine wf ?_
 exact Fv rfl (rp _ _ _ _)⟩
attribute [local irreducible] Km
theorem QM {α:Type} (a:List α):a.zipIdx.reverse.map (·.1)=a.reverse:=by
 rw[List.map_reverse,show(fun x:α × Nat=>x.1)=Prod.fst from rfl,aj]
def VC (s:List Sto) (e:Dig × Nat):List Atm:=(atmS s e.1).reverse
theorem Va (s:List Sto):(CT s).zipIdx.reverse.flatMap (VC s)=Lp s:=by
 have:(CT s).zipIdx.reverse.flatMap (VC s)=((CT s).zipIdx.reverse.map (·.1)).flatMap fun d=>(atmS s d).reverse:=by rw[List.flatMap_map];rfl
 rw[this,QM]
 unfold Lp
 rw[List.reverse_flatMap]
 rfl
instance vp (s:List Sto) (t:CC):C8 Tryz.prog 202 [.slice (s.map eSto) t] (.clo 253 [.pt [.slice (s.map eSto) .ro] 0]):=⟨by
 refine Av Tryz.func202 Tryz.ntmps202 rfl (rs:= [.tmp 2]) rfl rfl fun hb LF=>?_
 refine wf ?_
 exact B1 (.refl _)⟩
theorem ZU {s:List Sto} (v:BP s):Ur Tryz.prog 253 [.pt [.slice (s.map eSto) .ro] 0] lq (Lp s):=by
 have c1:=fun t=>Rs s t v.close.1 v.asc
 have ho:=Da s
 have hol:(CT s).length≤200:=by
  have:=El ho.nodup (u:=ids s) ho.sub
  have:=v.close.1.1
  unfold ids at*
  simp only[AR]at*
  omega
 intro l J Jx hY L hJ
 refine C4 Tryz.func253 rfl Tryz.ntmps253 (rs:= []) rfl rfl fun hb LF=>?_
 refine wf ?_
 refine GK (cw (CT s) .ro (by omega)) [14,15] (σ:=List Res) (fun pre s'=>J (pre.flatMap (VC s)) s') (fun _ s'=> ∃ p,Jx p s') (fun s' LF'=>s'++LF') L LF ?_ rfl (fun _=>rfl) (by simp) (fun s' LF'=>by rw[BW]) (.refl _) hJ ?_ ?_ ?_
 ·exact .refl _
 ·intro pre x s' LF' hpx hI
  obtain⟨rest,hrest⟩:=hpx
  have hxm:x.1∈CT s:=by
   have:x∈(CT s).zipIdx.reverse:=by rw[←hrest];simp
   have:x.1∈(CT s).zipIdx.reverse.map (·.1):=AQ.2 ⟨x,this,rfl⟩
   rw[QM]at this
   simpa using this
  obtain⟨y,hys,hyd⟩:=AQ.1 (ho.sub _ hxm)
  have hb0:=v.close.1.2 y hys
  have i1:B0 (E7 y.patch=false):=⟨hb0⟩
  have hat:atmS s x.1=(En y.patch).1:=by
   unfold Go.Proofs.atmS
   rw[←hyd,v.getS hys];rfl
  have hal:(En y.patch).1.length≤1000000:=by
   rw[←hat,←hyd,v.at_len hys]
   have:=(Dc hb0).1
   unfold Hl
   omega
  have cg: ∀ t,C8 Tryz.prog 17 [.slice (s.map eSto) t,.agg (eDig x.1)] (.tuple [.agg (Bn y.patch),.raw (.bool true)]):=fun t=>by
   have:=KM s t x.1
   rw[←hyd,v.getS hys]at this
   rw[←hyd]
   exact this
  have hseq:Lp s=pre.flatMap (VC s)++((En y.patch).1.reverse++rest.flatMap (VC s)):=by
   rw[←Va,←hrest,FK,FK,AV]
   congr 2
   unfold VC
   rw[A0G,hat]
  unfold bkD
  refine wz fun b4=>?_
  refine Al 4 ?_
  refine wz fun b5=>?_
  refine Al 5 ?_
  refine wf ?_
  refine GK (cy (En y.patch).1 .ro hal) [29,30] (σ:=List Res) (fun pre2 s2=>J (pre.flatMap (VC s)++pre2.map (·.1)) s2) (fun _ s2=> ∃ p,Jx p s2) (fun s2 LF2=>s2++LF2) s' LF' ?_ rfl (fun _=>rfl) (by simp) (fun s2 LF2=>by rw[BW]) (.refl _) (by simpa using hI) ?_ ?_ ?_
  ·exact .refl _
  ·intro pre2 z s2 LF2 hpz hI2
   obtain⟨rest2,hrest2⟩:=hpz
   have hr2:(En y.patch).1.reverse=pre2.map (·.1)++([z.1]++rest2.map (·.1)):=by
    rw[←QM,←hrest2,Aq,Aq,AV]
    rfl
   have hy2:=hY (pre.flatMap (VC s)++pre2.map (·.1)) z.1 s2 ⟨rest2.map (·.1)++rest.flatMap (VC s),by rw[hseq,hr2];simp⟩ hI2
   unfold bkA
   refine wz fun b10=>?_
   refine Al 10 ?_
   refine wf ?_
   refine Ha s2 LF2 rfl rfl rfl (.refl _) _ hy2 fun bo L2 hR=>?_
   refine wf ?_
   rcases hR with ⟨rfl,h⟩|⟨rfl,h⟩
   ·refine wf ?_
    exact⟨L2,by simpa using h,.refl _⟩
   ·refine wf ?_
    exact⟨L2,⟨_,h⟩,.refl _⟩
  ·intro s2 hs2
   refine⟨s2,?_,.refl _⟩
   rw[QM]at hs2
   dsimp only
   rw[FK,A0G]
   unfold VC at hs2 ⊢
   rw[hat]
   exact hs2
  ·intro pre2 s2 h
   exact⟨s2,h,.refl _⟩
 ·intro s' h
  rw[Va]at h
  exact⟨trivial,_,s',.nil,.refl _,.inl h⟩
 ·intro pre s' h
  exact⟨trivial,_,s',.nil,.refl _,.inr h⟩
end Go.Proofs
namespace Go.Q
open Go
class A0e (P:Program) (T:Nat):Prop where
 out: ∃ td,P.underlying T=some td∧ ∀ ms,td≠ .interface ms
def ku (P:Program) (T:Nat) (m:String):Option (Bool × Option (Nat × Bool)):=(P.info? T).bind fun i=>(i.methods.find? (·.name==m)).map fun r=>(r.path.isEmpty,r.func)
class A0U (P:Program) (T:Nat) (m:String) (f:outParam Nat):Prop where
 row:ku P T m=some (true,some (f,true))
 ptr: ∃ E,P.underlying T=some (.pointer E)
class A0T (P:Program) (T:Nat) (m:String) (E f:outParam Nat):Prop where
 row:ku P T m=some (true,some (f,false))
 ptr:P.underlying T=some (.pointer E)
section
variable {P:Program} {N:Nat} {all:Array Oper} {K:Env→List Res→Prop} {fl:List Bool} {os:List Oper} {ρ:Env} {L:List Res} {d:Nat} {ty:TypeId} {pos:String} {af:Array Edge}
end
section
variable {κ α:Type} [DecidableEq κ] (f:α→List PV) (by_:Nat)
def Sk (x:List α × CC):PV:= .slice (x.1.map f) x.2
def bB (x:List α × CC):Res:= .tok x.2 x.1.length by_
def PX (m:List (κ × (List α × CC))):List Res:=m.map fun e=>bB by_ e.2
def mY (k:κ) (m:List (κ × (List α × CC))) (R:List Res):Prop:=(CB k m=none∧R=PX by_ m)∨ ∃ v,CB k m=some v∧(PX by_ m).Perm (bB by_ v::R)
theorem SR (k:κ): ∀ m:List (κ × (List α × CC)),∃ R,mY by_ k m R∧ ∀ v,(PX by_ (DD k v m)).Perm (bB by_ v::R)
 | []=>⟨[],.inl ⟨rfl,rfl⟩,fun v=> .refl _⟩
 |(a,y)::l=>by
  by_cases e:k=a
  ·exact⟨PX by_ l,.inr ⟨y,by simp[CB,e],.refl _⟩,fun v=>by simp[DD,e,PX]⟩
  ·obtain⟨R,h1,h2⟩:=SR k l
   refine⟨bB by_ y::R,?_,fun v=>?_⟩
   ·rcases h1 with ⟨h,rfl⟩|⟨v,h,hp⟩
    ·exact .inl ⟨by simp[CB,e,h],rfl⟩
    ·exact .inr ⟨v,by simp[CB,e,h],(List.Perm.cons (bB by_ y) hp).trans (.swap _ _ _)⟩
   ·have e2:DD k v ((a,y)::l)=(a,y)::DD k v l:=by simp[DD,e]
    rw[e2]
    exact(List.Perm.cons (bB by_ y) (h2 v)).trans (.swap _ _ _)
theorem fk {P:Program} {N:Nat} {c:Code} {Q:PPost} {ρ:Env} {A LF R:List Res} {m:List (κ × (List α × CC))} {k:κ} (h:mY by_ k m R) (hk:ER P N c Q ρ (A++bB by_ ((CB k m).getD ([],.nil))::(R++LF))):ER P N c Q ρ (A++(PX by_ m++LF)):=by
 rcases h with ⟨h,rfl⟩|⟨v,h,hp⟩
 ·rw[h]at hk
  refine EO by_ ?_
  exact E3 Bb.symm hk
 ·rw[h]at hk
  exact E3 (A0Y A (hp.append_right LF)) hk
end
section
variable {P:Program} {N:Nat} {all:Array Oper} {K:Env→List Res→Prop} {fl:List Bool} {os:List Oper} {ρ:Env} {L:List Res} {d:Nat} {ty:TypeId} {pos:String} {af:Array Edge}
end
end Go.Q
namespace Go.Proofs
open Go Go.Q Go.Sort
def LB (s:List Sto) (y:Ident):Option Atm:=match getS s y.patch with
 |none=>none
 |some p=>(En p).1.find? fun a=>decide (a.id=y)
def OW (s:List Sto) (y:Ident):Bool:=(LB s y).isSome&&decide (y∉(GY (Lp s)).2)
def eF (a b:Atm):Bool:=decide (a.kind=b.kind)&&decide (a.type=b.type)&&decide (a.name=b.name)&&decide (a.mode=b.mode)&&decide (a.data=b.data)&&decide (a.text=b.text)&&decide (a.over.length=b.over.length)
def Y0 (s t:List Sto) (x y:Ident):Bool:=match LB s x with
 |none=>false
 |some a=>match LB t y with
  |none=>false
  |some b=>eF a b&&decide (OW s x=OW t y)
theorem BP.find {s:List Sto} (v:BP s) {x:Sto} (hx:x∈s) {i:Nat} (hi:i < x.patch.changes.length) {k:Nat} (hk:k < FH x.patch.changes[i]):LB s ⟨x.id,(CD x.patch.changes i+k:Nat)⟩=some (Ib x i k):=by
 have hp:=EH (Fc (v.id x hx).1).1
 have hl:(En x.patch).1=Go.Proofs.atmS s x.id:=by
  unfold Go.Proofs.atmS
  rw[v.getS hx];rfl
 unfold LB
 dsimp only
 rw[v.getS hx]
 dsimp only
 rw[hl,mr]
 have hg:=v.at_get hx hi hk
 obtain⟨hlt,he⟩:=Ba.1 hg
 refine⟨BF (J7 hi hk),_,hlt,he,fun m hm=>?_⟩
 have hml:m < Hl x.patch:=by rw[v.at_len hx]at hlt;omega
 obtain⟨j,hj,q,hq,e⟩:=hp.split hml
 have hgm:=v.at_get hx hj hq
 rw[←e,AO (by omega)]at hgm
 rw[CJ hgm,J7 hj hq]
 simp only[AI,A8,Ident.mk.injEq,true_and]
 omega
def NU (φ:Ident→Ident) (x z:Sto) (i j:Nat):Prop:= ∃ (hi:i < x.patch.changes.length) (hj:j < z.patch.changes.length),∃ f:Ident→Ident,z.patch.changes[j]=FU f x.patch.changes[i]∧(∀ y∈x.patch.changes[i].over,Cq (f y) z.id=φ (Cq y x.id))∧
 ∀ k,k < FH x.patch.changes[i]→φ ⟨x.id,(CD x.patch.changes i+k:Nat)⟩=⟨z.id,(CD z.patch.changes j+k:Nat)⟩
structure RK (s t:List Sto) (φ:Ident→Ident):Prop where
 inj: ∀ x∈s,∀ n:Nat,n < Hl x.patch→ ∀ y∈s,∀ m:Nat,m < Hl y.patch→φ ⟨x.id,n⟩=φ ⟨y.id,m⟩→x.id=y.id∧n=m
 to: ∀ x∈s,∀ i,i < x.patch.changes.length→ ∃ z∈t,∃ j,NU φ x z i j
 from_: ∀ z∈t,∀ j,j < z.patch.changes.length→ ∃ x∈s,∃ i,NU φ x z i j
theorem aN (f:Ident→Ident) (c:Chg):FH (FU f c)=FH c:=by
 have:=congrArg List.length (W0 f c 0 0)
 rw[AR,AR]at this
 exact this
theorem pB (f:Ident→Ident) (c:Chg):(∀ w,w∈fv (FU f c)↔ ∃ y∈fv c,w=f y)∧(fv (FU f c)).length=(fv c).length:=by
 have hk:(FU f c).kind=c.kind:=rfl
 have ho:(FU f c).over=sortI (c.over.map f):=rfl
 unfold fv
 rw[hk,ho]
 split
 ·refine⟨fun w=>?_,by unfold sortI;rw[DA,AR]⟩
  rw[Oi,AQ]
  exact⟨fun⟨y,hy,e⟩=>⟨y,hy,e.symm⟩,fun⟨y,hy,e⟩=>⟨y,hy,e.symm⟩⟩
 ·exact⟨fun w=>⟨fun h=>absurd h Ai,fun⟨y,hy,_⟩=>absurd hy Ai⟩,rfl⟩
theorem NU.pair {φ:Ident→Ident} {x z:Sto} {i j:Nat} (h:NU φ x z i j): ∃ (hi:i < x.patch.changes.length) (hj:j < z.patch.changes.length),FH z.patch.changes[j]=FH x.patch.changes[i]∧ ∀ k,k < FH x.patch.changes[i]→
  (Ib z j k).id=φ (Ib x i k).id∧(Ib z j k).kind=(Ib x i k).kind∧eF (Ib x i k) (Ib z j k)=true∧ ∀ w,w∈(Ib z j k).over↔ ∃ y∈fv x.patch.changes[i],w=φ (Cq y x.id):=by
 obtain⟨hi,hj,f,e1,e2,e3⟩:=h
 have hc:FH z.patch.changes[j]=FH x.patch.changes[i]:=by rw[e1,aN]
 refine⟨hi,hj,hc,fun k hk=>?_⟩
 have hk':k < FH z.patch.changes[j]:=by omega
 have hid:(Ib z j k).id=φ (Ib x i k).id:=by rw[J7 hj hk',J7 hi hk,e3 k hk]
 have l1:k < (CW x.patch.changes[i] (CD x.patch.changes i)).length:=by rw[Hc];exact hk
 have l2:k < (CW z.patch.changes[j] (CD z.patch.changes j)).length:=by rw[Hc];exact hk'
 have hs:=congrArg (fun l=>l[k]?) (W0 f x.patch.changes[i] (CD x.patch.changes i) (CD z.patch.changes j))
 rw[←e1,EY,EY,AO l1,AO l2,Eh,Eh]at hs
 have hs:=CJ hs
 simp only[Prod.mk.injEq]at hs
 obtain⟨s1,s2,s3,s4,s5,s6⟩:=hs
 have a1:Ib x i k=fP x.id (CW x.patch.changes[i] (CD x.patch.changes i))[k]:=by
  unfold Ib
  rw[MR hi,BG,AO l1,Bj]
 have a2:Ib z j k=fP z.id (CW z.patch.changes[j] (CD z.patch.changes j))[k]:=by
  unfold Ib
  rw[MR hj,BG,AO l2,Bj]
 obtain⟨_,p1,p2,p3,p4,p5,p6,p7⟩:=R8 x.id (CW x.patch.changes[i] (CD x.patch.changes i))[k]
 obtain⟨_,q1,q2,q3,q4,q5,q6,q7⟩:=R8 z.id (CW z.patch.changes[j] (CD z.patch.changes j))[k]
 have o1:=P2 (AB l1)
 have o2:((CW z.patch.changes[j] (CD z.patch.changes j))[k]).over=fv (FU f x.patch.changes[i]):=(P2 (AB l2)).trans (by rw[e1])
 obtain⟨m1,m2⟩:=pB f x.patch.changes[i]
 refine⟨hid,by rw[a1,a2,p1,q1,s1],?_,fun w=>?_⟩
 ·unfold eF
  rw[a1,a2,p1,q1,p2,q2,p3,q3,p4,q4,p5,q5,p6,q6,p7,q7,s1,s2,s3,s4,s5,s6,o1,o2]
  unfold sortI
  simp[m2]
 ·rw[P9 hj hk',e1]
  constructor
  ·rintro⟨y,hy,rfl⟩
   obtain⟨y0,hy0,rfl⟩:=(m1 y).1 hy
   exact⟨y0,hy0,e2 y0 (Qp hy0)⟩
  ·rintro⟨y,hy,rfl⟩
   exact⟨f y,(m1 _).2 ⟨y,hy,rfl⟩,(e2 y (Qp hy)).symm⟩
theorem BP.over_id {s:List Sto} (v:BP s) {x:Sto} (hx:x∈s) {i:Nat} (hi:i < x.patch.changes.length) {y:Ident} (hy:y∈x.patch.changes[i].over): ∃ z∈s,∃ n:Nat,n < Hl z.patch∧Cq y x.id=⟨z.id,n⟩:=by
 have hp:=EH (Fc (v.id x hx).1).1
 rcases v.over_at hx hi hy with ⟨_,a,b,e⟩|⟨_,e,_,_,z,hz,e1,a,b⟩
 ·have:=EN x.patch.changes (show i≤x.patch.changes.length by omega)
  have hc:=hp.cnt
  refine⟨x,hx,y.n.toNat,by omega,?_⟩
  rw[e];congr 1;omega
 ·refine⟨z,hz,y.n.toNat,by omega,?_⟩
  rw[e,e1]
  cases y
  congr 1
  dsimp only at a ⊢;omega
theorem RK.named {s t:List Sto} {φ:Ident→Ident} (h:RK s t φ) (v:BP s) (w:BP t):ab (Lp s) (Lp t) φ:=by
 have key: ∀ {x z:Sto} {i j:Nat},x∈s→NU φ x z i j→ ∀ (hi:i < x.patch.changes.length) k,k < FH x.patch.changes[i]→(Ib z j k).id=φ (Ib x i k).id∧(Ib z j k).kind=(Ib x i k).kind∧ ∀ c∈Lp s,c.id∈(Ib x i k).over↔φ c.id∈(Ib z j k).over:=fun {x z i j} hx ha hi k hk=>by
  obtain⟨_,hj,hc,hp⟩:=ha.pair
  obtain⟨p1,p2,_,p4⟩:=hp k hk
  refine⟨p1,p2,fun c hcm=>?_⟩
  obtain⟨x',hx',i',hi',k',hk',rfl⟩:=v.mem_seq.1 hcm
  have hlt:=(EH (Fc (v.id x' hx').1).1).lt hi' hk'
  rw[p4,P9 hi hk,J7 hi' hk']
  constructor
  ·rintro⟨y,hy,e⟩
   exact⟨y,hy,by rw[e]⟩
  ·rintro⟨y,hy,e⟩
   refine⟨y,hy,?_⟩
   obtain⟨z',hz',n,hn,e2⟩:=v.over_id hx hi (Qp hy)
   rw[e2]at e ⊢
   obtain⟨q1,q2⟩:=h.inj x' hx' _ hlt z' hz' n hn e
   rw[q1,q2]
 refine⟨fun a ha=>?_,fun b hb=>?_⟩
 ·obtain⟨x,hx,i,hi,k,hk,rfl⟩:=v.mem_seq.1 ha
  obtain⟨z,hz,j,hal⟩:=h.to x hx i hi
  obtain⟨_,hj,hc,_⟩:=hal.pair
  exact⟨Ib z j k,w.mem_seq.2 ⟨z,hz,j,hj,k,by omega,rfl⟩,key hx hal hi k hk⟩
 ·obtain⟨z,hz,j,hj,k,hk,rfl⟩:=w.mem_seq.1 hb
  obtain⟨x,hx,i,hal⟩:=h.from_ z hz j hj
  obtain⟨hi,_,hc,_⟩:=hal.pair
  exact⟨Ib x i k,v.mem_seq.2 ⟨x,hx,i,hi,k,by omega,rfl⟩,key hx hal hi k (by omega)⟩
theorem RK.alike {s t:List Sto} {φ:Ident→Ident} (h:RK s t φ) (v:BP s) (w:BP t) {x:Sto} (hx:x∈s) {n:Nat} (hn:n < Hl x.patch):Y0 s t ⟨x.id,n⟩ (φ ⟨x.id,n⟩)=true:=by
 have hp:=EH (Fc (v.id x hx).1).1
 obtain⟨i,hi,k,hk,rfl⟩:=hp.split hn
 obtain⟨z,hz,j,hal⟩:=h.to x hx i hi
 obtain⟨_,hj,hc,hpr⟩:=hal.pair
 obtain⟨p1,_,p3,_⟩:=hpr k hk
 have hk':k < FH z.patch.changes[j]:=by omega
 rw[J7 hi hk,J7 hj hk']at p1
 have f1:=v.find hx hi hk
 have f2:=w.find hz hj hk'
 rw[p1]at f2
 have hd:=(h.named v w).dead v.late w.late (v.mem_seq.2 ⟨x,hx,i,hi,k,hk,rfl⟩)
 rw[J7 hi hk]at hd
 unfold Y0
 rw[f1]
 dsimp only
 rw[f2]
 dsimp only
 rw[p3,EK,AD]
 unfold OW
 rw[f1,f2]
 simp only[dI,EK,decide_eq_decide]
 exact not_congr hd
end Go.Proofs
