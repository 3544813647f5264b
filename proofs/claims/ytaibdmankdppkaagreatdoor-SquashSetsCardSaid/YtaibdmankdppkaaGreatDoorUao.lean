/- Contracts of the program: the atoms of a patch with its identity. -/
import Derived.Test.YtaibdmankdppkaaGreatDoorUan
import Derived.Test.YtaibdmankdppkaaGreatDoorUah
import Derived.Test.YtaibdmankdppkaaGreatDoorUaj
import Derived.Test.YtaibdmankdppkaaGreatDoorUam
import Derived.Test.YtaibdmankdppkaaGreatDoorUad
set_option linter.unusedSimpArgs false
set_option linter.unusedVariables false
set_option maxHeartbeats 8000000
namespace Go.Proofs
open Go Go.Q
attribute [local irreducible] Eb AV Ga BG Fu
instance yf (x:Ident) (d:Dig):C6 Tryz.prog 252 [.agg (eIdent x),.pt (eDig d) 0] (.agg (eIdent (E9 x d))):=⟨by
 refine Av Tryz.func252 Tryz.ntmps252 rfl (rs:= [.cell 3 65]) rfl rfl fun hb LF=>?_
 refine sF fun b2=>?_
 refine Bw fun b3=>?_
 refine wf ?_
 refine Aq (fun hp=>?_) (fun hp=>?_)
 ·have h0:x.patch=Dig.zero:=by simpa using hp
  refine wf ?_
  refine A7 (fun h=>?_) (fun h=>?_)
  ·refine wf ?_
   refine Fp rfl (.of_eq ?_)
   rw[E9,if_pos ⟨h0,h⟩]
  ·refine wf ?_
   refine Fp rfl (.of_eq ?_)
   rw[E9,if_neg (fun h'=>h h'.2)]
 ·have h0: ¬x.patch=Dig.zero:=by simpa using hp
  refine wf ?_
  refine Fp rfl (.of_eq ?_)
  rw[E9,if_neg (fun h'=>h0 h'.1)]⟩
def iJ (d:Dig) (a:Atm):Atm:={ a with id:=E9 a.id d }
def pC (d:Dig) (a:Atm):Atm:=if a.kind≠7 then { a with file:=E9 a.file d }else a
def pB (d:Dig) (a:Atm):Atm:=if a.kind=2 then { a with parent:=E9 a.parent d }else a
def pA (d:Dig) (a:Atm):Atm:=if a.kind=6 then { a with src:=E9 a.src d,dst:=E9 a.dst d }else a
def vY (d:Dig) (a:Atm):Atm:={ a with over:=sortI (a.over.map fun y=>E9 y d) }
def fP (d:Dig) (a:Atm):Atm:=vY d (pA d (pB d (pC d (iJ d a))))
def JH (p:Pat):List Atm × Int:=if(Kx p).2.2≠0 then([],(Kx p).2.2)else if(Ei p).2≠0 then([],(Ei p).2)else((Kx p).1.map (fP (Ei p).1),0)
theorem aA (p:Pat) (hs:E6 p=false):C6 Tryz.prog 201 [.agg (Bh p)] (.tuple [.slice ((JH p).1.map eAtm) .ro,.raw (.int .i64 (JH p).2)]):=⟨by
 have i0:Aw (E6 p=false):=⟨hs⟩
 refine Av Tryz.func201 Tryz.ntmps201 rfl (rs:= [.tmp 2,.tmp 3]) rfl rfl fun hb LF=>?_
 repeat(refine DP ?_)
 refine CC (by kernel_rfl) ?_
 refine wo ?_
 refine AE ?_
 repeat(refine DP ?_)
 refine CC (by kernel_rfl) ?_
 refine YY (by rfl) (hl:=(by infer_instance)) ?_
 refine CK (xs:= [.tmp 15]) [] LF (f:=81) (cs:= []) (Bx _) rfl rfl (.refl _) _ (Zt p hs) fun r L' ⟨x,y,e,hor⟩=>?_
 subst e
 refine wf ?_
 refine wf ?_
 rcases hor with ⟨hne,rfl⟩|⟨he0,v,rfl,hrow,hll⟩
 ·refine AR (fun h=>?_) (fun h=>absurd h hne)
  refine wf ?_
  refine H2 ?_
  rw[JH,if_pos hne]
  exact .tuple2 (.ros rfl) (.refl _)
 refine AR (fun h=>absurd he0 h) (fun h=>?_)
 refine wf ?_
 refine Bw fun b7=>?_
 refine wo ?_
 refine AE ?_
 refine Au 7 ?_
 refine wf ?_
 refine AR (fun h2=>?_) (fun h2=>?_)
 ·refine Mx (fun i=> .inl rfl) (DE L' LF) ?_
  refine wf ?_
  refine H2 ?_
  rw[JH,if_neg (by simp[he0]),if_pos h2]
  exact .tuple2 (.ros rfl) (.refl _)
 have e1:JH p=((Kx p).1.map (fP (Ei p).1),0):=by rw[JH,if_neg (by simp[he0]),if_neg (by simpa using h2)]
 rw[e1]
 have hov: ∀ a∈(Kx p).1,a.over.length≤40:=fun a ha=>by
  unfold Kx at ha
  split at ha
  ·cases ha
  ·split at ha
   ·cases ha
   ·exact(EB hs).2 a ha
 generalize (Kx p).1=l at hrow hll hov ⊢
 generalize (Ei p).1=g
 obtain⟨⟨o,cc,ev⟩,_⟩:=hrow.slice
 rw[AU]at ev
 subst ev
 refine wf ?_
 refine Ia rfl ?_
 refine wf ?_
 refine AZ (σ:=Nat × List Res) (fun k=>k.1≤l.length∧GM 125 172 (.slice o l.length cc) (((l.take k.1).map (fP g)++l.drop k.1).map eAtm) k.2) (fun k=>l.length - k.1) (fun k=> [(4,.raw (.slice o l.length cc)),(8,.clo 252 [.pt (eDig g) 0]),(32,.raw (.slice o l.length cc)),(33,.raw (.int .i64 l.length)),(34,.raw (.int .i64 k.1))]) (fun k=>k.2++LF) (0,_) ⟨by simp,by simpa using hrow⟩ ⟨rfl,rfl,rfl,rfl,rfl⟩ (.refl _) ?_
 rintro⟨k,R⟩ ⟨hk,hR⟩
 dsimp only at hk hR ⊢
 refine wf ?_
 refine A7 (fun hc=>?_) (fun hc=>?_)
 ·have hlt:k < l.length:=by omega
  obtain⟨xs,hxs⟩: ∃ xs,xs=((l.take k).map (fP g)++l.drop k).map eAtm:=⟨_,rfl⟩
  rw[←hxs]at hR
  have hlk:xs.length=l.length:=by rw[hxs];simp;omega
  have hel:xs[k]'(by omega)=eAtm l[k]:=by
   subst hxs
   rw[B4,BW (by simp;omega),GF]
   congr 2
   simp;omega
  obtain⟨r,rest,rfl,rfl,hn,hcl,hsz,hcc⟩:=hR.inv (by omega)
  have isub:Q4 (xs.flatten++rest) (0+k*172) 172 (eAtm l[k]):=by
   rw[←hel];exact OD hsz (by omega)
  refine wf ?_
  refine Dh (k:=k) rfl rfl hlt ?_
  refine wf ?_
  refine Bw fun b10=>?_
  refine wf ?_
  refine Hp True [(4,.raw (.slice (some ⟨r,0,none⟩) l.length cc)),(8,.clo 252 [.pt (eDig g) 0]),(9,.raw (.int .i64 k)),(10,.raw (.pointer (some ⟨b10,0,none⟩))),(32,.raw (.slice (some ⟨r,0,none⟩) l.length cc)),(33,.raw (.int .i64 l.length)),(34,.raw (.int .i64 k))] (.box b10 125 (eAtm (pC g (iJ g l[k]))):: .box r 125 (xs.flatten++rest)::LF) ?_ fun _=>?_
  ·refine AR (fun h=>?_) (fun h=>?_)
   ·refine wf ?_
    rw[show pC g (iJ g l[k])= { iJ g l[k]with file:=E9 l[k].file g } by rw[pC,if_pos (show(iJ g l[k]).kind≠7 from h)];rfl]
    exact⟨trivial,⟨rfl,rfl,rfl,rfl,rfl,rfl,rfl⟩,.refl _⟩
   ·refine wf ?_
    rw[show pC g (iJ g l[k])=iJ g l[k] by rw[pC,if_neg (show ¬(iJ g l[k]).kind≠7 from fun h'=>h' h)]]
    exact⟨trivial,⟨rfl,rfl,rfl,rfl,rfl,rfl,rfl⟩,.refl _⟩
  have o2:(pC g (iJ g l[k])).over.length≤40:=by
   have h:=hov _ (AG hlt)
   unfold pC;split<;>exact h
  generalize hg2:pC g (iJ g l[k])=a2 at o2 ⊢
  refine wf ?_
  refine Hp True [(4,.raw (.slice (some ⟨r,0,none⟩) l.length cc)),(8,.clo 252 [.pt (eDig g) 0]),(9,.raw (.int .i64 k)),(10,.raw (.pointer (some ⟨b10,0,none⟩))),(32,.raw (.slice (some ⟨r,0,none⟩) l.length cc)),(33,.raw (.int .i64 l.length)),(34,.raw (.int .i64 k))] (.box b10 125 (eAtm (pB g a2)):: .box r 125 (xs.flatten++rest)::LF) ?_ fun _=>?_
  ·refine A7 (fun h=>?_) (fun h=>?_)
   ·refine wf ?_
    rw[show pB g a2= { a2 with parent:=E9 a2.parent g } by rw[pB,if_pos h]]
    exact⟨trivial,⟨rfl,rfl,rfl,rfl,rfl,rfl,rfl⟩,.refl _⟩
   ·refine wf ?_
    rw[show pB g a2=a2 by rw[pB,if_neg h]]
    exact⟨trivial,⟨rfl,rfl,rfl,rfl,rfl,rfl,rfl⟩,.refl _⟩
  have o3:(pB g a2).over.length≤40:=by unfold pB;split<;>exact o2
  generalize hg3:pB g a2=a3 at o3 ⊢
  refine wf ?_
  refine Hp True [(4,.raw (.slice (some ⟨r,0,none⟩) l.length cc)),(8,.clo 252 [.pt (eDig g) 0]),(9,.raw (.int .i64 k)),(10,.raw (.pointer (some ⟨b10,0,none⟩))),(32,.raw (.slice (some ⟨r,0,none⟩) l.length cc)),(33,.raw (.int .i64 l.length)),(34,.raw (.int .i64 k))] (.box b10 125 (eAtm (pA g a3)):: .box r 125 (xs.flatten++rest)::LF) ?_ fun _=>?_
  ·refine A7 (fun h=>?_) (fun h=>?_)
   ·rw[show pA g a3= { a3 with src:=E9 a3.src g,dst:=E9 a3.dst g } by rw[pA,if_pos h]]
    refine wn ?_
    refine GP [2,6,9,11] (by decide+kernel) ?_
    refine El 0 rfl (by decide+kernel) rfl (fun L'=>FR (N:=97) rfl rfl (by refine wo ?_;refine AE ?_;exact⟨Cu _ _ _,rfl⟩)) ?_
    refine El 1 rfl (by decide+kernel) rfl (fun L'=>FR (N:=97) rfl rfl (by refine wo ?_;refine AE ?_;exact⟨Cu _ _ _,rfl⟩)) ?_
    refine El 4 rfl (by decide+kernel) rfl (fun L'=>FR (N:=97) rfl rfl (by refine wo ?_;refine AE ?_;exact⟨Cu _ _ _,rfl⟩)) ?_
    refine El 5 rfl (by decide+kernel) rfl (fun L'=>FR (N:=97) rfl rfl (by refine wo ?_;refine AE ?_;exact⟨Cu _ _ _,rfl⟩)) ?_
    refine C4 (fuel:=7) [2,6] (by decide+kernel) (by simp) fun i hi=>?_
    simp only[AF,Aa,or_false]at hi
    rcases hi with rfl|rfl
    ·refine⟨_,rfl,?_⟩
     refine wf ?_
     refine El 3 rfl (by decide+kernel) rfl (fun L'=>FR (N:=97) rfl rfl (by refine wo ?_;refine AE ?_;exact⟨Cu _ _ _,rfl⟩)) ?_
     refine C4 (fuel:=5) [6] (by decide+kernel) (by simp) fun i hi=>?_
     simp only[AF,Aa,or_false]at hi
     subst hi
     refine⟨_,rfl,?_⟩
     refine wf ?_
     refine El 7 rfl (by decide+kernel) rfl (fun L'=>FR (N:=97) rfl rfl (by refine wo ?_;refine AE ?_;exact⟨Cu _ _ _,rfl⟩)) ?_
     refine El 8 rfl (by decide+kernel) rfl (fun L'=>FR (N:=97) rfl rfl (by refine wo ?_;refine AE ?_;exact⟨Cu _ _ _,rfl⟩)) ?_
     refine C4 (fuel:=2) [9] (by decide+kernel) (by simp) fun i hi=>?_
     simp only[AF,Aa,or_false]at hi
     subst hi
     refine⟨_,rfl,?_⟩
     refine wf ?_
     refine El 10 rfl (by decide+kernel) rfl (fun L'=>FR (N:=97) rfl rfl (by refine wo ?_;refine AE ?_;exact⟨Cu _ _ _,rfl⟩)) ?_
     refine C4 (fuel:=0) [11] (by decide+kernel) (by simp) fun i hi=>?_
     simp only[AF,Aa,or_false]at hi
     subst hi
     refine⟨_,rfl,?_⟩
     refine wf ?_
     refine CR (by decide+kernel) ?_
     refine wf ?_
     exact⟨trivial,⟨rfl,rfl,rfl,rfl,rfl,rfl,rfl⟩,.refl _⟩
    ·refine⟨_,rfl,?_⟩
     refine wf ?_
     refine C4 (fuel:=6) [2] (by decide+kernel) (by simp) fun i hi=>?_
     simp only[AF,Aa,or_false]at hi
     subst hi
     refine⟨_,rfl,?_⟩
     refine wf ?_
     refine El 3 rfl (by decide+kernel) rfl (fun L'=>FR (N:=97) rfl rfl (by refine wo ?_;refine AE ?_;exact⟨Cu _ _ _,rfl⟩)) ?_
     refine El 7 rfl (by decide+kernel) rfl (fun L'=>FR (N:=97) rfl rfl (by refine wo ?_;refine AE ?_;exact⟨Cu _ _ _,rfl⟩)) ?_
     refine El 8 rfl (by decide+kernel) rfl (fun L'=>FR (N:=97) rfl rfl (by refine wo ?_;refine AE ?_;exact⟨Cu _ _ _,rfl⟩)) ?_
     refine C4 (fuel:=2) [9] (by decide+kernel) (by simp) fun i hi=>?_
     simp only[AF,Aa,or_false]at hi
     subst hi
     refine⟨_,rfl,?_⟩
     refine wf ?_
     refine El 10 rfl (by decide+kernel) rfl (fun L'=>FR (N:=97) rfl rfl (by refine wo ?_;refine AE ?_;exact⟨Cu _ _ _,rfl⟩)) ?_
     refine C4 (fuel:=0) [11] (by decide+kernel) (by simp) fun i hi=>?_
     simp only[AF,Aa,or_false]at hi
     subst hi
     refine⟨_,rfl,?_⟩
     refine wf ?_
     refine CR (by decide+kernel) ?_
     refine wf ?_
     exact⟨trivial,⟨rfl,rfl,rfl,rfl,rfl,rfl,rfl⟩,.refl _⟩
   ·refine wf ?_
    rw[show pA g a3=a3 by rw[pA,if_neg h]]
    exact⟨trivial,⟨rfl,rfl,rfl,rfl,rfl,rfl,rfl⟩,.refl _⟩
  have o4:(pA g a3).over.length≤40:=by unfold pA;split<;>exact o3
  generalize hg4:pA g a3=a4 at o4 ⊢
  repeat(refine DP ?_)
  refine CC (by kernel_rfl) ?_
  refine Lr ?_
  refine AE ?_
  rw[show Env.ev _ (Operand.const (Value.slice none 0 0))= .raw (.slice none 0 0) from rfl]
  refine wf ?_
  refine AZ (σ:=Nat × Value × List Res) (fun j=>j.1≤a4.over.length∧py j.2.1 ((a4.over.take j.1).map fun y=>E9 y g) j.2.2) (fun j=>a4.over.length - j.1) (fun j=> [(4,.raw (.slice (some ⟨r,0,none⟩) l.length cc)),(8,.clo 252 [.pt (eDig g) 0]),(9,.raw (.int .i64 k)),(10,.raw (.pointer (some ⟨b10,0,none⟩))),(11,.raw j.2.1),(32,.raw (.slice (some ⟨r,0,none⟩) l.length cc)),(33,.raw (.int .i64 l.length)),(34,.raw (.int .i64 k)),(74,.slice (a4.over.map eIdent) .ro),(75,.raw (.int .i64 a4.over.length)),(76,.raw (.int .i64 j.1))]) (fun j=>j.2.2++(.box b10 125 (eAtm a4):: .box r 125 (xs.flatten++rest)::LF)) (0,.slice none 0 0,[]) ⟨by simp,.nil none (by simp)⟩ ⟨rfl,rfl,rfl,rfl,rfl,rfl,rfl,rfl,rfl,rfl,rfl⟩ (.refl _) ?_
  rintro⟨j,v2,R2⟩ ⟨hj,hI⟩
  dsimp only at hj hI ⊢
  refine wf ?_
  refine A7 (fun hc2=>?_) (fun hc2=>?_)
  ·have hjl:j < a4.over.length:=by omega
   refine wz fun b13=>?_
   refine Au 13 ?_
   refine wf ?_
   refine Ib (f:=eIdent) (m:= [E9 a4.over[j] g]) (R:=R2) (LF:= .box b10 125 (eAtm a4):: .box r 125 (xs.flatten++rest)::LF) (fun R'=>R'++(.box b10 125 (eAtm a4):: .box r 125 (xs.flatten++rest)::LF)) rfl rfl hI (.refl _) (fun R'=> .refl _) (by simp only[AU,Ab,AN,Af];omega) (by simp only[AU,Ab,AN,Af];omega) fun v3 R3 h3=>?_
   refine wf ?_
   refine wf ?_
   refine⟨(j+1,v3,R3),⟨by dsimp only;omega,?_⟩,by dsimp only;omega,⟨rfl,rfl,rfl,rfl,rfl,rfl,rfl,rfl,rfl,rfl,rfl⟩,.refl _⟩
   dsimp only
   rw[A6 hjl,Al]
   exact h3
  ·rw[AA (by omega)]at hI
   refine wf ?_
   refine CK (xs:= [.tmp 87,.func 159]) R2 (.box b10 125 (eAtm a4):: .box r 125 (xs.flatten++rest)::LF) (f:=158) (cs:= []) (Bx _) rfl rfl (.refl _) _ (YI _ _ R2 hI (by simp only[AU];omega)) fun r' L3 ⟨v3,e3,h3⟩=>?_
   subst e3
   refine wo ?_
   refine AE ?_
   repeat(refine DP ?_)
   have hms:(sortI (a4.over.map fun y=>E9 y g)).length≤maxN∧(sortI (a4.over.map fun y=>E9 y g)).length*33≤maxN:=by
    have h1:maxN=140737488355328:=rfl
    have h2:(sortI (a4.over.map fun y=>E9 y g)).length=a4.over.length:=by rw[sortI,DZ,AU]
    omega
   refine Gu (f:=eIdent) 11 h3 hms (.refl _) rfl ?_
   refine wf ?_
   have iput:FA (xs.flatten++rest) (0+k*172) (eAtm { a4 with over:=sortI (a4.over.map fun y=>E9 y g) }) ((xs.set k (eAtm (vY g a4))).flatten++rest):=UB hsz (by omega) (by simp)
   refine Dh (k:=k) rfl rfl hlt ?_
   refine wf ?_
   have hset:xs.set k (eAtm (vY g a4))=((l.take (k+1)).map (fP g)++l.drop (k+1)).map eAtm:=by
    have hf:vY g a4=fP g l[k]:=by rw[fP,hg2,hg3,hg4]
    rw[hf,hxs]
    refine E3 (by simp;omega) fun i k1 k2=>?_
    rw[SZ]
    split
    ·rename_i e
     subst e
     rw[B4,BA (by simp;omega)]
     simp
    ·rename_i e
     rw[B4,B4]
     congr 1
     rcases BJ i k with h'|h'
     ·rw[BA (by simp;omega),BA (by simp;omega)]
      simp
     ·rw[BW (by simp;omega),BW (by simp;omega)]
      simp only[GF,AU,Ab]
      congr 1
      omega
   have hnew: ∀ e∈xs.set k (eAtm (vY g a4)),e.length=172:=fun e he=>by
    rw[hset]at he
    obtain⟨a,_,rfl⟩:=AQ.1 he
    simp
   refine⟨(k+1,[.box r 125 ((xs.set k (eAtm (vY g a4))).flatten++rest)]),⟨by dsimp only;omega,?_⟩,by dsimp only;omega,⟨rfl,rfl,rfl,rfl,rfl⟩,.cons _ (.refl _)⟩
   dsimp only
   rw[←hset]
   refine .row (by rw[Ct,hlk]) hcl hnew ?_
   have h1:=DR hnew
   have h2:=DR hsz
   rw[Ct]at h1
   omega
 ·have hkk:k=l.length:=by omega
  subst hkk
  rw[EI,mC,BQ]at hR
  have hmx:((l.map (fP g)).map eAtm).length≤maxN∧((l.map (fP g)).map eAtm).length*172≤maxN:=by
   have:maxN=140737488355328:=rfl
   simp only[AU];omega
  refine Jc 4 hR hmx (.refl _) rfl ?_
  refine wf ?_
  exact H2 (.tuple2 (.ros rfl) (.refl _))⟩
end Go.Proofs
namespace Go.Proofs
open Go Go.Q
attribute [local irreducible] Eb AV BG Fu
instance vh (p:Pat) [hs:Aw (E6 p=false)]:C6 Tryz.prog 145 [.agg (Bh p)] (.tuple [.slice ((JH p).1.map eAtm) .ro,.raw (.int .i64 (JH p).2)]):=⟨by
 have i1:C6 Tryz.prog 201 [.agg (Bh p)] (.tuple [.slice ((JH p).1.map eAtm) .ro,.raw (.int .i64 (JH p).2)]):=aA p hs.out
 refine Av Tryz.func145 Tryz.ntmps145 rfl (rs:= [.tmp 2,.tmp 3]) rfl rfl fun hb LF=>?_
 refine wf ?_
 exact H2 (.refl _)⟩
instance zE:Ck Tryz.prog 170 [.slice [] .ro,.raw (.map none)]:=Ck.of (us:= [PV.slice [] .ro,.raw (.map none)].map zv) (by kernel_rfl) (by kernel_rfl)
def Ur (s:List Sto) (m:Nat):List PV:= [.slice (s.map eSto) .ro,.raw (.map (some m))]
def Gd (m:Nat) (known:List (Dig × List Atm)):List Res:= [.map m (BZ kDig (K1 eAtm) known)]
theorem O7 (s:List Sto) (t:C9):BG Tryz.prog 75 [.slice (s.map eSto) t] [] (fun r L'=> ∃ m,r= .pt (Ur s m) 0∧L'=Gd m []):=by
 refine C7 Tryz.func75 rfl Tryz.ntmps75 (rs:= [.tmp 2]) rfl rfl fun hb LF=>?_
 refine wf ?_
 refine Oc fun m=>?_
 refine wf ?_
 exact⟨trivial,_,Gd m [],.cons (.tmp 2) .nil,.refl _,m,rfl,rfl⟩
theorem km (s:List Sto) (d:Dig):(Fo (fun x=>decide (x.id=d)) s < 0→getS s d=none)∧(∀ k:Nat,Fo (fun x=>decide (x.id=d)) s=(k:Int)→ ∃ h:k < s.length,getS s d=some s[k].patch):=by
 have key: ∀ l:List Sto,(l.any (fun x=>decide (x.id=d))=false→getS l d=none)∧(l.any (fun x=>decide (x.id=d))=true→ ∃ h:l.findIdx (fun x=>decide (x.id=d)) < l.length,getS l d=some (l[l.findIdx fun x=>decide (x.id=d)]).patch):=fun l=>by
  induction l with
  |nil=>exact⟨fun _=>rfl,fun h=>by cases h⟩
  |cons x l ih=>
   by_cases hx:x.id=d
   ·refine⟨fun h=>by simp[hx]at h,fun _=>?_⟩
    have e:(x::l).findIdx (fun x=>decide (x.id=d))=0:=by simp[Iy,hx]
    refine⟨by rw[e];simp,?_⟩
    simp only[e,BK]
    rw[getS,if_pos hx]
   ·have eg:getS (x::l) d=getS l d:=by rw[getS,if_neg hx]
    refine⟨fun h=>by rw[eg];exact ih.1 (by simpa [hx]using h),fun h=>?_⟩
    obtain⟨h1,h2⟩:=ih.2 (by simpa [hx]using h)
    have e:(x::l).findIdx (fun x=>decide (x.id=d))=l.findIdx (fun x=>decide (x.id=d))+1:=by simp[Iy,hx]
    refine⟨by rw[e,AN];omega,?_⟩
    simp only[e,DK]
    rw[eg,h2]
 obtain⟨k1,k2⟩:=key s
 refine⟨fun h=>k1 ?_,fun k h=>?_⟩
 ·unfold Fo at h
  by_cases ha:s.any (fun x=>decide (x.id=d))=true
  ·rw[if_pos ha]at h;omega
  ·simpa using ha
 ·unfold Fo at h
  by_cases ha:s.any (fun x=>decide (x.id=d))=true
  ·rw[if_pos ha]at h
   have hk:s.findIdx (fun x=>decide (x.id=d))=k:=by omega
   obtain⟨h1,h2⟩:=k2 ha
   subst hk
   exact⟨h1,h2⟩
  ·rw[if_neg ha]at h;omega
instance ye (x:Sto) (d:Dig):C6 Tryz.prog 52 [.agg (eSto x),.pt (eDig d) 0] (.raw (.bool (decide (x.id=d)))):=⟨by
 refine Av Tryz.func52 Tryz.ntmps52 rfl (rs:= [.tmp 3]) rfl rfl fun hb LF=>?_
 refine wf ?_
 exact Ax (.refl _)⟩
instance P1 (s:List Sto) (t:C9) (d:Dig):C6 Tryz.prog 17 [.slice (s.map eSto) t,.agg (eDig d)] (.tuple [.agg (Bh ((getS s d).getD Pat.zero)),.raw (.bool (getS s d).isSome)]):=⟨by
 have i1: ∀ t,C6 Tryz.prog 51 [.slice (s.map eSto) t,.clo 52 [.pt (eDig d) 0]] (.raw (.int .i64 (Fo (fun x=>decide (x.id=d)) s))):=fun t=>Vp _ _ _ s t
 obtain⟨g1,g2⟩:=km s d
 refine Av Tryz.func17 Tryz.ntmps17 rfl (rs:= [.cell 4 40,.tmp 5]) rfl rfl fun hb LF=>?_
 refine wf ?_
 refine Bw fun b4=>?_
 refine wf ?_
 refine A7 (fun h=>?_) (fun h=>?_)
 ·rw[g1 h]
  rw[Ca,NN]
  refine wf ?_
  exact LN rfl (.refl _)
 ·obtain⟨k,hk⟩: ∃ k:Nat,Fo (fun x=>decide (x.id=d)) s=(k:Int):=⟨(Fo (fun x=>decide (x.id=d)) s).toNat,by omega⟩
  obtain⟨hlt,hg⟩:=g2 k hk
  rw[hk,hg,Option.isSome_some,CA]
  refine wf ?_
  exact LN rfl (.refl _)⟩
def coreA (a:Atm):Atm:={ a with over:= [] }
theorem PS: ∀ (l:List Chg) (own:List Atm),NW own→NW (DC l own).1
 | [],_,h=>h
 |c::l,own,h=>by
  unfold DC
  split
  ·exact fun i hi=>absurd hi (by simp)
  ·split
   ·exact fun i hi=>absurd hi (by simp)
   ·exact PS l _ (Pr c h)
theorem Zb (p:Pat):NW (CB p).1:=by
 have h0:NW ([]:List Atm):=fun i hi=>absurd hi (by simp)
 unfold CB
 repeat' split
 all_goals first|exact h0|exact PS _ _ h0
theorem ox (d:Dig) {a:Atm} (h1:a.id.patch=Dig.zero) (h2:0≤a.id.n):coreA (fP d a)=coreA (Vc d a):=by
 have e:iJ d a=Mo d a:=by
  unfold iJ Mo E9;rw[if_pos ⟨h1,h2⟩]
 rw[fP,Vc,e]
 rfl
theorem X6 (p:Pat):(Kx p).2.2=(Ei p).2:=by
 rw[X7,Ei]
 by_cases h:(CN p).2≠0
 ·rw[if_pos h]
 ·rw[if_neg h];simpa using h
theorem X5 {p:Pat} (h:(Kx p).2.2=0):(Kx p).1=(CB p).1∧(CB p).2=0:=by
 unfold Kx at h ⊢
 by_cases g1:(CB p).2≠0
 ·rw[if_pos g1]at h;exact absurd h g1
 by_cases g2:65536 < ((Na p).length:Int)
 ·rw[if_neg g1,if_pos g2]at h;exact absurd h (by decide)
 rw[if_neg g1,if_neg g2]
 exact⟨rfl,by simpa using g1⟩
theorem cP (p:Pat):(JH p).1.map coreA=(JA p).1.map coreA:=by
 unfold JH JA
 rw[X6]
 by_cases h:(Ei p).2≠0
 ·rw[if_pos h,if_pos h]
 ·rw[if_neg h,if_neg h,if_neg h]
  have h3:(Kx p).2.2=0:=by rw[X6];simpa using h
  dsimp only
  rw[(X5 h3).1,CU,CU]
  refine Cc fun a ha=>?_
  obtain⟨i,hi,rfl⟩:=Ai.1 ha
  have e:=Zb p i hi
  exact ox _ (by rw[e]) (by rw[e];exact Int.natCast_nonneg _)
def JW (s:List Sto) (d:Dig):List Atm:=(JH ((getS s d).getD Pat.zero)).1
def Ir (s:List Sto) (x:Ident):Option Atm:=if x.n < 0∨((JW s x.patch).length:Int)≤x.n then none else(JW s x.patch)[x.n.toNat]?
theorem gi (s:List Sto) (x:Ident):(Ir s x).map coreA=(IM s x).map coreA:=by
 have e:=cP ((getS s x.patch).getD Pat.zero)
 have el:=congrArg List.length e
 rw[AU,AU]at el
 unfold Ir IM JW Ig
 rw[el]
 by_cases h:x.n < 0∨((JA ((getS s x.patch).getD Pat.zero)).1.length:Int)≤x.n
 ·rw[if_pos h,if_pos h]
 ·rw[if_neg h,if_neg h,←HA,←HA,e]
theorem bG {f:Atm→Bool} (hf: ∀ a,f a=f (coreA a)) {o p:Option Atm} (e:o.map coreA=p.map coreA):Ea o f=Ea p f:=by
 cases o with
 |none=>cases p with
  |none=>rfl
  |some b=>cases e
 |some a=>cases p with
  |none=>cases e
  |some b=>
   have e2:coreA a=coreA b:=by simpa using e
   unfold Ea
   rw[CA,CA,hf a,hf b,e2];rfl
theorem Og (s:List Sto) (x:Ident) {f:Atm→Bool} (hf: ∀ a,f a=f (coreA a)):Ea (Ir s x) f=Ea (IM s x) f:=bG hf (gi s x)
def PQ (c:Chg) (g:Ident) (r:Rfc):Atm→Bool:=
 if r.f=187 then vX c.kind else if r.f=189 then oA else if r.f=190 then vE r.id c.file g else wG (iG c.kind) g
theorem Tn {l:List Rfc} {r x:Rfc} (h:r∈Je l x):r∈l∨r=x:=by
 unfold Je at h
 split at h
 ·exact .inl h
 ·simpa using h
theorem Re {α:Type} {f:α→Rfc} {r:Rfc}: ∀ {o:List α} {l:List Rfc},r∈o.foldl (fun l x=>Je l (f x)) l→r∈l∨ ∃ x∈o,r=f x
 | [],_,h=> .inl h
 |y::o,l,h=>by
  rw[Br]at h
  rcases Re (o:=o) h with h|⟨x,hx,e⟩
  ·rcases Tn h with h|h
   ·exact .inl h
   ·exact .inr ⟨y,by simp,h⟩
  ·exact .inr ⟨x,by simp[hx],e⟩
theorem gQ (id:Dig) (c:Chg) (r:Rfc) (h:r∈JY id c):y8 Tryz.prog r (PQ c (DX id c) r):=by
 unfold JY su at h
 rcases Re h with h|⟨x,_,rfl⟩
 ·unfold iB at h
  have key:r∈bB c (Y3 c)∨ ∃ x:Ident,r=OE (DX id c) c x:=by
   split at h
   ·rcases Re h with h|⟨x,_,e⟩
    ·exact .inl h
    ·exact .inr ⟨x,e⟩
   ·exact .inl h
  rcases key with h|⟨x,rfl⟩
  ·unfold bB at h
   have key:r∈Y3 c∨r=⟨c.parent,189,[]⟩:=by
    split at h
    ·exact Tn h
    ·exact .inl h
   rcases key with h|rfl
   ·unfold Y3 at h
    have key:r=⟨c.file,187,[.pt (eChg c) 0]⟩:=by
     split at h
     ·rcases Tn h with h|h
      ·cases h
      ·exact h
     ·cases h
    subst key
    exact⟨inferInstance,fun a=>(sX c a).out⟩
   ·exact⟨inferInstance,fun a=>(sW a).out⟩
  ·exact⟨(inferInstance:B1 Tryz.prog 190),fun a=>(sV x (DX id c) c a).out⟩
 ·exact⟨(inferInstance:B1 Tryz.prog 192),fun a=>(sU (iG c.kind) (DX id c) a).out⟩
def HZ (s:List Sto) (c:Chg) (g:Ident) (r:Rfc):Int:=Ea (Ir s r.id) (PQ c g r)
def OJ (s:List Sto) (id:Dig) (c:Chg):Int:=Ay (HZ s c (DX id c)) (JY id c)
def RB (s:List Sto) (p:Pat) (id:Dig):Int:=Ay (OJ s id) p.changes
theorem Lh (f:Rfc→Int) (l:List Rfc) (r:Rfc):Ay f (Je l r)=if Ay f l≠0 then Ay f l else if r.id.patch=Dig.zero then 0 else f r:=by
 unfold Je
 by_cases h:r.id.patch=Dig.zero
 ·rw[if_pos h,if_pos h]
  by_cases h2:Ay f l=0
  ·rw[if_neg (by simp[h2]),h2]
  ·rw[if_pos h2]
 ·rw[if_neg h,if_neg h,Gp]
  have:Ay f [r]=f r:=by
   rw[Ay,Ay];split
   ·rename_i h;exact h.symm
   ·rfl
  rw[this]
theorem Im {α:Type} (f:Rfc→Int) (h:α→Rfc): ∀ (o:List α) (l:List Rfc),Ay f (o.foldl (fun l x=>Je l (h x)) l)=if Ay f l≠0 then Ay f l else Ay (fun x=>if(h x).id.patch=Dig.zero then 0 else f (h x)) o
 | [],l=>by
   by_cases h2:Ay f l=0
   ·simp[h2,Ay]
   ·simp[h2]
 |x::o,l=>by
  rw[Br,Im f h o,Lh,Ay]
  generalize (if(h x).id.patch=Dig.zero then 0 else f (h x))=v
  by_cases h2:Ay f l=0<;>by_cases h3:v=0<;>simp[h2,h3]
theorem S7 {c:Chg} (hf:C3 c=0):(¬(2≤c.kind∧c.kind≤6)→c.file=Ident.zero)∧(c.kind≠2→c.parent=Ident.zero)∧(¬(c.kind=5∨c.kind=6)→c.after=Ident.zero∧c.before=Ident.zero):=by
 have h2:=KH hf
 unfold Fl Hn at h2
 simp only[BP,AB]at h2
 obtain⟨⟨⟨⟨⟨⟨⟨⟨⟨h1,_⟩,h3⟩,_⟩,_⟩,_⟩,h7⟩,h8⟩,_⟩,_⟩:=h2
 refine⟨fun h=>?_,fun h=>?_,fun h=>⟨?_,?_⟩⟩
 ·rwa [if_neg h]at h1
 ·rwa [if_neg h]at h3
 ·rwa [if_neg h]at h7
 ·rwa [if_neg h]at h8
theorem lH (s:List Sto) (id:Dig) {c:Chg} {own:List Atm} (hf:C3 c=0) (hr:FB c own=0):OJ s id c=LH s c id:=by
 have hk:=Jj hf
 obtain⟨z1,z2,z3⟩:=S7 hf
 have hn:2≤c.kind∧c.kind≤6→0≤c.file.n:=fun h=>by
  have h1:K3 c own=0:=by
   by_cases h0:K3 c own=0
   ·exact h0
   ·rw[FB,if_pos h0]at hr;exact absurd hr h0
  rw[K3,if_pos h,Iz]at h1
  by_cases h2:Dp c.file own.length=false
  ·rw[if_pos h2]at h1;omega
  ·have h2:Dp c.file own.length=true:=by simpa using h2
   unfold Dp at h2
   split at h2<;>simp at h2<;>omega
 have hg:2≤c.kind∧c.kind≤6→DX id c=HO c.file id:=fun h=>by
  unfold DX HO
  by_cases h1:c.file.patch=Dig.zero
  ·rw[if_pos h1,if_pos ⟨hn h,h1⟩]
  ·rw[if_neg h1,if_neg (fun h=>h1 h.2)]
 have e1:Ay (HZ s c (DX id c)) (Y3 c)=Jb s c:=by
  unfold Y3 Jb
  by_cases h:c.kind≠1∧c.kind≠7
  ·rw[if_pos h,Lh,if_neg (by simp[Ay])]
   unfold FY
   by_cases h1:c.file.patch=Dig.zero
   ·rw[if_pos h1,if_neg (by simp[h1])]
   ·rw[if_neg h1,if_pos (by simp[h1]),HZ,show PQ c (DX id c) ⟨c.file,187,[.pt (eChg c) 0]⟩=vX c.kind from rfl,Og s c.file (fun a=>rfl)]
    congr 1
    funext a
    unfold vX EU IL
    by_cases h5:c.kind=5∨c.kind=6
    ·rcases h5 with h|h<;>simp[h]
    ·have: ¬c.kind=5∧ ¬c.kind=6:=⟨fun h=>h5 (.inl h),fun h=>h5 (.inr h)⟩
     by_cases h4:c.kind=4<;>simp[this,h4]
  ·rw[if_neg h,z1 (by omega)]
   simp[Ay,FY,Ident.zero]
 have e2: ∀ l,Ay (HZ s c (DX id c)) (bB c l)=if Ay (HZ s c (DX id c)) l≠0 then Ay (HZ s c (DX id c)) l else MB s c:=fun l=>by
  unfold bB MB
  by_cases h:c.kind=2
  ·rw[if_pos h,Lh]
   unfold FY
   by_cases h1:c.parent.patch=Dig.zero
   ·rw[if_pos h1,if_neg (by simp[h1]: ¬(!decide (c.parent.patch=Dig.zero))=true)]
   ·rw[if_neg h1,if_pos (by simp[h1]:(!decide (c.parent.patch=Dig.zero))=true),HZ,show PQ c (DX id c) ⟨c.parent,189,[]⟩=oA from rfl,Og s c.parent (fun a=>rfl)]
    rfl
  ·rw[if_neg h,z2 h,if_neg (by simp[FY,Ident.zero]: ¬FY Ident.zero=true)]
   split
   ·rfl
   ·rename_i h;simpa using h
 have e3:Jb s c=0→ ∀ l,Ay (HZ s c (DX id c)) (iB (DX id c) c l)=if Ay (HZ s c (DX id c)) l≠0 then Ay (HZ s c (DX id c)) l else if H4 s c.after c.file id≠0 then H4 s c.after c.file id else H4 s c.before c.file id:=fun hF l=>by
  unfold iB
  by_cases h:c.kind=5∨c.kind=6
  ·have hx: ∀ x:Ident,(if(OE (DX id c) c x).id.patch=Dig.zero then 0 else HZ s c (DX id c) (OE (DX id c) c x))=H4 s x c.file id:=fun x=>by
    unfold H4 FY
    by_cases h1:x.patch=Dig.zero
    ·rw[if_pos (show(OE (DX id c) c x).id.patch=Dig.zero from h1),if_pos (by simp[h1])]
    ·rw[if_neg (show ¬(OE (DX id c) c x).id.patch=Dig.zero from h1),HZ,show PQ c (DX id c) (OE (DX id c) c x)=vE x c.file (DX id c) from rfl,show(OE (DX id c) c x).id=x from rfl,Og s x (fun a=>rfl)]
     by_cases h2:x=c.file
     ·rw[if_pos (.inr h2)]
      subst h2
      rw[Jb,if_pos (by simp[FY,h1]),Ea]at hF
      by_cases h3:(IM s c.file).isSome=false
      ·rw[if_pos h3]at hF;omega
      ·rw[Ea,if_neg h3,if_neg (by simp[vE])]
     ·rw[if_neg (by simp[h1,h2]),hg (by omega)]
      congr 1
      funext a
      simp[vE,Ja,h2]
   rw[if_pos h,Im,Ay,Ay,Ay,hx,hx]
   by_cases q1:H4 s c.after c.file id=0
   ·rw[if_pos q1,if_neg (by simp[q1]: ¬H4 s c.after c.file id≠0)]
    by_cases q2:H4 s c.before c.file id=0
    ·rw[if_pos q2,q2]
    ·rw[if_neg q2]
   ·rw[if_neg q1,if_pos q1]
  ·obtain⟨za,zb⟩:=z3 h
   have q:H4 s Ident.zero c.file id=0:=by rw[H4,if_pos (.inl (by simp[FY,Ident.zero]))]
   rw[if_neg h,za,zb,q]
   split
   ·rfl
   ·rename_i h;simpa using h
 have e4: ∀ l,Ay (HZ s c (DX id c)) (su (DX id c) c l c.over)=if Ay (HZ s c (DX id c)) l≠0 then Ay (HZ s c (DX id c)) l else Ay (O3 s c id) c.over:=fun l=>by
  unfold su
  rw[Im]
  congr 1
  refine GU fun x hx=>?_
  have h15:c.kind≠1∧c.kind≠5:=⟨fun h=>(by rw[Ji hf (.inl h)]at hx;simp at hx),fun h=>(by rw[Ji hf (.inr h)]at hx;simp at hx)⟩
  unfold O3 FY
  by_cases h1:x.patch=Dig.zero
  ·rw[if_pos (show(Mz (DX id c) c x).id.patch=Dig.zero from h1),if_pos (by simp[h1])]
  ·rw[if_neg (show ¬(Mz (DX id c) c x).id.patch=Dig.zero from h1),if_neg (by simp[h1]),HZ,show PQ c (DX id c) (Mz (DX id c) c x)=wG (iG c.kind) (DX id c) from rfl,show(Mz (DX id c) c x).id=x from rfl,Og s x (fun a=>rfl)]
   congr 1
   funext a
   unfold wG HN TF iG
   by_cases h7:c.kind=7
   ·simp[h7]
   ·have:c.kind=2∨c.kind=3∨c.kind=4∨c.kind=6:=by omega
    rw[if_pos this,if_neg h7,hg (by omega)]
 unfold OJ JY LH
 rw[e4]
 by_cases q0:Jb s c=0
 ·rw[e3 q0,e2,e1,q0]
  by_cases q1:MB s c=0
  ·by_cases q2:H4 s c.after c.file id=0
   ·by_cases q3:H4 s c.before c.file id=0
    ·simp[q1,q2,q3]
    ·simp[q1,q2,q3]
   ·simp[q1,q2]
  ·simp[q1]
 ·have k2:Ay (HZ s c (DX id c)) (bB c (Y3 c))=Jb s c:=by rw[e2,e1,if_pos q0]
  have k3:Ay (HZ s c (DX id c)) (iB (DX id c) c (bB c (Y3 c)))=Jb s c:=by
   unfold iB
   split
   ·rw[Im,k2,if_pos q0]
   ·exact k2
  rw[k3,if_pos q0,if_pos q0]
theorem UR: ∀ {l:List Chg} {own:List Atm},(DC l own).2=0→ ∀ c∈l,C3 c=0∧ ∃ own,FB c own=0
 | [],_,_,c,h=>by cases h
 |x::l,own,h,c,hc=>by
  unfold DC at h
  by_cases h1:C3 x≠0
  ·rw[if_pos h1]at h;exact absurd h h1
  by_cases h2:FB x own≠0
  ·rw[if_neg h1,if_pos h2]at h;exact absurd h h2
  rw[if_neg h1,if_neg h2]at h
  rcases AF.1 hc with rfl|hc
  ·exact⟨by simpa using h1,own,by simpa using h2⟩
  ·exact UR h c hc
theorem Uw {p:Pat} (h:(CB p).2=0): ∀ c∈p.changes,C3 c=0∧ ∃ own,FB c own=0:=by
 have e:J1 p=0:=by
  by_cases h0:J1 p=0
  ·exact h0
  ·rw[IX,if_pos h0]at h;exact absurd h h0
 rw[Mu e]at h
 exact UR h
theorem Y9 (s:List Sto) {p:Pat} (id:Dig) (h:(Ei p).2=0):RB s p id=FX s p id:=by
 have h2:=(X5 (p:=p) (by rw[X6];exact h)).2
 refine GU fun c hc=>?_
 obtain⟨hf,own,hr⟩:=Uw h2 c hc
 exact lH s id hf hr
end Go.Proofs
namespace Go.Proofs
open Go Go.Q
theorem QB {n:Nat} (h:n < 256):(UInt8.ofNat n).toNat=n:=by
 rw[UInt8.toNat_ofNat'];omega
theorem Mr (n:Nat): ∀ c∈Ho n,48≤c.toNat∧c.toNat≤57:=by
 induction n using Nat.strongRecOn with
 |_ n ih=>
  by_cases h:n < 10
  ·rw[IG h]
   intro c hc
   rw[Ae.1 hc,QB (by omega)]
   omega
  ·rw[MA h]
   intro c hc
   rcases Ah.1 hc with hc|hc
   ·exact ih (n / 10) (by omega) c hc
   ·rw[Ae.1 hc,QB (by omega)]
    omega
theorem dW (n:Nat):Ho n≠ []:=by
 by_cases h:n < 10
 ·rw[IG h];simp
 ·rw[MA h];simp
def qN (l:Str):Nat:=l.foldl (fun a c=>10*a+(c.toNat - 48)) 0
theorem Sn (n:Nat):qN (Ho n)=n:=by
 induction n using Nat.strongRecOn with
 |_ n ih=>
  by_cases h:n < 10
  ·rw[IG h]
   show 10*0+((UInt8.ofNat (48+n)).toNat - 48)=n
   rw[QB (by omega)];omega
  ·rw[MA h]
   have e:=ih (n / 10) (by omega)
   unfold qN at e ⊢
   rw[Bk,e]
   show 10*(n / 10)+((UInt8.ofNat (48+n % 10)).toNat - 48)=n
   rw[QB (by omega)];omega
theorem TR {n m:Nat} (h:Ho n=Ho m):n=m:=by rw[←Sn n,h,Sn]
theorem Ve (n:Nat) (l:Str) (r:Str): ¬45::l=Ho n++r:=fun h=>by
 cases hd:Ho n with
 |nil=>exact dW n hd
 |cons c t=>
  rw[hd,B2]at h
  injection h with h1 _
  have:=Mr n c (by rw[hd];simp)
  rw[←h1]at this
  exact absurd this.1 (by decide)
theorem fU {n m:Int} (h:J2 n=J2 m):n=m:=by
 unfold J2 at h
 by_cases h1:n < 0
 ·by_cases h2:m < 0
  ·rw[if_pos h1,if_pos h2]at h
   injection h with _ h
   have:=TR h
   omega
  ·rw[if_pos h1,if_neg h2]at h
   exact absurd (by rw[h,BQ]) (Ve m.toNat _ [])
 ·by_cases h2:m < 0
  ·rw[if_neg h1,if_pos h2]at h
   exact absurd (by rw[←h,BQ]) (Ve n.toNat (Ho (-m).toNat) [])
  ·rw[if_neg h1,if_neg h2]at h
   have:=TR h
   omega
theorem dC: ∀ {a b r s:Str},(∀ c∈a,c.toNat≤57)→(∀ c∈b,c.toNat≤57)→a++58::r=b++58::s→a=b∧r=s
 | [],[],r,s,_,_,h=>⟨rfl,by simpa using h⟩
 | [],y::b,r,s,_,hb,h=>by
   rw[B7,B2]at h
   injection h with h1 _
   have:=hb y (by simp)
   rw[←h1]at this
   exact absurd this (by decide)
 |x::a,[],r,s,ha,_,h=>by
  rw[B7,B2]at h
  injection h with h1 _
  have:=ha x (by simp)
  rw[h1]at this
  exact absurd this (by decide)
 |x::a,y::b,r,s,ha,hb,h=>by
  rw[B2,B2]at h
  injection h with h1 h2
  obtain⟨e1,e2⟩:=dC (fun c hc=>ha c (AL _ hc)) (fun c hc=>hb c (AL _ hc)) h2
  exact⟨by rw[h1,e1],e2⟩
theorem Ox: ∀ {d:Nat} {x:Sx},P4 d x→ ∃ c t,Dr d x=c::t∧c≠41∧(c=40↔x.isList=true)
 |0,_,h=>h.elim
 |d+1,x,_=>by
  cases hl:x.isList with
  |true=>exact⟨40,_,by rw[Dr,if_pos hl],by decide,by simp⟩
  |false=>
   have e:Dr (d+1) x=Ho x.atom.length++58::x.atom:=by rw[Dr,if_neg (by simp[hl])]
   cases hd:Ho x.atom.length with
   |nil=>exact absurd hd (dW _)
   |cons c t=>
    have hc:=Mr x.atom.length c (by rw[hd];simp)
    refine⟨c,t++58::x.atom,by rw[e,hd];rfl,?_,?_⟩
    ·rintro rfl;exact absurd hc.1 (by decide)
    ·constructor
     ·rintro rfl;exact absurd hc.1 (by decide)
     ·intro h';cases h'
theorem Zw {d:Nat} (ih: ∀ {x y:Sx} {r s:Str},P4 d x→P4 d y→Dr d x++r=Dr d y++s→x=y∧r=s): ∀ {l m:List Sx} {r s:Str},(∀ y∈l,P4 d y)→(∀ y∈m,P4 d y)→l.flatMap (Dr d)++41::r=m.flatMap (Dr d)++41::s→l=m∧r=s
 | [],[],r,s,_,_,h=>⟨rfl,by simpa using h⟩
 | [],y::m,r,s,_,hm,h=>by
   obtain⟨c,t,e,h41,_⟩:=Ox (hm y (by simp))
   rw[List.flatMap_nil,B7,DT,e,B2,B2]at h
   injection h with h1 _
   exact absurd h1.symm h41
 |x::l,[],r,s,hl,_,h=>by
  obtain⟨c,t,e,h41,_⟩:=Ox (hl x (by simp))
  rw[List.flatMap_nil,B7,DT,e,B2,B2]at h
  injection h with h1 _
  exact absurd h1 h41
 |x::l,y::m,r,s,hl,hm,h=>by
  rw[DT,DT,AX,AX]at h
  obtain⟨e1,e2⟩:=ih (hl x (by simp)) (hm y (by simp)) h
  obtain⟨e3,e4⟩:=Zw ih (fun z hz=>hl z (AL _ hz)) (fun z hz=>hm z (AL _ hz)) e2
  exact⟨by rw[e1,e3],e4⟩
theorem Zu: ∀ (d:Nat) {x y:Sx} {r s:Str},P4 d x→P4 d y→Dr d x++r=Dr d y++s→x=y∧r=s
 |0,_,_,_,_,h,_,_=>h.elim
 |d+1,x,y,r,s,hx,hy,h=>by
  obtain⟨c1,t1,e1,_,k1⟩:=Ox hx
  obtain⟨c2,t2,e2,_,k2⟩:=Ox hy
  have hc:c1=c2:=by
   rw[e1,e2,B2,B2]at h
   injection h
  subst hc
  have hkind:x.isList=y.isList:=by
   rw[H7];exact k1.symm.trans k2
  clear k1 k2 e1 e2
  obtain⟨b1,a1,l1⟩:=x
  obtain⟨b2,a2,l2⟩:=y
  change b1=b2 at hkind
  subst hkind
  rcases hx with ⟨h1,h2,h3⟩|⟨h1,h2,h3⟩
  ·rcases hy with ⟨_,g2,_⟩|⟨g1,_⟩
   ·change b1=false at h1
    change l1= []at h2
    change l2= []at g2
    subst h1 h2 g2
    have q1:Dr (d+1) (.mk false a1 [])=Ho a1.length++58::a1:=rfl
    have q2:Dr (d+1) (.mk false a2 [])=Ho a2.length++58::a2:=rfl
    rw[q1,q2,AX,AX,B2,B2]at h
    obtain⟨e1,e2⟩:=dC (fun c hc=>(Mr _ c hc).2) (fun c hc=>(Mr _ c hc).2) h
    obtain⟨e3,e4⟩:=List.append_inj e2 (TR e1)
    exact⟨by rw[e3],e4⟩
   ·change b1=false at h1
    change b1=true at g1
    rw[h1]at g1;cases g1
  ·rcases hy with ⟨g1,_⟩|⟨_,g2,g3⟩
   ·change b1=true at h1
    change b1=false at g1
    rw[h1]at g1;cases g1
   ·change b1=true at h1
    change a1= []at h2
    change a2= []at g2
    subst h1 h2 g2
    have q1:Dr (d+1) (.mk true [] l1)=40::(l1.flatMap (Dr d)++ [41]):=rfl
    have q2:Dr (d+1) (.mk true [] l2)=40::(l2.flatMap (Dr d)++ [41]):=rfl
    rw[q1,q2,B2,B2,AX,AX]at h
    injection h with _ h
    obtain⟨e1,e2⟩:=Zw (fun hx hy h=>Zu d hx hy h) h3 g3 h
    exact⟨congrArg (Sx.mk true []) e1,e2⟩
theorem Kg {α β:Type} {f:α→β}: ∀ {l m:List α},(∀ x∈l,∀ y∈m,f x=f y→x=y)→l.map f=m.map f→l=m
 | [],[],_,_=>rfl
 | [],y::m,_,h=>by simp at h
 |x::l,[],_,h=>by simp at h
 |x::l,y::m,hf,h=>by
  rw[Ar,Ar]at h
  injection h with h1 h2
  rw[hf x (by simp) y (by simp) h1,Kg (fun a ha b hb=>hf a (AL _ ha) b (AL _ hb)) h2]
theorem HL {a b:Str} (h:Cj a=Cj b):a=b:=congrArg Sx.atom h
theorem KM {l m:List Sx} (h:ED l=ED m):l=m:=congrArg Sx.list h
theorem Ye {a b:Dig} (h:KC a=KC b):a=b:=by
 unfold KC at h
 by_cases h1:a=Dig.zero
 ·by_cases h2:b=Dig.zero
  ·rw[h1,h2]
  ·rw[if_pos h1,if_neg h2]at h
   have:=congrArg List.length (HL h)
   rw[b.len]at this;simp at this
 ·by_cases h2:b=Dig.zero
  ·rw[if_neg h1,if_pos h2]at h
   have:=congrArg List.length (HL h)
   rw[a.len]at this;simp at this
  ·rw[if_neg h1,if_neg h2]at h
   exact Dig.ext (HL h)
def SB (n:Int):Prop:= -1099511627776≤n∧n≤1099511627776
theorem Nu {n m:Int} (hn:SB n) (hm:SB m) (h:GI n=GI m):n=m:=by
 unfold SB at hn hm
 unfold GI RQ at h
 rw[if_neg (by omega),if_neg (by omega)]at h
 exact fU (HL h)
theorem HF {x y:Ident} (hx:SB x.n) (hy:SB y.n) (h:GH x=GH y):x=y:=by
 have h:=KM h
 injection h with h1 h2
 injection h2 with h2 _
 obtain⟨p,n⟩:=x
 obtain⟨q,m⟩:=y
 have e1:=Ye h1
 have e2:=Nu hx hy h2
 subst e1 e2;rfl
structure pX (c:Chg):Prop where
 fields:C3 c=0
 file:SB c.file.n
 parent:SB c.parent.n
 after:SB c.after.n
 before:SB c.before.n
 over: ∀ x∈c.over,SB x.n
 mode:c.kind=3→SB c.mode
 type:c.kind=1→SB c.type
theorem Lu {l m:List Ident} (hl: ∀ x∈l,SB x.n) (hm: ∀ x∈m,SB x.n) (h:J0 l=J0 m):l=m:=
 Kg (fun x hx y hy e=>HF (hl x hx) (hm y hy) e) (KM h)
theorem VW (c:Chg):(Kv c).list=([GI c.kind]++K2 c++IK c)++L7 c:=rfl
theorem jd {c e:Chg} (hc:pX c) (he:pX e) (h:Kv c=Kv e):c=e:=by
 have k1:=Jj hc.fields
 have k2:=Jj he.fields
 have z1:=KH hc.fields
 have z2:=KH he.fields
 have h:=congrArg Sx.list h
 rw[VW,VW]at h
 have hk:c.kind=e.kind:=by
  have h1:=congrArg List.head? h
  simp only[MR,B2,List.head?_cons,Iw]at h1
  exact Nu (by unfold SB;omega) (by unfold SB;omega) h1
 obtain⟨ck,cfile,ctype,cparent,cname,cmode,cdata,cafter,cbefore,clines,cover⟩:=c
 obtain⟨ek,efile,etype,eparent,ename,emode,edata,eafter,ebefore,elines,eover⟩:=e
 change ck=ek at hk
 subst hk
 obtain⟨_,c1,c2,c3,c4,c5,c6,c7⟩:=hc
 obtain⟨_,e1,e2,e3,e4,e5,e6,e7⟩:=he
 simp only at k1 c1 c2 c3 c4 c5 c6 c7 e1 e2 e3 e4 e5 e6 e7
 unfold Fl Hn at z1 z2
 simp only[BP,AB]at z1 z2
 obtain⟨⟨⟨⟨⟨⟨⟨⟨⟨p1,p2⟩,p3⟩,p4⟩,p5⟩,p6⟩,p7⟩,p8⟩,p9⟩,p10⟩:=z1
 obtain⟨⟨⟨⟨⟨⟨⟨⟨⟨q1,q2⟩,q3⟩,q4⟩,q5⟩,q6⟩,q7⟩,q8⟩,q9⟩,q10⟩:=z2
 have n9: ∀ {α:Type} {l:List α},(l.length:Int)=0→l= []:=fun h=>BL (by omega)
 have p9:=n9 p9
 have p10:=n9 p10
 have q9:=n9 q9
 have q10:=n9 q10
 clear n9
 have hlin: ∀ {l m:List Str},ED (l.map Cj)=ED (m.map Cj)→l=m:=fun h=>Kg (fun _ _ _ _ e=>HL e) (KM h)
 rcases kinds k1 with rfl|rfl|rfl|rfl|rfl|rfl|rfl<;>
  simp (decide:=true) only[K2,IK,L7,if_true,if_false,ite_true,ite_false,B7,BQ,MR,B2,OY,true_and,and_true,and_self,true_or,or_true,or_self,ne_eq,not_true_eq_false,not_false_eq_true]at h p1 p2 p3 p4 p5 p6 p7 p8 p9 p10 q1 q2 q3 q4 q5 q6 q7 q8 q9 q10
 ·have:=Nu (c7 rfl) (e7 rfl) h
  simp only[*]
 ·obtain⟨h1,h2,h3,h4⟩:=h
  have:=HF c1 e1 h1
  have:=HF c2 e2 h2
  have:=HL h3
  have:=Lu c5 e5 h4
  simp only[*]
 ·obtain⟨h1,h2,h3⟩:=h
  have:=HF c1 e1 h1
  have:=Nu (c6 rfl) (e6 rfl) h2
  have:=Lu c5 e5 h3
  simp only[*]
 ·obtain⟨h1,h2,h3⟩:=h
  have:=HF c1 e1 h1
  have:=HL h2
  have:=Lu c5 e5 h3
  simp only[*]
 ·obtain⟨h1,h2,h3,h4⟩:=h
  have:=HF c1 e1 h1
  have:=HF c3 e3 h2
  have:=HF c4 e4 h3
  have:=hlin h4
  simp only[*]
 ·obtain⟨h1,h2,h3,h4⟩:=h
  have:=HF c1 e1 h1
  have:=HF c3 e3 h2
  have:=HF c4 e4 h3
  have:=Lu c5 e5 h4
  simp only[*]
 ·have:=Lu c5 e5 h
  simp only[*]
theorem SI (N:Nat): ∀ {l:List Chg} {own:List Atm},(DC l own).2=0→own.length+4001*l.length≤N→ ∀ c∈l,C3 c=0∧ ∃ own:List Atm,own.length≤N∧FB c own=0
 | [],_,_,_,c,h=>by cases h
 |x::l,own,h,hN,c,hc=>by
  unfold DC at h
  by_cases h1:C3 x≠0
  ·rw[if_pos h1]at h;exact absurd h h1
  by_cases h2:FB x own≠0
  ·rw[if_neg h1,if_pos h2]at h;exact absurd h h2
  rw[if_neg h1,if_neg h2]at h
  have h1:C3 x=0:=by simpa using h1
  rw[AN]at hN
  rcases AF.1 hc with rfl|hc
  ·exact⟨h1,own,by omega,by simpa using h2⟩
  ·refine SI N h ?_ c hc
   have:=Ly x own.length
   have:=JQ h1
   rw[AD]
   omega
theorem QT {x:Ident} {own:List Atm} {b:Bool} (hN:own.length≤1000000000) (h:Iz x own b=0):SB x.n:=by
 unfold Iz at h
 by_cases h1:Dp x own.length=false
 ·rw[if_pos h1]at h;exact absurd h (by decide)
 ·have h1:Dp x own.length=true:=by simpa using h1
  unfold Dp at h1
  unfold SB
  split at h1<;>simp at h1<;>omega
theorem Qh:SB Ident.zero.n:=by unfold SB;exact⟨by decide,by decide⟩
theorem pW {c:Chg} {own:List Atm} (hN:own.length≤1000000000) (hf:C3 c=0) (hr:FB c own=0):pX c:=by
 obtain⟨z1,z2,z3⟩:=S7 hf
 have r1:K3 c own=0:=by
  by_cases h0:K3 c own=0
  ·exact h0
  ·rw[FB,if_pos h0]at hr;exact absurd hr h0
 rw[FB,if_neg (by simp[r1])]at hr
 have r2:Lx c own=0:=by
  by_cases h0:Lx c own=0
  ·exact h0
  ·rw[if_pos h0]at hr;exact absurd hr h0
 rw[if_neg (by simp[r2])]at hr
 have r3:IE c own=0:=by
  by_cases h0:IE c own=0
  ·exact h0
  ·rw[if_pos h0]at hr;exact absurd hr h0
 rw[if_neg (by simp[r3])]at hr
 have r4:Ay (Nx c own) c.over=0:=by
  by_cases h0:Ay (Nx c own) c.over=0
  ·exact h0
  ·rw[if_pos h0]at hr;exact absurd hr h0
 have hE:(c.kind=5∨c.kind=6)→ ∀ x∈ [c.after,c.before],SB x.n:=fun h x hx=>by
  rw[IE,if_pos (by unfold IL;simpa using h)]at r3
  exact QT hN (Cy r3 x hx)
 refine⟨hf,?_,?_,?_,?_,fun x hx=>QT hN (Cy r4 x hx),fun h=>?_,fun h=>?_⟩
 ·by_cases h:2≤c.kind∧c.kind≤6
  ·rw[K3,if_pos h]at r1;exact QT hN r1
  ·rw[z1 h];exact Qh
 ·by_cases h:c.kind=2
  ·by_cases h2:c.parent=rRoot
   ·rw[h2];unfold SB;exact⟨by decide,by decide⟩
   ·rw[Lx,if_pos ⟨h,h2⟩]at r2;exact QT hN r2
  ·rw[z2 h];exact Qh
 ·by_cases h:c.kind=5∨c.kind=6
  ·exact hE h _ (by simp)
  ·rw[(z3 h).1];exact Qh
 ·by_cases h:c.kind=5∨c.kind=6
  ·exact hE h _ (by simp)
  ·rw[(z3 h).2];exact Qh
 ·unfold SB
  unfold C3 at hf
  have: ¬(c.mode < 0∨511 < c.mode):=fun hm=>by
   rw[if_neg (by omega)]at hf
   split at hf
   ·omega
   ·rw[if_neg (by omega),if_neg (by omega),if_pos ⟨h,hm⟩]at hf;omega
  omega
 ·unfold SB
  unfold C3 at hf
  have: ¬(c.type < 1∨4 < c.type):=fun hm=>by
   rw[if_neg (by omega)]at hf
   split at hf
   ·omega
   ·rw[if_pos ⟨h,hm⟩]at hf;omega
  omega
theorem UO {p:Pat} (h:(CB p).2=0):(∀ c∈p.changes,pX c)∧SB p.time:=by
 have e:J1 p=0:=by
  by_cases h0:J1 p=0
  ·exact h0
  ·rw[IX,if_pos h0]at h;exact absurd h h0
 rw[Mu e]at h
 have ht: ¬(p.time < 0∨1099511627776 < p.time)∧ ¬400 < (p.changes.length:Int):=by
  unfold J1 at e
  split at e
  ·omega
  split at e
  ·omega
  split at e
  ·omega
  rename_i ht
  split at e
  ·rename_i hd;exact absurd e hd
  split at e
  ·omega
  split at e
  ·omega
  rename_i hc
  exact⟨ht,hc⟩
 refine⟨fun c hc=>?_,by unfold SB;omega⟩
 obtain⟨hf,own,hN,hr⟩:=SI 1600400 h (by simp;omega) c hc
 exact pW (by omega) hf hr
theorem jm {p q:Pat} (hp:W3 p) (hq:W3 q) (cp:(CB p).2=0) (cq:(CB q).2=0) (h:Na p=Na q):p=q:=by
 obtain⟨c1,t1⟩:=UO cp
 obtain⟨c2,t2⟩:=UO cq
 have h1:=(Zu 8 (r:= []) (s:= []) hp.ok.1 hq.ok.1 (by rw[BQ,BQ];exact h)).1
 have h1:=KM h1
 simp only[OY,and_true,true_and]at h1
 obtain⟨e1,e2,e3,e4,e5⟩:=h1
 replace e1:=HL e1
 replace e2:=HL e2
 replace e3:=Nu t1 t2 e3
 replace e4:=Kg (fun _ _ _ _ e=>Ye e) (KM e4)
 replace e5:=Kg (fun x hx y hy e=>jd (c1 x hx) (c2 y hy) e) (KM e5)
 obtain⟨a1,a2,a3,a4,a5⟩:=p
 obtain⟨b1,b2,b3,b4,b5⟩:=q
 simp only at e1 e2 e3 e4 e5
 subst e1 e2 e3 e4 e5;rfl
attribute [local irreducible] Eb AV BG Fu
section
variable {P:Program} {N:Nat} {all:Array Oper} {K:Env→List Res→Prop} {fl:List Bool} {os:List Oper} {ρ:Env} {L:List Res} {d:Nat} {ty:TypeId} {pos:String} {af:Array Edge}
theorem Ns {x:Operand} {cs:List PV} {off:Nat} (hx:ρ.ev x= .pt cs off) (k:AV P N all K fl.tail os (CV ρ d (.pt cs off)) L) (hd:Nat.blt d N=true:=by rfl):AV P N all K fl (⟨some d,.nilCheck x,ty,pos,af,none⟩::os) ρ L:=
 Bg hd (BC fun a w g ha hi=>by
  have h1:=ha x (by simp[Op.operands])
  rw[hx]at h1
  generalize hv:a.eval x=v at h1
  cases h1 with
  |pt ff hH hv'=>
   rename_i b o
   exact⟨.pointer (some ⟨b,o+off,none⟩),by simp[execOp,hv],.pt ff hH hv'⟩) k
end
instance xh (s:List Sto) (m:Nat):Jv (Ur s m) 0 [.slice (s.map eSto) .ro]:=⟨by simp[Ur]⟩
instance xg (s:List Sto) (m:Nat):Jv (Ur s m) 1 [.raw (.map (some m))]:=⟨by simp[Ur]⟩
def Iv (s:List Sto) (known:List (Dig × List Atm)):Prop:= ∀ d l,CZ d known=some l→l=JW s d
theorem Iv.set {s:List Sto} {known:List (Dig × List Atm)} (h:Iv s known) (d:Dig):Iv s (Db d (JW s d) known):=fun x l e=>by
 rw[HS]at e
 split at e
 ·rename_i hx;subst hx;injection e with e;exact e.symm
 ·exact h x l e
theorem lY (s:List Sto) (hg:GQ s) (m:Nat) (known:List (Dig × List Atm)) (hk:Iv s known) (x:Ident):BG Tryz.prog 140 [.pt (Ur s m) 0,.agg (eIdent x)] (Gd m known) (fun r L'=>r= .tuple [.agg (eAtm ((Ir s x).getD Atm.zero)),.raw (.bool (Ir s x).isSome)]∧ ∃ known',L'=Gd m known'∧Iv s known'):=by
 have i1:Aw (E6 ((getS s x.patch).getD Pat.zero)=false):=⟨hg.great _⟩
 refine C7 Tryz.func140 rfl Tryz.ntmps140 (rs:= [.cell 4 125,.tmp 5]) rfl rfl fun hb LF=>?_
 rw[show Gd m known++LF= .map m (BZ kDig (K1 eAtm) known)::LF from rfl]
 refine wf ?_
 refine Bw fun b4=>?_
 refine wf ?_
 refine Ns rfl ?_
 refine wf ?_
 refine EO (.swap _ _ _) ?_
 refine Cx (σ:=List (Dig × List Atm)) (fun k=>Iv s k) (fun k=> [(3,.pt (eIdent x) 0),(4,.raw (.pointer (some ⟨b4,0,none⟩))),(6,.slice ((JW s x.patch).map eAtm) .ro)]) (fun k=> .map m (BZ kDig (K1 eAtm) k):: .box b4 125 (eAtm Atm.zero)::LF) ?_ ?_
 ·refine AO (fun h=>?_) (fun h=>?_)
  ·refine wn ?_
   refine GP [10,11] (by decide+kernel) ?_
   refine B3 0 ?_
   refine B3 1 (hq:=fun _=>by refine Ns rfl ?_;refine AE ?_;exact⟨Cu _ _ _,rfl⟩) ?_
   refine B3 2 ?_
   refine B3 3 ?_
   refine B3 4 ?_
   refine B3 5 ?_
   refine B3 6 ?_
   refine B3 7 ?_
   refine B3 8 ?_
   refine B3 9 ?_
   refine Ad 2 10 ?_
   refine Bw fun b8=>?_
   refine AE ?_
   refine Ad 1 11 ?_
   refine wo ?_
   refine AE ?_
   refine Ad 0 12 ?_
   refine wo ?_
   refine AE ?_
   refine CR (by decide+kernel) ?_
   refine Au 8 ?_
   refine wn ?_
   refine Bb 7 ?_ ?_
   ·decide+kernel
   refine wf ?_
   refine Ns rfl ?_
   refine wf ?_
   exact⟨Db x.patch (JW s x.patch) known,hk.set _,⟨rfl,rfl,rfl⟩,.refl _⟩
  ·have h1:(CZ x.patch known).isSome=true:=by simpa using h
   obtain⟨l,hl⟩:=Ff.1 h1
   have e:=hk _ _ hl
   subst e
   refine wf ?_
   refine⟨known,hk,⟨rfl,rfl,by rw[hl];rfl⟩,.refl _⟩
 intro k hkn
 refine EO (.swap _ _ _) ?_
 refine wf ?_
 refine BM [(53,.raw (.bool (decide (x.n < 0∨((JW s x.patch).length:Int)≤x.n)))),(3,.pt (eIdent x) 0),(4,.raw (.pointer (some ⟨b4,0,none⟩))),(6,.slice ((JW s x.patch).map eAtm) .ro)] (.box b4 125 (eAtm Atm.zero):: .map m (BZ kDig (K1 eAtm) k)::LF) ?_ ?_
 ·repeat' (first|(refine A7 (fun h=>?_) (fun h=>?_)<;>refine wf ?_)|(refine AR (fun h=>?_) (fun h=>?_)<;>refine wf ?_)|(refine AO (fun h=>?_) (fun h=>?_)<;>refine wf ?_)|(refine Aq (fun h=>?_) (fun h=>?_)<;>(have h2:=h;(try simp only[AB,A8,AH,AK]at h2);refine wf ?_)))
  all_goals (refine⟨⟨Bp (by rfl) ?_,rfl,rfl,rfl⟩,.refl _⟩;first|(simp_all;done)|grind)
 refine wf ?_
 refine A7 (fun h=>?_) (fun h=>?_)
 ·refine wf ?_
  refine⟨trivial,_,Gd m k,.cons (.cell 4 125 rfl AI (inferInstance:Ek Tryz.prog 125 172).out (by simp)) (.cons (.tmp 5) .nil),.cons _ (.refl _),?_,k,rfl,hkn⟩
  rw[Ir,if_pos h];rfl
 ·have hlt:x.n.toNat < (JW s x.patch).length:=by omega
  refine wf ?_
  refine⟨trivial,_,Gd m k,.cons (.cell 4 125 rfl AI (inferInstance:Ek Tryz.prog 125 172).out (by simp)) (.cons (.tmp 5) .nil),.cons _ (.refl _),?_,k,rfl,hkn⟩
  rw[Ir,if_neg h,AY hlt];rfl
theorem fL (id:Dig) (c:Chg):(JY id c).length≤c.over.length+4:=by
 have r1:=dU c
 have r2:=dT c (Y3 c)
 have r3:=dR (DX id c) c (bB c (Y3 c))
 have r4:=Kl (Mz (DX id c) c) c.over (iB (DX id c) c (bB c (Y3 c)))
 unfold JY su
 omega
theorem VF (s:List Sto) (hg:GQ s) (m:Nat) (known:List (Dig × List Atm)) (hk0:Iv s known) (x:Sto) (hx:E6 x.patch=false):BG Tryz.prog 76 [.pt (Ur s m) 0,.agg (eSto x)] (Gd m known) (fun r L'=>r= .raw (.int .i64 (RB s x.patch x.id))∧ ∃ known',L'=Gd m known'∧Iv s known'):=by
 have hgf:=(EY hx).2.2.2.2
 have hcl:=(EY hx).2.2.2.1
 refine C7 Tryz.func76 rfl Tryz.ntmps76 (rs:= [.tmp 4]) rfl rfl fun hb LF=>?_
 rw[show Gd m known++LF= .map m (BZ kDig (K1 eAtm) known)::LF from rfl]
 refine wf ?_
 refine AZ (σ:=Nat × List (Dig × List Atm)) (fun k=>k.1≤x.patch.changes.length∧Iv s k.2∧ ∀ i (h:i < x.patch.changes.length),i < k.1→OJ s x.id x.patch.changes[i]=0) (fun k=>x.patch.changes.length - k.1) (fun k=> [(0,.pt (Ur s m) 0),(3,.pt (eSto x) 0),(13,.slice (x.patch.changes.map eChg) .ro),(14,.raw (.int .i64 x.patch.changes.length)),(15,.raw (.int .i64 k.1))]) (fun k=> .map m (BZ kDig (K1 eAtm) k.2)::LF) (0,known) ⟨by simp,hk0,by simp⟩ ⟨rfl,rfl,rfl,rfl,rfl⟩ (.refl _) ?_
 rintro⟨k,kn⟩ ⟨hk,hkn,he⟩
 dsimp only at hk hkn he ⊢
 refine wf ?_
 refine A7 (fun hc=>?_) (fun hc=>?_)
 ·have hlt:k < x.patch.changes.length:=by omega
  have hat:=Cq (f:=OJ s x.id) hlt he
  have hsu:=fun h=>Dm (f:=OJ s x.id) he hlt h
  have hcg:=hgf _ (AG hlt)
  refine wz fun b6=>?_
  generalize x.patch.changes[k]=c at hat hsu hcg ⊢
  have i1:Aw (c.over.length≤400):=⟨by have:=hcg.over;omega⟩
  have hrl:(JY x.id c).length≤400:=by have:=fL x.id c;have:=hcg.over;omega
  refine Au 6 ?_
  refine wf ?_
  refine AZ (σ:=Nat × List (Dig × List Atm)) (fun j=>j.1≤(JY x.id c).length∧Iv s j.2∧ ∀ i (h:i < (JY x.id c).length),i < j.1→HZ s c (DX x.id c) (JY x.id c)[i]=0) (fun j=>(JY x.id c).length - j.1) (fun j=> [(0,.pt (Ur s m) 0),(3,.pt (eSto x) 0),(13,.slice (x.patch.changes.map eChg) .ro),(14,.raw (.int .i64 x.patch.changes.length)),(15,.raw (.int .i64 k)),(22,.slice ((JY x.id c).map eRfc) .ro),(23,.raw (.int .i64 (JY x.id c).length)),(24,.raw (.int .i64 j.1))]) (fun j=> .map m (BZ kDig (K1 eAtm) j.2)::LF) (0,kn) ⟨by simp,hkn,by simp⟩ ⟨rfl,rfl,rfl,rfl,rfl,rfl,rfl,rfl⟩ (.refl _) ?_
  rintro⟨j,kn2⟩ ⟨hj,hkn2,hje⟩
  dsimp only at hj hkn2 hje ⊢
  refine wf ?_
  refine A7 (fun hc2=>?_) (fun hc2=>?_)
  ·have hlt2:j < (JY x.id c).length:=by omega
   have hat2:=Cq (f:=HZ s c (DX x.id c)) hlt2 hje
   have hsu2:=fun h=>Dm (f:=HZ s c (DX x.id c)) hje hlt2 h
   have hfit:=gQ x.id c _ (AG hlt2)
   refine wz fun b8=>?_
   generalize (JY x.id c)[j]=r at hat2 hsu2 hfit ⊢
   refine Au 8 ?_
   have i2:B1 Tryz.prog r.f:=hfit.fn
   have i3: ∀ a:Atm,C6 Tryz.prog r.f (.agg (eAtm a)::r.cs) (.raw (.bool (PQ c (DX x.id c) r a))):=fun a=>⟨hfit.out a⟩
   have er:HZ s c (DX x.id c) r=if(Ir s r.id).isSome=false then 7 else if PQ c (DX x.id c) r ((Ir s r.id).getD Atm.zero)=false then 8 else 0:=rfl
   refine wf ?_
   refine CK (xs:= [.tmp 29,.tmp 31]) (Gd m kn2) LF (f:=140) (cs:= []) (Bx _) rfl rfl (.refl _) _ (lY s hg m kn2 hkn2 r.id) fun u L' ⟨e1,kn3,e2,hkn3⟩=>?_
   subst e1;rw[e2]
   rw[show Gd m kn3++LF= .map m (BZ kDig (K1 eAtm) kn3)::LF from rfl]
   refine wf ?_
   refine Bw fun b9=>?_
   refine wo ?_
   refine AE ?_
   refine Au 9 ?_
   refine wf ?_
   refine AO (fun h=>?_) (fun h=>?_)
   ·refine wf ?_
    have h:(Ir s r.id).isSome=false:=Kc h
    rw[if_pos h]at er
    refine⟨trivial,_,Gd m kn3,.cons (.tmp 4) .nil,.refl _,?_,kn3,rfl,hkn3⟩
    have e3:=hat2 (by rw[er];decide)
    have e4:OJ s x.id c=7:=by rw[OJ,e3,er]
    rw[RB,hat (by rw[e4];decide),e4];rfl
   have h:(Ir s r.id).isSome=true:=oQ h
   rw[if_neg (by simp[h])]at er
   refine wf ?_
   refine AO (fun h2=>?_) (fun h2=>?_)
   ·refine wf ?_
    have h2:PQ c (DX x.id c) r ((Ir s r.id).getD Atm.zero)=false:=Kc h2
    rw[if_pos h2]at er
    refine⟨trivial,_,Gd m kn3,.cons (.tmp 4) .nil,.refl _,?_,kn3,rfl,hkn3⟩
    have e3:=hat2 (by rw[er];decide)
    have e4:OJ s x.id c=8:=by rw[OJ,e3,er]
    rw[RB,hat (by rw[e4];decide),e4];rfl
   ·have h2:PQ c (DX x.id c) r ((Ir s r.id).getD Atm.zero)=true:=oQ h2
    rw[if_neg (by simp[h2])]at er
    refine wf ?_
    exact⟨(j+1,kn3),⟨by dsimp only;omega,hkn3,hsu2 er⟩,by dsimp only;omega,⟨rfl,rfl,rfl,rfl,rfl,rfl,rfl,rfl⟩,.refl _⟩
  ·have e0:OJ s x.id c=0:=DJ fun i h=>hje i h (by omega)
   refine wf ?_
   exact⟨(k+1,kn2),⟨by dsimp only;omega,hkn2,hsu e0⟩,by dsimp only;omega,⟨rfl,rfl,rfl,rfl,rfl⟩,.refl _⟩
 ·refine wf ?_
  refine⟨trivial,_,Gd m kn,.cons (.tmp 4) .nil,.refl _,?_,kn,rfl,hkn⟩
  rw[RB,DJ fun i h=>he i h (by omega)];rfl
theorem cQ {s:List Sto} (h:Ay (FC s) (List.range s.length)=0):Gi (ids s):=by
 refine NI fun i hi=>?_
 have hi:i+1 < s.length:=by simpa [ids]using hi
 have h4:=Cy h (i+1) (Ba.2 hi)
 have e0:s.getD (i+1) Sto.zero=s[i+1]:=by simp[List.getD,hi]
 have e1:s.getD (i+1 - 1) Sto.zero=s[i]:=by
  have:i < s.length:=by omega
  simp[List.getD,this]
 unfold FC at h4
 rw[e0,e1]at h4
 by_cases h5:(Ei s[i+1].patch).2≠0
 ·rw[if_pos h5]at h4;exact absurd h4 h5
 rw[if_neg h5]at h4
 by_cases h6:(Ei s[i+1].patch).1≠s[i+1].id
 ·rw[if_pos h6]at h4;exact absurd h4 (by decide)
 rw[if_neg h6]at h4
 have h6:(Ei s[i+1].patch).1=s[i+1].id:=Cp.1 h6
 rw[h6]at h4
 by_cases h7:0 < ((i+1:Nat):Int)∧0≤EW s[i].id s[i+1].id
 ·rw[if_pos h7]at h4;exact absurd h4 (by decide)
 ·simp only[ids,B4]
  show EW s[i].id s[i+1].id < 0
  omega
theorem gH {s:List Sto} (h:Ay (FC s) (List.range s.length)=0) {x:Sto} (hx:x∈s):(Ei x.patch).2=0:=by
 obtain⟨i,hi,rfl⟩:=Ai.1 hx
 have h4:=Cy h i (Ba.2 hi)
 have e0:s.getD i Sto.zero=s[i]:=by simp[List.getD,hi]
 unfold FC at h4
 rw[e0]at h4
 by_cases h5:(Ei s[i].patch).2≠0
 ·rw[if_pos h5]at h4;exact absurd h4 h5
 ·exact Cp.1 h5
theorem Yk (s:List Sto): ∀ n out,(Ny s n out).length≤out.length+n
 |0,out=>by rw[Ny];omega
 |n+1,out=>by
  rw[Ny]
  split
  ·omega
  ·have:=Yk s n (out++ [(s.getD (LB s out).toNat Sto.zero).id])
   rw[AD,B9]at this
   omega
theorem bK (s:List Sto):(C5 s).length≤s.length:=by
 have:=Yk s s.length []
 rw[Af,BN]at this
 exact this
instance cW (s:List Sto) (t:C9) [hs:Aw (GQ s)]:C6 Tryz.prog 25 [.slice (s.map eSto) t] (.raw (.int .i64 (JR s))):=⟨by
 have hg:=hs.out
 obtain⟨hl8,hgr⟩:=hg
 refine Av Tryz.func25 Tryz.ntmps25 rfl (rs:= [.tmp 2]) rfl rfl fun hb LF=>?_
 refine wf ?_
 refine A7 (fun h1=>?_) (fun h1=>?_)
 ·omega
 rw[JR,if_neg h1]
 refine wf ?_
 refine AZ (σ:=Nat) (fun k=>k≤s.length∧ ∀ i (h:i < (List.range s.length).length),i < k→FC s (List.range s.length)[i]=0) (fun k=>s.length - k) (fun k=> [(0,.slice (s.map eSto) t),(16,.slice (s.map eSto) t),(17,.raw (.int .i64 s.length)),(18,.raw (.int .i64 k))]) (fun _=>LF) 0 ⟨by simp,by simp⟩ ⟨rfl,rfl,rfl,rfl⟩ (.refl _) ?_
 rintro k ⟨hk,he⟩
 refine wf ?_
 refine A7 (fun hc=>?_) (fun hc=>?_)
 ·have hlt:k < s.length:=by omega
  have hltr:k < (List.range s.length).length:=by simpa using hlt
  have ek:(List.range s.length)[k]=k:=by simp
  have e0:s.getD k Sto.zero=s[k]:=by simp[List.getD,hlt]
  have i1:Aw (E6 s[k].patch=false):=⟨hgr _ (AG hlt)⟩
  refine wf ?_
  refine Bw fun b4=>?_
  refine wo ?_
  refine AE ?_
  refine Au 4 ?_
  refine wf ?_
  refine Bw fun b5=>?_
  refine wo ?_
  refine AE ?_
  refine Au 5 ?_
  refine wf ?_
  refine AR (fun h2=>?_) (fun h2=>?_)
  ·refine wf ?_
   refine Ax (.of_eq ?_)
   have e:FC s (List.range s.length)[k]=(Ei s[k].patch).2:=by rw[ek,FC,e0,if_pos h2]
   have f:=Cq hltr he (by rw[e];exact h2)
   rw[if_pos (by rw[f,e];exact h2),f,e]
  refine wf ?_
  refine AR (fun h3=>?_) (fun h3=>?_)
  ·refine wf ?_
   refine Ax (.of_eq ?_)
   have e:FC s (List.range s.length)[k]=13:=by rw[ek,FC,e0,if_neg (by simp[h2]),if_pos h3]
   have f:=Cq hltr he (by rw[e];decide)
   rw[if_pos (by rw[f,e];decide),f,e]
  refine wf ?_
  refine Aq (fun hp=>?_) (fun hp=>?_)
  ·have hp':0 < (k:Int):=Az hp
   refine wf ?_
   have e1:s.getD (k - 1) Sto.zero=s[((k:Int) - 1).toNat]:=by
    have:((k:Int) - 1).toNat=k - 1:=by omega
    simp only[this]
    have h':k - 1 < s.length:=by omega
    simp[List.getD,h']
   refine A7 (fun h4=>?_) (fun h4=>?_)
   ·refine wf ?_
    refine Ax (.of_eq ?_)
    have e:FC s (List.range s.length)[k]=9:=by rw[ek,FC,e0,e1,if_neg (by simp[h2]),if_neg (by simp[h3]),if_pos ⟨hp',h4⟩]
    have f:=Cq hltr he (by rw[e];decide)
    rw[if_pos (by rw[f,e];decide),f,e]
   ·refine wf ?_
    have e:FC s (List.range s.length)[k]=0:=by rw[ek,FC,e0,e1,if_neg (by simp[h2]),if_neg (by simp[h3]),if_neg (fun h=>h4 h.2)]
    exact⟨k+1,⟨by omega,Dm he hltr e⟩,by dsimp only;omega,⟨rfl,rfl,rfl,rfl⟩,.refl _⟩
  ·have hp': ¬0 < (k:Int):=Bf hp
   refine wf ?_
   have e:FC s (List.range s.length)[k]=0:=by rw[ek,FC,e0,if_neg (by simp[h2]),if_neg (by simp[h3]),if_neg (fun h=>hp' h.1)]
   exact⟨k+1,⟨by omega,Dm he hltr e⟩,by dsimp only;omega,⟨rfl,rfl,rfl,rfl⟩,.refl _⟩
 have hA:Ay (FC s) (List.range s.length)=0:=DJ fun i h=>he i h (by simp at h;omega)
 have hasc:=cQ hA
 have hid:=fun x (hx:x∈s)=>gH hA hx
 rw[if_neg (by simp[hA])]
 clear he hA hk hc
 refine wf ?_
 refine AZ (σ:=Nat) (fun k=>k≤s.length∧ ∀ i (h:i < s.length),i < k→CW (ids s) (BB s[i].patch)=true) (fun k=>s.length - k) (fun k=> [(0,.slice (s.map eSto) t),(53,.slice (s.map eSto) t),(54,.raw (.int .i64 s.length)),(55,.raw (.int .i64 k))]) (fun _=>LF) 0 ⟨by simp,by simp⟩ ⟨rfl,rfl,rfl,rfl⟩ (.refl _) ?_
 rintro k ⟨hk,he⟩
 refine wf ?_
 refine A7 (fun hc=>?_) (fun hc=>?_)
 ·have hlt:k < s.length:=by omega
  have i1:=fun t=>ZQ s t s[k].patch hasc (by omega) (hgr _ (AG hlt))
  refine wf ?_
  refine Bw fun b8=>?_
  refine wo ?_
  refine AE ?_
  refine Au 8 ?_
  refine wf ?_
  refine AO (fun h=>?_) (fun h=>?_)
  ·refine wf ?_
   refine Ax (.of_eq ?_)
   have hx:CW (ids s) (BB s[k].patch)=false:=Kc h
   have hy:s.all (fun x=>CW (ids s) (BB x.patch))=false:=Gg hlt hx
   rw[if_pos hy]
  ·refine wf ?_
   have hx:CW (ids s) (BB s[k].patch)=true:=oQ h
   have hy: ∀ i (h:i < s.length),i < k+1→CW (ids s) (BB s[i].patch)=true:=fun i hi hik=>by
    rcases BJ i k with h'|h'
    ·exact he i hi h'
    ·have e:i=k:=by omega
     subst e;exact hx
   exact⟨k+1,⟨by omega,hy⟩,by dsimp only;omega,⟨rfl,rfl,rfl,rfl⟩,.refl _⟩
 have hB:s.all (fun x=>CW (ids s) (BB x.patch))=true:=HJ fun i h=>he i h (by omega)
 rw[if_neg (by simp[hB])]
 clear he hB hk hc
 have i3:=fun t=>Vh s t hs.out hasc
 have hol:=bK s
 refine wf ?_
 refine AR (fun h=>?_) (fun h=>?_)
 ·refine wf ?_
  refine Ax (.of_eq ?_)
  rw[if_pos (by omega)]
 rw[if_neg (by omega)]
 refine wf ?_
 refine CK (xs:= [.tmp 70]) [] LF (f:=75) (cs:= []) (Bx _) rfl rfl (.refl _) _ (O7 s t) fun r L' ⟨m,e1,e2⟩=>?_
 subst e1;rw[e2]
 rw[show Gd m []++LF= .map m (BZ kDig (K1 eAtm) [])::LF from rfl]
 refine wf ?_
 refine wf ?_
 refine AZ (σ:=Nat × List (Dig × List Atm)) (fun k=>k.1≤s.length∧Iv s k.2∧ ∀ i (h:i < s.length),i < k.1→FX s s[i].patch s[i].id=0) (fun k=>s.length - k.1) (fun k=> [(9,.pt (Ur s m) 0),(72,.slice (s.map eSto) t),(73,.raw (.int .i64 s.length)),(74,.raw (.int .i64 k.1))]) (fun k=> .map m (BZ kDig (K1 eAtm) k.2)::LF) (0,[]) ⟨by simp,fun d l h=>by simp[CZ]at h,by simp⟩ ⟨rfl,rfl,rfl,rfl⟩ (.refl _) ?_
 rintro⟨k,kn⟩ ⟨hk,hkn,he⟩
 dsimp only at hk hkn he ⊢
 refine wf ?_
 refine A7 (fun hc=>?_) (fun hc=>?_)
 ·have hlt:k < s.length:=by omega
  have hq:=Y9 s s[k].id (hid _ (AG hlt))
  refine wf ?_
  refine Bw fun b11=>?_
  refine wo ?_
  refine AE ?_
  refine Au 11 ?_
  refine wf ?_
  refine CK (xs:= [.tmp 78,.tmp 79]) (Gd m kn) LF (f:=76) (cs:= []) (Bx _) rfl rfl (.refl _) _ (VF s hs.out m kn hkn s[k] (hgr _ (AG hlt))) fun u L' ⟨e1,kn3,e2,hkn3⟩=>?_
  subst e1;rw[e2]
  rw[show Gd m kn3++LF= .map m (BZ kDig (K1 eAtm) kn3)::LF from rfl,hq]
  refine wf ?_
  refine wf ?_
  refine AR (fun h2=>?_) (fun h2=>?_)
  ·refine wf ?_
   refine Ax (.of_eq ?_)
   rw[Cq (f:=fun(x:Sto)=>FX s x.patch x.id) hlt he h2]
  ·refine wf ?_
   exact⟨(k+1,kn3),⟨by dsimp only;omega,hkn3,Dm (f:=fun(x:Sto)=>FX s x.patch x.id) he hlt h2⟩,by dsimp only;omega,⟨rfl,rfl,rfl,rfl⟩,.refl _⟩
 ·refine wf ?_
  refine Ax (.of_eq ?_)
  rw[DJ (f:=fun(x:Sto)=>FX s x.patch x.id) fun i h=>he i h (by omega)]⟩
attribute [local irreducible] Ga
theorem Js {p:Pat} (h:(Ei p).2=0):(CB p).2=0∧(CN p).1=Na p:=by
 have h1: ¬(CN p).2≠0:=fun h'=>by rw[Ei,if_pos h']at h;exact h' h
 unfold CN at h1 ⊢
 by_cases h2:(CB p).2≠0
 ·rw[if_pos h2]at h1;exact absurd h2 h1
 rw[if_neg h2]at h1 ⊢
 refine⟨Cp.1 h2,?_⟩
 unfold KD at h1 ⊢
 by_cases h3:65536 < ((Na p).length:Int)
 ·rw[if_pos h3]at h1;exact absurd (by decide) h1
 ·rw[if_neg h3]
theorem gY {p q:Pat} (gp:E6 p=false) (gq:E6 q=false) (hp:(Ei p).2=0) (hq:(Ei q).2=0):decide ((CN q).1=(CN p).1)=decide (p=q):=by
 obtain⟨c1,e1⟩:=Js hp
 obtain⟨c2,e2⟩:=Js hq
 rw[e1,e2,decide_eq_decide]
 exact⟨fun h=>jm (OG gp) (OG gq) c1 c2 h.symm,fun h=>by rw[h]⟩
instance va (a b:Pat) [ha:Aw (E6 a=false)] [hb:Aw (E6 b=false)]:C6 Tryz.prog 93 [.agg (Bh a),.agg (Bh b)] (.raw (.bool (decide ((CN a).1=(CN b).1)))):=⟨by
 refine Av Tryz.func93 Tryz.ntmps93 rfl (rs:= [.tmp 4]) rfl rfl fun hb LF=>?_
 refine wf ?_
 exact Ax (.refl _)⟩
theorem Yt (s:List Sto) (x:Sto):Jd s x=s.take (Jf s x.id)++x::s.drop (Jf s x.id):=by
 have e:(fun(y:Sto)=>!decide (EW y.id x.id < 0))=fun y=>decide (0≤EW y.id x.id):=by
  funext y
  by_cases h:EW y.id x.id < 0
  ·rw[BO h,Cf (by omega)];rfl
  ·rw[Cf h,BO (by omega)];rfl
 unfold Jd Jf
 rw[List.takeWhile_eq_take_findIdx_not,List.dropWhile_eq_drop_findIdx_not,e]
theorem o8 (s:List Sto) (d:Dig):Jf s d≤s.length:=zw
theorem o9 {s:List Sto} (ha:Gi (ids s)) {d:Dig} (h:d∈ids s): ∃ hlt:Jf s d < s.length,s[Jf s d].id=d∧getS s d=some s[Jf s d].patch:=by
 obtain⟨x,hx,rfl⟩:=AQ.1 h
 obtain⟨i,hi,rfl⟩:=Ai.1 hx
 have e:Jf s s[i].id=i:=XA (Nat.le_of_lt hi) (fun k hk hki=>by
  have:=B5.1 ha k i (by simpa [ids]using hk) (by simpa [ids]using hi) hki
  simp only[ids,B4]at this
  exact this) (fun k hk hik=>by
  rcases BJ i k with h'|h'
  ·have:=B5.1 ha i k (by simpa [ids]using hi) (by simpa [ids]using hk) h'
   simp only[ids,B4]at this
   rcases Ub (EW s[k].id s[i].id) 0 with h2|h2
   ·exact absurd h2 (Dig.lt_asymm this)
   ·exact h2
  ·have e2:k=i:=by omega
   subst e2
   rcases Ub (EW s[k].id s[k].id) 0 with h2|h2
   ·exact absurd h2 (Dig.lt_irrefl _)
   ·exact h2)
 refine⟨by rw[e];exact hi,?_⟩
 simp only[e]
 exact⟨trivial,Ql ha hx⟩
def Pw (s:List Sto) (p:Pat):Int:=if(getS s (Ei p).1).isSome=true then(if p=(getS s (Ei p).1).getD Pat.zero then 6 else 14)else if CW (ids s) (BB p)=false then 19 else FX s p (Ei p).1
theorem jo {s:List Sto} {p:Pat} (h0:(Ei p).2=0) (hl:s.length < 400):Ee s p=if Pw s p≠0 then([],Dig.zero,Pw s p)else(Jd s ⟨(Ei p).1,p⟩,(Ei p).1,0):=by
 unfold Ee Pw
 rw[if_neg (by simp[h0])]
 by_cases h1:(getS s (Ei p).1).isSome=true
 ·rw[if_pos h1,if_pos h1]
  by_cases h2:p=(getS s (Ei p).1).getD Pat.zero
  ·rw[if_pos h2,if_pos h2];rfl
  ·rw[if_neg h2,if_neg h2];rfl
 rw[if_neg h1,if_neg h1]
 by_cases h3:CW (ids s) (BB p)=false
 ·rw[if_pos h3,if_pos h3];rfl
 rw[if_neg h3,if_neg h3]
 by_cases h4:FX s p (Ei p).1≠0
 ·rw[if_pos h4,if_pos h4]
 ·rw[if_neg h4,if_neg h4,if_neg (by omega)]
theorem dZ {a b:Res} {R LF:List Res}:(R++a::b::LF).Perm (b::a::(R++LF)):=(BU.trans (.cons a BU)).trans (.swap _ _ _)
theorem dY {a b:Res} {R LF:List Res}:(b::a::(R++LF)).Perm (R++(b::a::LF)):=(BU.trans (.cons b BU)).symm
instance Xu (s:List Sto) (p:Pat) (t:C9) [hs:Aw (Bc s)] [hg:Aw (E6 p=false)]:C6 Tryz.prog 35 [.slice (s.map eSto) t,.agg (Bh p)] (.tuple [.slice ((Ee s p).1.map eSto) .ro,.agg (eDig (Ee s p).2.1),.raw (.int .i64 (Ee s p).2.2)]):=⟨by
 have v:=hs.out
 have hgd:=v.close.1
 have hlen:=hgd.1
 have hgp:=hg.out
 have i2:=fun t=>Ss s t (Ei p).1 v.asc (by omega)
 have i3:=fun t=>ZQ s t p v.asc (by omega) hgp
 have hpl:=o8 s (Ei p).1
 refine Av Tryz.func35 Tryz.ntmps35 rfl (rs:= [.tmp 4,.cell 5 31,.tmp 6]) rfl rfl fun hb LF=>?_
 refine wf ?_
 refine Bw fun b5=>?_
 refine wf ?_
 refine Bw fun b7=>?_
 refine wo ?_
 refine AE ?_
 refine Au 7 ?_
 refine wf ?_
 refine AR (fun h1=>?_) (fun h1=>?_)
 ·refine wf ?_
  refine H0 rfl ?_
  rw[Ee,if_pos h1]
  exact .tuple3 (.ro _ _) (.refl _) (.refl _)
 rw[jo h1 (by omega)]
 refine wf ?_
 refine BM [(32,.raw (.bool (decide ((Ei p).1∈ids s∧ ¬p=(getS s (Ei p).1).getD Pat.zero)))),(0,.slice (s.map eSto) t),(3,.pt (Bh p) 0),(5,.raw (.pointer (some ⟨b5,0,none⟩))),(7,.pt (eDig (Ei p).1) 0),(9,.raw (.int .i64 (Jf s (Ei p).1:Nat))),(10,.raw (.bool (decide ((Ei p).1∈ids s))))] (.box b5 31 (eDig Dig.zero)::LF) ?_ ?_
 ·refine Aq (fun hp=>?_) (fun hp=>?_)
  ·have hd:=Az hp
   obtain⟨hlt,hid,hget⟩:=o9 v.asc hd
   have hq0:s[Jf s (Ei p).1]∈s:=AG hlt
   have i4:Aw (E6 s[Jf s (Ei p).1].patch=false):=⟨hgd.2 _ hq0⟩
   have heq:=gY hgp (hgd.2 _ hq0) h1 (v.id _ hq0).1
   refine wf ?_
   refine⟨⟨Bp (by rfl) ?_,rfl,rfl,rfl,rfl,rfl,rfl⟩,.refl _⟩
   rw[heq,hget,CA]
   generalize s[Jf s (Ei p).1].patch=q
   by_cases h2:p=q
   ·rw[BO h2,Cf (fun h=>h.2 h2)];rfl
   ·rw[Cf h2,BO ⟨hd,h2⟩];rfl
  ·have hd:=Bf hp
   refine wf ?_
   refine⟨⟨Bp (by rfl) ?_,rfl,rfl,rfl,rfl,rfl,rfl⟩,.refl _⟩
   simp[hd]
 have hsome:=SC v.asc (Ei p).1
 refine wf ?_
 refine Cx (σ:=Unit) (fun _=>True) (fun _=> [(0,.slice (s.map eSto) t),(3,.pt (Bh p) 0),(5,.raw (.pointer (some ⟨b5,0,none⟩))),(7,.pt (eDig (Ei p).1) 0),(8,.raw (.int .i64 (Pw s p))),(9,.raw (.int .i64 (Jf s (Ei p).1:Nat)))]) (fun _=> .box b5 31 (eDig Dig.zero)::LF) ?_ ?_
 ·refine A7 (fun h=>?_) (fun h=>?_)
  ·have eA:Pw s p=14:=by
    unfold Pw;rw[hsome,if_pos (BO h.1),if_neg h.2]
   refine wf ?_
   exact⟨(),trivial,⟨rfl,rfl,rfl,rfl,by rw[eA];rfl,rfl⟩,.refl _⟩
  refine wf ?_
  refine A7 (fun h2=>?_) (fun h2=>?_)
  ·have eA:Pw s p=6:=by
    unfold Pw;rw[hsome,if_pos (BO h2),if_pos (DH fun h3=>h ⟨h2,h3⟩)]
   refine wf ?_
   exact⟨(),trivial,⟨rfl,rfl,rfl,rfl,by rw[eA];rfl,rfl⟩,.refl _⟩
  have hns: ¬(getS s (Ei p).1).isSome=true:=by rw[hsome];simpa using h2
  refine wf ?_
  refine AO (fun h3=>?_) (fun h3=>?_)
  ·have eA:Pw s p=19:=by
    unfold Pw;rw[if_neg hns,if_pos (Kc h3)]
   refine wf ?_
   exact⟨(),trivial,⟨rfl,rfl,rfl,rfl,by rw[eA];rfl,rfl⟩,.refl _⟩
  have eA:Pw s p=FX s p (Ei p).1:=by
   unfold Pw;rw[if_neg hns,if_neg (IH h3)]
  refine wn ?_
  refine GP [1,5] (by decide+kernel) ?_
  refine B3 0 ?_
  refine B3 2 ?_
  refine B3 3 ?_
  refine B3 4 ?_
  refine Ad 2 1 ?_
  refine CK (xs:= [.tmp 26]) [] (.box b5 31 (eDig Dig.zero)::LF) (f:=75) (cs:= []) (Bx _) rfl rfl (.refl _) _ (O7 s t) fun r L' ⟨m,e1,e2⟩=>?_
  subst e1;rw[e2]
  refine AE ?_
  refine Ad 1 5 ?_
  refine CK (xs:= [.tmp 27,.tmp 30]) (Gd m []) (.box b5 31 (eDig Dig.zero)::LF) (f:=76) (cs:= []) (Bx _) rfl rfl (.refl _) _ (VF s hgd m [] (fun d l h=>by simp[CZ]at h) ⟨(Ei p).1,p⟩ hgp) fun u L' ⟨e1,kn3,e2,hkn3⟩=>?_
  subst e1;rw[e2]
  refine AE ?_
  refine Ad 0 6 ?_
  refine wo ?_
  refine AE ?_
  refine CR (by decide+kernel) ?_
  rw[show RB s (⟨(Ei p).1,p⟩:Sto).patch (⟨(Ei p).1,p⟩:Sto).id=Pw s p from(Y9 s (Ei p).1 h1).trans eA.symm]
  exact⟨(),trivial,⟨rfl,rfl,rfl,rfl,rfl,rfl⟩,.cons _ (.refl _)⟩
 intro _ _
 refine wf ?_
 refine BM [(56,.raw (.bool (decide (Pw s p=0∧400≤(s.length:Int))))),(0,.slice (s.map eSto) t),(3,.pt (Bh p) 0),(5,.raw (.pointer (some ⟨b5,0,none⟩))),(7,.pt (eDig (Ei p).1) 0),(8,.raw (.int .i64 (Pw s p))),(9,.raw (.int .i64 (Jf s (Ei p).1:Nat)))] (.box b5 31 (eDig Dig.zero)::LF) ?_ ?_
 ·repeat' (first|(refine A7 (fun h=>?_) (fun h=>?_)<;>refine wf ?_)|(refine AR (fun h=>?_) (fun h=>?_)<;>refine wf ?_)|(refine AO (fun h=>?_) (fun h=>?_)<;>refine wf ?_)|(refine Aq (fun h=>?_) (fun h=>?_)<;>(have h2:=h;(try simp only[AB,A8,AH,AK]at h2);refine wf ?_)))
  all_goals (refine⟨⟨Bp (by rfl) ?_,rfl,rfl,rfl,rfl,rfl,rfl⟩,.refl _⟩;first|(simp_all;done)|grind)
 refine wf ?_
 refine A7 (fun h=>?_) (fun _=>?_)
 ·omega
 refine wf ?_
 refine AR (fun h=>?_) (fun h=>?_)
 ·refine wf ?_
  refine H0 rfl ?_
  rw[if_pos h]
  exact .tuple3 (.ro _ _) (.refl _) (.refl _)
 rw[if_neg (fun h'=>h' h)]
 refine wn ?_
 refine GP [1,6,7,10] (by decide+kernel) ?_
 refine B3 0 ?_
 refine B3 2 ?_
 refine B3 3 ?_
 refine B3 4 ?_
 refine B3 5 ?_
 refine B3 8 ?_
 refine C4 (fuel:=5) [1,6] (by decide+kernel) (by simp) fun i hi=>?_
 simp only[AF,Aa,or_false]at hi
 rcases hi with rfl|rfl
 ·refine⟨_,rfl,?_⟩
  refine CK (xs:= [.tmp 61]) [] (.box b5 31 (eDig Dig.zero)::LF) (f:=95) (cs:= []) (Bx _) rfl rfl (.refl _) _ (Rz s t (by omega)) fun r R0 ⟨v0,e1,hv0⟩=>?_
  subst e1
  refine AE ?_
  refine Ad 4 6 ?_
  refine VT (cs:=eSto (⟨(Ei p).1,p⟩:Sto)) (.agg _) (by simp) (by decide) fun b=>?_
  refine AE ?_
  refine Ad 3 7 ?_
  refine CK (xs:= [.tmp 62,.tmp 63,.tmp 67]) (R0++ [Res.box b 59 (eSto (⟨(Ei p).1,p⟩:Sto))]) (.box b5 31 (eDig Dig.zero)::LF) (f:=94) (cs:= []) (Bx _) rfl rfl (by rw[AX];exact BU.symm) _ (Tz v0 s R0 hv0 (Jf s (Ei p).1) hpl (by omega) b (⟨(Ei p).1,p⟩:Sto)) fun r L' ⟨v2,R2,e1,hv2,e2⟩=>?_
  subst e1;rw[e2]
  refine AE ?_
  refine Ad 2 9 ?_
  refine wo ?_
  refine AE ?_
  refine Ad 1 10 ?_
  refine Vg (L':= .box b5 31 (eDig Dig.zero):: .box b 59 (eSto (⟨(Ei p).1,p⟩:Sto))::(R2++LF)) (by rw[AX];exact dZ) rfl ?_ (fun h=>h)
  refine wo ?_
  refine AE ?_
  refine Ad 0 11 ?_
  refine wo ?_
  refine AE ?_
  refine CR (by decide+kernel) ?_
  have hxl:((s.take (Jf s (Ei p).1)++(⟨(Ei p).1,p⟩:Sto)::s.drop (Jf s (Ei p).1)).map eSto).length≤201:=by
   simp only[AU,AD,Ab,AN,B8];omega
  refine Jc 4 hv2 ⟨by unfold maxN;omega,by unfold maxN;omega⟩ dY rfl ?_
  refine wf ?_
  refine H0 rfl ?_
  rw[Yt]
  exact .refl _
 ·refine⟨_,rfl,?_⟩
  refine VT (cs:=eSto (⟨(Ei p).1,p⟩:Sto)) (.agg _) (by simp) (by decide) fun b=>?_
  refine AE ?_
  refine Ad 4 1 ?_
  refine CK (xs:= [.tmp 61]) [] (.box b 59 (eSto (⟨(Ei p).1,p⟩:Sto)):: .box b5 31 (eDig Dig.zero)::LF) (f:=95) (cs:= []) (Bx _) rfl rfl (.refl _) _ (Rz s t (by omega)) fun r R0 ⟨v0,e1,hv0⟩=>?_
  subst e1
  refine AE ?_
  refine Ad 3 7 ?_
  refine CK (xs:= [.tmp 62,.tmp 63,.tmp 67]) (R0++ [Res.box b 59 (eSto (⟨(Ei p).1,p⟩:Sto))]) (.box b5 31 (eDig Dig.zero)::LF) (f:=94) (cs:= []) (Bx _) rfl rfl (by rw[AX];exact .refl _) _ (Tz v0 s R0 hv0 (Jf s (Ei p).1) hpl (by omega) b (⟨(Ei p).1,p⟩:Sto)) fun r L' ⟨v2,R2,e1,hv2,e2⟩=>?_
  subst e1;rw[e2]
  refine AE ?_
  refine Ad 2 9 ?_
  refine wo ?_
  refine AE ?_
  refine Ad 1 10 ?_
  refine Vg (L':= .box b5 31 (eDig Dig.zero):: .box b 59 (eSto (⟨(Ei p).1,p⟩:Sto))::(R2++LF)) (by rw[AX];exact dZ) rfl ?_ (fun h=>h)
  refine wo ?_
  refine AE ?_
  refine Ad 0 11 ?_
  refine wo ?_
  refine AE ?_
  refine CR (by decide+kernel) ?_
  have hxl:((s.take (Jf s (Ei p).1)++(⟨(Ei p).1,p⟩:Sto)::s.drop (Jf s (Ei p).1)).map eSto).length≤201:=by
   simp only[AU,AD,Ab,AN,B8];omega
  refine Jc 4 hv2 ⟨by unfold maxN;omega,by unfold maxN;omega⟩ dY rfl ?_
  refine wf ?_
  refine H0 rfl ?_
  rw[Yt]
  exact .refl _⟩
end Go.Proofs
namespace Go.Proofs
open Go Go.Q
def Nc (p:Pat):Nat:=(CB p).1.length
def Qy (n:Nat) (x:Ident):Prop:=0≤x.n∧(x.patch=Dig.zero→x.n < n)
structure P9 (c:Chg) (G:Ident→Prop):Prop where
 file:2≤c.kind→c.kind≤6→G c.file
 parent:c.kind=2→c.parent≠rRoot→G c.parent
 after:c.kind=5∨c.kind=6→G c.after
 before:c.kind=5∨c.kind=6→G c.before
 over: ∀ y∈c.over,G y
theorem P9.mono {c:Chg} {G H:Ident→Prop} (h:P9 c G) (k: ∀ x,G x→H x):P9 c H:=
 ⟨fun a b=>k _ (h.file a b),fun a b=>k _ (h.parent a b),fun a=>k _ (h.after a),fun a=>k _ (h.before a),fun y hy=>k _ (h.over y hy)⟩
theorem P9.and {c:Chg} {G H:Ident→Prop} (h:P9 c G) (k:P9 c H):P9 c fun x=>G x∧H x:=
 ⟨fun a b=>⟨h.file a b,k.file a b⟩,fun a b=>⟨h.parent a b,k.parent a b⟩,fun a=>⟨h.after a,k.after a⟩,fun a=>⟨h.before a,k.before a⟩,fun y hy=>⟨h.over y hy,k.over y hy⟩⟩
theorem O0 {x:Ident} {own:List Atm} {f:Bool} (h:Iz x own f=0):Qy own.length x:=by
 unfold Iz at h
 split at h
 ·omega
 rename_i h1
 have h1:Dp x own.length=true:=by simpa using h1
 unfold Dp at h1
 split at h1
 ·rename_i hp
  simp only[BP,AB]at h1
  exact⟨h1.1,fun _=>h1.2⟩
 ·rename_i hp
  simp only[BP,AB]at h1
  exact⟨h1.1,fun e=>absurd e hp⟩
theorem TL {c:Chg} {own:List Atm} (h:FB c own=0):P9 c (Qy own.length):=by
 unfold FB at h
 split at h
 ·rename_i h0;exact absurd h h0
 rename_i hF
 split at h
 ·rename_i h0;exact absurd h h0
 rename_i hP
 split at h
 ·rename_i h0;exact absurd h h0
 rename_i hE
 split at h
 ·rename_i h0;exact absurd h h0
 rename_i hO
 have hF:=Cp.1 hF
 have hP:=Cp.1 hP
 have hE:=Cp.1 hE
 have hO:=Cy (Cp.1 hO)
 unfold K3 at hF
 unfold Lx at hP
 unfold IE at hE
 refine⟨fun a b=>?_,fun a b=>?_,fun a=>?_,fun a=>?_,fun y hy=>O0 (hO y hy)⟩
 ·rw[if_pos ⟨a,b⟩]at hF;exact O0 hF
 ·rw[if_pos ⟨a,b⟩]at hP;exact O0 hP
 ·rw[if_pos (by unfold IL;rcases a with a|a<;>simp[a])]at hE
  exact O0 (Cy hE _ (by simp))
 ·rw[if_pos (by unfold IL;rcases a with a|a<;>simp[a])]at hE
  exact O0 (Cy hE _ (by simp))
def ZD (l:List Chg) (i:Nat):List Atm:=(l.take i).foldl (fun own c=>own++Dw c own.length) []
theorem S8: ∀ {l:List Chg} {own A:List Atm},DC l own=(A,0)→A=l.foldl (fun own c=>own++Dw c own.length) own∧
  ∀ i (h:i < l.length),C3 l[i]=0∧FB l[i] ((l.take i).foldl (fun own c=>own++Dw c own.length) own)=0
 | [],own,A,h=>by
   simp only[DC,Prod.mk.injEq]at h
   exact⟨h.1.symm,fun i hi=>absurd hi (Dy _)⟩
 |c::l,own,A,h=>by
  unfold DC at h
  split at h
  ·rename_i h0;exact absurd (congrArg Prod.snd h) h0
  rename_i h1
  split at h
  ·rename_i h0;exact absurd (congrArg Prod.snd h) h0
  rename_i h2
  obtain⟨k1,k2⟩:=S8 h
  refine⟨k1,fun i hi=>?_⟩
  cases i with
  |zero=>exact⟨Cp.1 h1,Cp.1 h2⟩
  |succ i=>exact k2 i (by simpa using hi)
theorem ZC: ∀ (l:List Chg) (own:List Atm),own.length≤(l.foldl (fun own c=>own++Dw c own.length) own).length
 | [],_=>An _
 |c::l,own=>CT (by rw[AD];omega) (ZC l (own++Dw c own.length))
structure WX (p:Pat):Prop where
 made:(CB p).1=p.changes.foldl (fun own c=>own++Dw c own.length) []
 fields: ∀ i (h:i < p.changes.length),C3 p.changes[i]=0
 refs: ∀ i (h:i < p.changes.length),FB p.changes[i] (ZD p.changes i)=0
theorem Ht {p:Pat} (h:(CB p).2=0):WX p:=by
 unfold CB at h
 have:DC p.changes []=((CB p).1,0):=by
  unfold CB
  split at h
  ·simp at h
  rename_i h1
  rw[if_neg h1]
  split at h
  ·simp at h
  rename_i h1
  rw[if_neg h1]
  split at h
  ·simp at h
  rename_i h1
  rw[if_neg h1]
  split at h
  ·rename_i h1;exact absurd h h1
  rename_i h1
  rw[if_neg h1]
  split at h
  ·simp at h
  rename_i h1
  rw[if_neg h1]
  split at h
  ·simp at h
  rename_i h1
  rw[if_neg h1]
  exact Prod.ext rfl h
 obtain⟨h1,h2⟩:=S8 this
 exact⟨h1,fun i hi=>(h2 i hi).1,fun i hi=>(h2 i hi).2⟩
theorem kG {p:Pat} (h:WX p) (i:Nat):(ZD p.changes i).length≤Nc p:=by
 unfold Nc ZD
 rw[h.made]
 have e:p.changes=p.changes.take i++p.changes.drop i:=(CH i _).symm
 conv=>rhs;rw[e,Bk]
 exact ZC _ _
theorem WX.uses {p:Pat} (h:WX p) {c:Chg} (hc:c∈p.changes):P9 c (Qy (Nc p)):=by
 obtain⟨i,hi,rfl⟩:=Ai.1 hc
 exact(TL (h.refs i hi)).mono fun x hx=>⟨hx.1,fun e=>by have:=hx.2 e;have:=kG h i;omega⟩
def Kt (s:List Sto) (x:Ident):Prop:=x.patch≠Dig.zero→ ∃ z∈s,z.id=x.patch∧0≤x.n∧x.n < Nc z.patch
theorem LA {o:Option Atm} {f:Atm→Bool} (h:Ea o f=0):o.isSome=true:=by
 unfold Ea at h
 split at h
 ·omega
 ·rename_i h1
  cases ho:o.isSome with
  |true=>rfl
  |false=>exact absurd ho h1
theorem Mw {s:List Sto} (v:Bc s) {x:Ident} (h:(IM s x).isSome=true):Kt s x:=fun hz=>by
 unfold IM at h
 split at h
 ·simp at h
 rename_i h1
 unfold Ig at h1 h
 cases hg:getS s x.patch with
 |none=>
  rw[hg]at h1
  exfalso
  apply h1
  right
  have:(JA Pat.zero).1= []:=by unfold JA;rw[if_pos (by decide+kernel)]
  rw[NN,this]
  simp only[Af]
  omega
 |some p=>
  rw[hg,CA]at h1
  obtain⟨z,hz,e1,e2⟩:=Jg hg
  refine⟨z,hz,e1,by omega,?_⟩
  subst e2
  have:(JA z.patch).1.length=Nc z.patch:=by
   unfold JA Nc
   rw[if_neg (by simp[(v.id z hz).1])]
   simp
  omega
theorem Ym {s:List Sto} (v:Bc s) {x f:Ident} {d:Dig} (h:H4 s x f d=0) (hf:Kt s f):Kt s x:=fun hz=>by
 unfold H4 at h
 split at h
 ·rename_i h1
  rcases h1 with h1|h1
  ·unfold FY at h1;simp at h1;exact absurd h1 hz
  ·subst h1;exact hf hz
 ·exact Mw v (LA h) hz
theorem bP {s:List Sto} (v:Bc s) {c:Chg} {d:Dig} (h:LH s c d=0):P9 c (Kt s):=by
 unfold LH at h
 split at h
 ·rename_i h0;exact absurd h h0
 rename_i hF
 split at h
 ·rename_i h0;exact absurd h h0
 rename_i hP
 split at h
 ·rename_i h0;exact absurd h h0
 rename_i hA
 split at h
 ·rename_i h0;exact absurd h h0
 rename_i hB
 have hF:=Cp.1 hF
 have hP:=Cp.1 hP
 have hA:=Cp.1 hA
 have hB:=Cp.1 hB
 have hO:=Cy h
 have xF:Kt s c.file:=fun hz=>by
  unfold Jb at hF
  rw[if_pos (by unfold FY;simp[hz])]at hF
  exact Mw v (LA hF) hz
 refine⟨fun _ _=>xF,fun _ _ hz=>?_,fun _=>Ym v hA xF,fun _=>Ym v hB xF,fun y hy hz=>?_⟩
 ·unfold MB at hP
  rw[if_pos (by unfold FY;simp[hz])]at hP
  exact Mw v (LA hP) hz
 ·have:=hO y hy
  unfold O3 at this
  rw[if_neg (by unfold FY;simp[hz])]at this
  exact Mw v (LA this) hz
theorem Bc.uses {s:List Sto} (v:Bc s) {x:Sto} (hx:x∈s) {c:Chg} (hc:c∈x.patch.changes):P9 c fun y=>Qy (Nc x.patch) y∧Kt s y:=by
 have hp:=Ht (Js (v.id x hx).1).1
 refine(hp.uses hc).and (bP v (d:=x.id) ?_)
 exact Cy (v.refs x hx) c hc
end Go.Proofs
namespace Go.Q
open Go
structure Mta where
 author:Str
 message:Str
 time:Int
 deriving DecidableEq
def Mta.zero:Mta:=⟨[],[],0⟩
def Ed (c:Mta):List PV:= [.str c.author]++([.str c.message]++([.raw (.int .i64 c.time)]))
@[simp] theorem kc (c:Mta):(Ed c).length=3:=by unfold Ed;simp
instance :NM Ed 3:=⟨kc⟩
instance (c:Mta):Dn (Ed c):=by unfold Ed;infer_instance
instance (c:Mta):GB (.agg (Ed c)) Ed c:=⟨DB.agg _⟩
instance ks (c:Mta):Jv (Ed c) 0 [.str c.author]:=by unfold Ed;exact DQ
instance ju (c:Mta) (x:Str):FA (Ed c) 0 [.str x] (Ed { c with author:=x }):=by unfold Ed;exact DV (by simp)
instance iH (c:Mta):Jv (Ed c) 1 [.str c.message]:=by unfold Ed;exact Aj (n:=1) (off:=0) (by simp) (DQ)
instance ov (c:Mta):Jv (Ed c) 2 [.raw (.int .i64 c.time)]:=by unfold Ed;exact Aj (n:=1) (off:=1) (by simp) (Aj (n:=1) (off:=0) (by simp) (Km))
structure Mvd where
 old:Dig
 lo:Int
 hi:Int
 patch:Dig
 dst:Int
 deriving DecidableEq
def Mvd.zero:Mvd:=⟨Dig.zero,0,0,Dig.zero,0⟩
def eMvd (c:Mvd):List PV:=(eDig c.old)++([.raw (.int .i64 c.lo)]++([.raw (.int .i64 c.hi)]++((eDig c.patch)++([.raw (.int .i64 c.dst)]))))
@[simp] theorem kb (c:Mvd):(eMvd c).length=67:=by unfold eMvd;simp
instance :NM eMvd 67:=⟨kb⟩
instance (c:Mvd):Dn (eMvd c):=by unfold eMvd;infer_instance
instance :Jm eMvd:=⟨fun c=>(inferInstance:Dn (eMvd c)).out⟩
instance (c:Mvd):GB (.agg (eMvd c)) eMvd c:=⟨DB.agg _⟩
instance Zh (c:Mvd):Jv (eMvd c) 0 (eDig c.old):=by unfold eMvd;exact DQ
instance qP (c:Mvd):Q4 (eMvd c) 0 32 (eDig c.old):=Hx (Zh c) (by simp)
instance qp (c:Mvd) (x:Dig):FA (eMvd c) 0 (eDig x) (eMvd { c with old:=x }):=by unfold eMvd;exact DV (by simp)
instance c8 (c:Mvd):Jv (eMvd c) 32 [.raw (.int .i64 c.lo)]:=by unfold eMvd;exact Aj (n:=32) (off:=0) (by simp) (DQ)
instance vj (c:Mvd):At (eMvd c) 32 (.raw (.int .i64 c.lo)):=Gf (c8 c)
instance c9 (c:Mvd):Jv (eMvd c) 33 [.raw (.int .i64 c.hi)]:=by unfold eMvd;exact Aj (n:=32) (off:=1) (by simp) (Aj (n:=1) (off:=0) (by simp) (DQ))
instance vk (c:Mvd):At (eMvd c) 33 (.raw (.int .i64 c.hi)):=Gf (c9 c)
instance tH (c:Mvd) (x:Int):FA (eMvd c) 33 [.raw (.int .i64 x)] (eMvd { c with hi:=x }):=by unfold eMvd;exact Ag (n:=32) (off:=1) (by simp) (Ag (n:=1) (off:=0) (by simp) (DV (by simp)))
instance Um (c:Mvd):Jv (eMvd c) 34 (eDig c.patch):=by unfold eMvd;exact Aj (n:=32) (off:=2) (by simp) (Aj (n:=1) (off:=1) (by simp) (Aj (n:=1) (off:=0) (by simp) (DQ)))
instance mE (c:Mvd):Q4 (eMvd c) 34 32 (eDig c.patch):=Hx (Um c) (by simp)
instance Zi (c:Mvd):Jv (eMvd c) 66 [.raw (.int .i64 c.dst)]:=by unfold eMvd;exact Aj (n:=32) (off:=34) (by simp) (Aj (n:=1) (off:=33) (by simp) (Aj (n:=1) (off:=32) (by simp) (Aj (n:=32) (off:=0) (by simp) (Km))))
instance uX (c:Mvd):At (eMvd c) 66 (.raw (.int .i64 c.dst)):=Gf (Zi c)
instance qq (c:Mvd) (x:Int):FA (eMvd c) 66 [.raw (.int .i64 x)] (eMvd { c with dst:=x }):=by unfold eMvd;exact Ag (n:=32) (off:=34) (by simp) (Ag (n:=1) (off:=33) (by simp) (Ag (n:=1) (off:=32) (by simp) (Ag (n:=32) (off:=0) (by simp) (Kb (by simp)))))
end Go.Q
