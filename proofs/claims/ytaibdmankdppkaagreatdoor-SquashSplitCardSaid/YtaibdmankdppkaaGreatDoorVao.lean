/- Contracts of the program: the atoms of a patch with its identity. -/
import Derived.Test.YtaibdmankdppkaaGreatDoorVan
import Derived.Test.YtaibdmankdppkaaGreatDoorVah
import Derived.Test.YtaibdmankdppkaaGreatDoorVaj
import Derived.Test.YtaibdmankdppkaaGreatDoorVam
import Derived.Test.YtaibdmankdppkaaGreatDoorVad
set_option linter.unusedSimpArgs false
set_option linter.unusedVariables false
set_option maxHeartbeats 8000000
namespace Go.Proofs
open Go Go.Q
attribute [local irreducible] EY AU GP BH Fk
instance yd (x:Ident) (d:Dig):C9 Tryz.prog 252 [.agg (eIdent x),.pt (eDig d) 0] (.agg (eIdent (E0 x d))):=⟨by
 refine Av Tryz.func252 Tryz.ntmps252 rfl (rs:= [.cell 3 65]) rfl rfl fun hb LF=>?_
 refine s7 fun b2=>?_
 refine CA fun b3=>?_
 refine wf ?_
 refine Ao (fun hp=>?_) (fun hp=>?_)
 ·have h0:x.patch=Dig.zero:=by simpa using hp
  refine wf ?_
  refine A6 (fun h=>?_) (fun h=>?_)
  ·refine wf ?_
   refine Fi rfl (.of_eq ?_)
   rw[E0,if_pos ⟨h0,h⟩]
  ·refine wf ?_
   refine Fi rfl (.of_eq ?_)
   rw[E0,if_neg (fun h'=>h h'.2)]
 ·have h0: ¬x.patch=Dig.zero:=by simpa using hp
  refine wf ?_
  refine Fi rfl (.of_eq ?_)
  rw[E0,if_neg (fun h'=>h0 h'.1)]⟩
def iE (d:Dig) (a:Atm):Atm:={ a with id:=E0 a.id d }
def ow (d:Dig) (a:Atm):Atm:=if a.kind≠7 then { a with file:=E0 a.file d }else a
def ov (d:Dig) (a:Atm):Atm:=if a.kind=2 then { a with parent:=E0 a.parent d }else a
def ou (d:Dig) (a:Atm):Atm:=if a.kind=6 then { a with src:=E0 a.src d,dst:=E0 a.dst d }else a
def vS (d:Dig) (a:Atm):Atm:={ a with over:=sortI (a.over.map fun y=>E0 y d) }
def fP (d:Dig) (a:Atm):Atm:=vS d (ou d (ov d (ow d (iE d a))))
def JO (p:Pat):List Atm × Int:=if(Kv p).2.2≠0 then([],(Kv p).2.2)else if(Ew p).2≠0 then([],(Ew p).2)else((Kv p).1.map (fP (Ew p).1),0)
theorem aA (p:Pat) (hs:E4 p=false):C9 Tryz.prog 201 [.agg (Ba p)] (.tuple [.slice ((JO p).1.map eAtm) .ro,.raw (.int .i64 (JO p).2)]):=⟨by
 have i0:Ay (E4 p=false):=⟨hs⟩
 refine Av Tryz.func201 Tryz.ntmps201 rfl (rs:= [.tmp 2,.tmp 3]) rfl rfl fun hb LF=>?_
 repeat(refine DT ?_)
 refine CK (by kernel_rfl) ?_
 refine wo ?_
 refine AE ?_
 repeat(refine DT ?_)
 refine CK (by kernel_rfl) ?_
 refine YW (by rfl) (hl:=(by infer_instance)) ?_
 refine CV (xs:= [.tmp 15]) [] LF (f:=81) (cs:= []) (C4 _) rfl rfl (.refl _) _ (Zt p hs) fun r L' ⟨x,y,e,hor⟩=>?_
 subst e
 refine wf ?_
 refine wf ?_
 rcases hor with ⟨hne,rfl⟩|⟨he0,v,rfl,hrow,hll⟩
 ·refine AR (fun h=>?_) (fun h=>absurd h hne)
  refine wf ?_
  refine HD ?_
  rw[JO,if_pos hne]
  exact .tuple2 (.ros rfl) (.refl _)
 refine AR (fun h=>absurd he0 h) (fun h=>?_)
 refine wf ?_
 refine CA fun b7=>?_
 refine wo ?_
 refine AE ?_
 refine B2 7 ?_
 refine wf ?_
 refine AR (fun h2=>?_) (fun h2=>?_)
 ·refine N3 (fun i=> .inl rfl) (DC L' LF) ?_
  refine wf ?_
  refine HD ?_
  rw[JO,if_neg (by simp[he0]),if_pos h2]
  exact .tuple2 (.ros rfl) (.refl _)
 have e1:JO p=((Kv p).1.map (fP (Ew p).1),0):=by rw[JO,if_neg (by simp[he0]),if_neg (by simpa using h2)]
 rw[e1]
 have hov: ∀ a∈(Kv p).1,a.over.length≤40:=fun a ha=>by
  unfold Kv at ha
  split at ha
  ·cases ha
  ·split at ha
   ·cases ha
   ·exact(EG hs).2 a ha
 generalize (Kv p).1=l at hrow hll hov ⊢
 generalize (Ew p).1=g
 obtain⟨⟨o,cc,ev⟩,_⟩:=hrow.slice
 rw[AQ]at ev
 subst ev
 refine wf ?_
 refine IH rfl ?_
 refine wf ?_
 refine AZ (σ:=Nat × List Res) (fun k=>k.1≤l.length∧Fv 125 172 (.slice o l.length cc) (((l.take k.1).map (fP g)++l.drop k.1).map eAtm) k.2) (fun k=>l.length - k.1) (fun k=> [(4,.raw (.slice o l.length cc)),(8,.clo 252 [.pt (eDig g) 0]),(32,.raw (.slice o l.length cc)),(33,.raw (.int .i64 l.length)),(34,.raw (.int .i64 k.1))]) (fun k=>k.2++LF) (0,_) ⟨by simp,by simpa using hrow⟩ ⟨rfl,rfl,rfl,rfl,rfl⟩ (.refl _) ?_
 rintro⟨k,R⟩ ⟨hk,hR⟩
 dsimp only at hk hR ⊢
 refine wf ?_
 refine A6 (fun hc=>?_) (fun hc=>?_)
 ·have hlt:k < l.length:=by omega
  obtain⟨xs,hxs⟩: ∃ xs,xs=((l.take k).map (fP g)++l.drop k).map eAtm:=⟨_,rfl⟩
  rw[←hxs]at hR
  have hlk:xs.length=l.length:=by rw[hxs];simp;omega
  have hel:xs[k]'(by omega)=eAtm l[k]:=by
   subst hxs
   rw[B5,BO (by simp;omega),FB]
   congr 2
   simp;omega
  obtain⟨r,rest,rfl,rfl,hn,hcl,hsz,hcc⟩:=hR.inv (by omega)
  have isub:PA (xs.flatten++rest) (0+k*172) 172 (eAtm l[k]):=by
   rw[←hel];exact MQ hsz (by omega)
  refine wf ?_
  refine DI (k:=k) rfl rfl hlt ?_
  refine wf ?_
  refine CA fun b10=>?_
  refine wf ?_
  refine Hs True [(4,.raw (.slice (some ⟨r,0,none⟩) l.length cc)),(8,.clo 252 [.pt (eDig g) 0]),(9,.raw (.int .i64 k)),(10,.raw (.pointer (some ⟨b10,0,none⟩))),(32,.raw (.slice (some ⟨r,0,none⟩) l.length cc)),(33,.raw (.int .i64 l.length)),(34,.raw (.int .i64 k))] (.box b10 125 (eAtm (ow g (iE g l[k]))):: .box r 125 (xs.flatten++rest)::LF) ?_ fun _=>?_
  ·refine AR (fun h=>?_) (fun h=>?_)
   ·refine wf ?_
    rw[show ow g (iE g l[k])= { iE g l[k]with file:=E0 l[k].file g } by rw[ow,if_pos (show(iE g l[k]).kind≠7 from h)];rfl]
    exact⟨trivial,⟨rfl,rfl,rfl,rfl,rfl,rfl,rfl⟩,.refl _⟩
   ·refine wf ?_
    rw[show ow g (iE g l[k])=iE g l[k] by rw[ow,if_neg (show ¬(iE g l[k]).kind≠7 from fun h'=>h' h)]]
    exact⟨trivial,⟨rfl,rfl,rfl,rfl,rfl,rfl,rfl⟩,.refl _⟩
  have o2:(ow g (iE g l[k])).over.length≤40:=by
   have h:=hov _ (AH hlt)
   unfold ow;split<;>exact h
  generalize hg2:ow g (iE g l[k])=a2 at o2 ⊢
  refine wf ?_
  refine Hs True [(4,.raw (.slice (some ⟨r,0,none⟩) l.length cc)),(8,.clo 252 [.pt (eDig g) 0]),(9,.raw (.int .i64 k)),(10,.raw (.pointer (some ⟨b10,0,none⟩))),(32,.raw (.slice (some ⟨r,0,none⟩) l.length cc)),(33,.raw (.int .i64 l.length)),(34,.raw (.int .i64 k))] (.box b10 125 (eAtm (ov g a2)):: .box r 125 (xs.flatten++rest)::LF) ?_ fun _=>?_
  ·refine A6 (fun h=>?_) (fun h=>?_)
   ·refine wf ?_
    rw[show ov g a2= { a2 with parent:=E0 a2.parent g } by rw[ov,if_pos h]]
    exact⟨trivial,⟨rfl,rfl,rfl,rfl,rfl,rfl,rfl⟩,.refl _⟩
   ·refine wf ?_
    rw[show ov g a2=a2 by rw[ov,if_neg h]]
    exact⟨trivial,⟨rfl,rfl,rfl,rfl,rfl,rfl,rfl⟩,.refl _⟩
  have o3:(ov g a2).over.length≤40:=by unfold ov;split<;>exact o2
  generalize hg3:ov g a2=a3 at o3 ⊢
  refine wf ?_
  refine Hs True [(4,.raw (.slice (some ⟨r,0,none⟩) l.length cc)),(8,.clo 252 [.pt (eDig g) 0]),(9,.raw (.int .i64 k)),(10,.raw (.pointer (some ⟨b10,0,none⟩))),(32,.raw (.slice (some ⟨r,0,none⟩) l.length cc)),(33,.raw (.int .i64 l.length)),(34,.raw (.int .i64 k))] (.box b10 125 (eAtm (ou g a3)):: .box r 125 (xs.flatten++rest)::LF) ?_ fun _=>?_
  ·refine A6 (fun h=>?_) (fun h=>?_)
   ·rw[show ou g a3= { a3 with src:=E0 a3.src g,dst:=E0 a3.dst g } by rw[ou,if_pos h]]
    refine wn ?_
    refine FM [2,6,9,11] (by decide+kernel) ?_
    refine Eh 0 rfl (by decide+kernel) rfl (fun L'=>FL (N:=97) rfl rfl (by refine wo ?_;refine AE ?_;exact⟨Ch _ _ _,rfl⟩)) ?_
    refine Eh 1 rfl (by decide+kernel) rfl (fun L'=>FL (N:=97) rfl rfl (by refine wo ?_;refine AE ?_;exact⟨Ch _ _ _,rfl⟩)) ?_
    refine Eh 4 rfl (by decide+kernel) rfl (fun L'=>FL (N:=97) rfl rfl (by refine wo ?_;refine AE ?_;exact⟨Ch _ _ _,rfl⟩)) ?_
    refine Eh 5 rfl (by decide+kernel) rfl (fun L'=>FL (N:=97) rfl rfl (by refine wo ?_;refine AE ?_;exact⟨Ch _ _ _,rfl⟩)) ?_
    refine C3 (fuel:=7) [2,6] (by decide+kernel) (by simp) fun i hi=>?_
    simp only[AG,Aa,or_false]at hi
    rcases hi with rfl|rfl
    ·refine⟨_,rfl,?_⟩
     refine wf ?_
     refine Eh 3 rfl (by decide+kernel) rfl (fun L'=>FL (N:=97) rfl rfl (by refine wo ?_;refine AE ?_;exact⟨Ch _ _ _,rfl⟩)) ?_
     refine C3 (fuel:=5) [6] (by decide+kernel) (by simp) fun i hi=>?_
     simp only[AG,Aa,or_false]at hi
     subst hi
     refine⟨_,rfl,?_⟩
     refine wf ?_
     refine Eh 7 rfl (by decide+kernel) rfl (fun L'=>FL (N:=97) rfl rfl (by refine wo ?_;refine AE ?_;exact⟨Ch _ _ _,rfl⟩)) ?_
     refine Eh 8 rfl (by decide+kernel) rfl (fun L'=>FL (N:=97) rfl rfl (by refine wo ?_;refine AE ?_;exact⟨Ch _ _ _,rfl⟩)) ?_
     refine C3 (fuel:=2) [9] (by decide+kernel) (by simp) fun i hi=>?_
     simp only[AG,Aa,or_false]at hi
     subst hi
     refine⟨_,rfl,?_⟩
     refine wf ?_
     refine Eh 10 rfl (by decide+kernel) rfl (fun L'=>FL (N:=97) rfl rfl (by refine wo ?_;refine AE ?_;exact⟨Ch _ _ _,rfl⟩)) ?_
     refine C3 (fuel:=0) [11] (by decide+kernel) (by simp) fun i hi=>?_
     simp only[AG,Aa,or_false]at hi
     subst hi
     refine⟨_,rfl,?_⟩
     refine wf ?_
     refine CN (by decide+kernel) ?_
     refine wf ?_
     exact⟨trivial,⟨rfl,rfl,rfl,rfl,rfl,rfl,rfl⟩,.refl _⟩
    ·refine⟨_,rfl,?_⟩
     refine wf ?_
     refine C3 (fuel:=6) [2] (by decide+kernel) (by simp) fun i hi=>?_
     simp only[AG,Aa,or_false]at hi
     subst hi
     refine⟨_,rfl,?_⟩
     refine wf ?_
     refine Eh 3 rfl (by decide+kernel) rfl (fun L'=>FL (N:=97) rfl rfl (by refine wo ?_;refine AE ?_;exact⟨Ch _ _ _,rfl⟩)) ?_
     refine Eh 7 rfl (by decide+kernel) rfl (fun L'=>FL (N:=97) rfl rfl (by refine wo ?_;refine AE ?_;exact⟨Ch _ _ _,rfl⟩)) ?_
     refine Eh 8 rfl (by decide+kernel) rfl (fun L'=>FL (N:=97) rfl rfl (by refine wo ?_;refine AE ?_;exact⟨Ch _ _ _,rfl⟩)) ?_
     refine C3 (fuel:=2) [9] (by decide+kernel) (by simp) fun i hi=>?_
     simp only[AG,Aa,or_false]at hi
     subst hi
     refine⟨_,rfl,?_⟩
     refine wf ?_
     refine Eh 10 rfl (by decide+kernel) rfl (fun L'=>FL (N:=97) rfl rfl (by refine wo ?_;refine AE ?_;exact⟨Ch _ _ _,rfl⟩)) ?_
     refine C3 (fuel:=0) [11] (by decide+kernel) (by simp) fun i hi=>?_
     simp only[AG,Aa,or_false]at hi
     subst hi
     refine⟨_,rfl,?_⟩
     refine wf ?_
     refine CN (by decide+kernel) ?_
     refine wf ?_
     exact⟨trivial,⟨rfl,rfl,rfl,rfl,rfl,rfl,rfl⟩,.refl _⟩
   ·refine wf ?_
    rw[show ou g a3=a3 by rw[ou,if_neg h]]
    exact⟨trivial,⟨rfl,rfl,rfl,rfl,rfl,rfl,rfl⟩,.refl _⟩
  have o4:(ou g a3).over.length≤40:=by unfold ou;split<;>exact o3
  generalize hg4:ou g a3=a4 at o4 ⊢
  repeat(refine DT ?_)
  refine CK (by kernel_rfl) ?_
  refine Lv ?_
  refine AE ?_
  rw[show Env.ev _ (Operand.const (Value.slice none 0 0))= .raw (.slice none 0 0) from rfl]
  refine wf ?_
  refine AZ (σ:=Nat × Value × List Res) (fun j=>j.1≤a4.over.length∧pv j.2.1 ((a4.over.take j.1).map fun y=>E0 y g) j.2.2) (fun j=>a4.over.length - j.1) (fun j=> [(4,.raw (.slice (some ⟨r,0,none⟩) l.length cc)),(8,.clo 252 [.pt (eDig g) 0]),(9,.raw (.int .i64 k)),(10,.raw (.pointer (some ⟨b10,0,none⟩))),(11,.raw j.2.1),(32,.raw (.slice (some ⟨r,0,none⟩) l.length cc)),(33,.raw (.int .i64 l.length)),(34,.raw (.int .i64 k)),(74,.slice (a4.over.map eIdent) .ro),(75,.raw (.int .i64 a4.over.length)),(76,.raw (.int .i64 j.1))]) (fun j=>j.2.2++(.box b10 125 (eAtm a4):: .box r 125 (xs.flatten++rest)::LF)) (0,.slice none 0 0,[]) ⟨by simp,.nil none (by simp)⟩ ⟨rfl,rfl,rfl,rfl,rfl,rfl,rfl,rfl,rfl,rfl,rfl⟩ (.refl _) ?_
  rintro⟨j,v2,R2⟩ ⟨hj,hI⟩
  dsimp only at hj hI ⊢
  refine wf ?_
  refine A6 (fun hc2=>?_) (fun hc2=>?_)
  ·have hjl:j < a4.over.length:=by omega
   refine wz fun b13=>?_
   refine B2 13 ?_
   refine wf ?_
   refine Il (f:=eIdent) (m:= [E0 a4.over[j] g]) (R:=R2) (LF:= .box b10 125 (eAtm a4):: .box r 125 (xs.flatten++rest)::LF) (fun R'=>R'++(.box b10 125 (eAtm a4):: .box r 125 (xs.flatten++rest)::LF)) rfl rfl hI (.refl _) (fun R'=> .refl _) (by simp only[AQ,Ab,AN,Ae];omega) (by simp only[AQ,Ab,AN,Ae];omega) fun v3 R3 h3=>?_
   refine wf ?_
   refine wf ?_
   refine⟨(j+1,v3,R3),⟨by dsimp only;omega,?_⟩,by dsimp only;omega,⟨rfl,rfl,rfl,rfl,rfl,rfl,rfl,rfl,rfl,rfl,rfl⟩,.refl _⟩
   dsimp only
   rw[A7 hjl,Au]
   exact h3
  ·rw[AB (by omega)]at hI
   refine wf ?_
   refine CV (xs:= [.tmp 87,.func 159]) R2 (.box b10 125 (eAtm a4):: .box r 125 (xs.flatten++rest)::LF) (f:=158) (cs:= []) (C4 _) rfl rfl (.refl _) _ (YF _ _ R2 hI (by simp only[AQ];omega)) fun r' L3 ⟨v3,e3,h3⟩=>?_
   subst e3
   refine wo ?_
   refine AE ?_
   repeat(refine DT ?_)
   have hms:(sortI (a4.over.map fun y=>E0 y g)).length≤maxN∧(sortI (a4.over.map fun y=>E0 y g)).length*33≤maxN:=by
    have h1:maxN=140737488355328:=rfl
    have h2:(sortI (a4.over.map fun y=>E0 y g)).length=a4.over.length:=by rw[sortI,Dn,AQ]
    omega
   refine Gk (f:=eIdent) 11 h3 hms (.refl _) rfl ?_
   refine wf ?_
   have iput:Eg (xs.flatten++rest) (0+k*172) (eAtm { a4 with over:=sortI (a4.over.map fun y=>E0 y g) }) ((xs.set k (eAtm (vS g a4))).flatten++rest):=Qh hsz (by omega) (by simp)
   refine DI (k:=k) rfl rfl hlt ?_
   refine wf ?_
   have hset:xs.set k (eAtm (vS g a4))=((l.take (k+1)).map (fP g)++l.drop (k+1)).map eAtm:=by
    have hf:vS g a4=fP g l[k]:=by rw[fP,hg2,hg3,hg4]
    rw[hf,hxs]
    refine Dc (by simp;omega) fun i k1 k2=>?_
    rw[SU]
    split
    ·rename_i e
     subst e
     rw[B5,B7 (by simp;omega)]
     simp
    ·rename_i e
     rw[B5,B5]
     congr 1
     rcases BN i k with h'|h'
     ·rw[B7 (by simp;omega),B7 (by simp;omega)]
      simp
     ·rw[BO (by simp;omega),BO (by simp;omega)]
      simp only[FB,AQ,Ab]
      congr 1
      omega
   have hnew: ∀ e∈xs.set k (eAtm (vS g a4)),e.length=172:=fun e he=>by
    rw[hset]at he
    obtain⟨a,_,rfl⟩:=AY.1 he
    simp
   refine⟨(k+1,[.box r 125 ((xs.set k (eAtm (vS g a4))).flatten++rest)]),⟨by dsimp only;omega,?_⟩,by dsimp only;omega,⟨rfl,rfl,rfl,rfl,rfl⟩,.cons _ (.refl _)⟩
   dsimp only
   rw[←hset]
   refine .row (by rw[CT,hlk]) hcl hnew ?_
   have h1:=Cv hnew
   have h2:=Cv hsz
   rw[CT]at h1
   omega
 ·have hkk:k=l.length:=by omega
  subst hkk
  rw[DK,SV,BJ]at hR
  have hmx:((l.map (fP g)).map eAtm).length≤maxN∧((l.map (fP g)).map eAtm).length*172≤maxN:=by
   have:maxN=140737488355328:=rfl
   simp only[AQ];omega
  refine IZ 4 hR hmx (.refl _) rfl ?_
  refine wf ?_
  exact HD (.tuple2 (.ros rfl) (.refl _))⟩
end Go.Proofs
namespace Go.Proofs
open Go Go.Q
attribute [local irreducible] EY AU BH Fk
instance vc (p:Pat) [hs:Ay (E4 p=false)]:C9 Tryz.prog 145 [.agg (Ba p)] (.tuple [.slice ((JO p).1.map eAtm) .ro,.raw (.int .i64 (JO p).2)]):=⟨by
 have i1:C9 Tryz.prog 201 [.agg (Ba p)] (.tuple [.slice ((JO p).1.map eAtm) .ro,.raw (.int .i64 (JO p).2)]):=aA p hs.out
 refine Av Tryz.func145 Tryz.ntmps145 rfl (rs:= [.tmp 2,.tmp 3]) rfl rfl fun hb LF=>?_
 refine wf ?_
 exact HD (.refl _)⟩
instance zB:Ck Tryz.prog 170 [.slice [] .ro,.raw (.map none)]:=Ck.of (us:= [PV.slice [] .ro,.raw (.map none)].map zv) (by kernel_rfl) (by kernel_rfl)
def Xh (s:List Sto) (m:Nat):List PV:= [.slice (s.map eSto) .ro,.raw (.map (some m))]
def Hd (m:Nat) (known:List (Dig × List Atm)):List Res:= [.map m (Bb kDig (KV eAtm) known)]
theorem Tm (s:List Sto) (t:CD):BH Tryz.prog 75 [.slice (s.map eSto) t] [] (fun r L'=> ∃ m,r= .pt (Xh s m) 0∧L'=Hd m []):=by
 refine C8 Tryz.func75 rfl Tryz.ntmps75 (rs:= [.tmp 2]) rfl rfl fun hb LF=>?_
 refine wf ?_
 refine Oc fun m=>?_
 refine wf ?_
 exact⟨trivial,_,Hd m [],.cons (.tmp 2) .nil,.refl _,m,rfl,rfl⟩
theorem kg (s:List Sto) (d:Dig):(Fh (fun x=>decide (x.id=d)) s < 0→getS s d=none)∧(∀ k:Nat,Fh (fun x=>decide (x.id=d)) s=(k:Int)→ ∃ h:k < s.length,getS s d=some s[k].patch):=by
 have key: ∀ l:List Sto,(l.any (fun x=>decide (x.id=d))=false→getS l d=none)∧(l.any (fun x=>decide (x.id=d))=true→ ∃ h:l.findIdx (fun x=>decide (x.id=d)) < l.length,getS l d=some (l[l.findIdx fun x=>decide (x.id=d)]).patch):=fun l=>by
  induction l with
  |nil=>exact⟨fun _=>rfl,fun h=>by cases h⟩
  |cons x l ih=>
   by_cases hx:x.id=d
   ·refine⟨fun h=>by simp[hx]at h,fun _=>?_⟩
    have e:(x::l).findIdx (fun x=>decide (x.id=d))=0:=by simp[J4,hx]
    refine⟨by rw[e];simp,?_⟩
    simp only[e,BK]
    rw[getS,if_pos hx]
   ·have eg:getS (x::l) d=getS l d:=by rw[getS,if_neg hx]
    refine⟨fun h=>by rw[eg];exact ih.1 (by simpa [hx]using h),fun h=>?_⟩
    obtain⟨h1,h2⟩:=ih.2 (by simpa [hx]using h)
    have e:(x::l).findIdx (fun x=>decide (x.id=d))=l.findIdx (fun x=>decide (x.id=d))+1:=by simp[J4,hx]
    refine⟨by rw[e,AN];omega,?_⟩
    simp only[e,DJ]
    rw[eg,h2]
 obtain⟨k1,k2⟩:=key s
 refine⟨fun h=>k1 ?_,fun k h=>?_⟩
 ·unfold Fh at h
  by_cases ha:s.any (fun x=>decide (x.id=d))=true
  ·rw[if_pos ha]at h;omega
  ·simpa using ha
 ·unfold Fh at h
  by_cases ha:s.any (fun x=>decide (x.id=d))=true
  ·rw[if_pos ha]at h
   have hk:s.findIdx (fun x=>decide (x.id=d))=k:=by omega
   obtain⟨h1,h2⟩:=k2 ha
   subst hk
   exact⟨h1,h2⟩
  ·rw[if_neg ha]at h;omega
instance yc (x:Sto) (d:Dig):C9 Tryz.prog 52 [.agg (eSto x),.pt (eDig d) 0] (.raw (.bool (decide (x.id=d)))):=⟨by
 refine Av Tryz.func52 Tryz.ntmps52 rfl (rs:= [.tmp 3]) rfl rfl fun hb LF=>?_
 refine wf ?_
 exact Aw (.refl _)⟩
instance Sg (s:List Sto) (t:CD) (d:Dig):C9 Tryz.prog 17 [.slice (s.map eSto) t,.agg (eDig d)] (.tuple [.agg (Ba ((getS s d).getD Pat.zero)),.raw (.bool (getS s d).isSome)]):=⟨by
 have i1: ∀ t,C9 Tryz.prog 51 [.slice (s.map eSto) t,.clo 52 [.pt (eDig d) 0]] (.raw (.int .i64 (Fh (fun x=>decide (x.id=d)) s))):=fun t=>Vn _ _ _ s t
 obtain⟨g1,g2⟩:=kg s d
 refine Av Tryz.func17 Tryz.ntmps17 rfl (rs:= [.cell 4 40,.tmp 5]) rfl rfl fun hb LF=>?_
 refine wf ?_
 refine CA fun b4=>?_
 refine wf ?_
 refine A6 (fun h=>?_) (fun h=>?_)
 ·rw[g1 h]
  rw[CW,NR]
  refine wf ?_
  exact LK rfl (.refl _)
 ·obtain⟨k,hk⟩: ∃ k:Nat,Fh (fun x=>decide (x.id=d)) s=(k:Int):=⟨(Fh (fun x=>decide (x.id=d)) s).toNat,by omega⟩
  obtain⟨hlt,hg⟩:=g2 k hk
  rw[hk,hg,Option.isSome_some,CJ]
  refine wf ?_
  exact LK rfl (.refl _)⟩
def coreA (a:Atm):Atm:={ a with over:= [] }
theorem PS: ∀ (l:List Chg) (own:List Atm),Nf own→Nf (Cz l own).1
 | [],_,h=>h
 |c::l,own,h=>by
  unfold Cz
  split
  ·exact fun i hi=>absurd hi (by simp)
  ·split
   ·exact fun i hi=>absurd hi (by simp)
   ·exact PS l _ (Pq c h)
theorem Zb (p:Pat):Nf (CF p).1:=by
 have h0:Nf ([]:List Atm):=fun i hi=>absurd hi (by simp)
 unfold CF
 repeat' split
 all_goals first|exact h0|exact PS _ _ h0
theorem ot (d:Dig) {a:Atm} (h1:a.id.patch=Dig.zero) (h2:0≤a.id.n):coreA (fP d a)=coreA (VZ d a):=by
 have e:iE d a=Mx d a:=by
  unfold iE Mx E0;rw[if_pos ⟨h1,h2⟩]
 rw[fP,VZ,e]
 rfl
theorem X2 (p:Pat):(Kv p).2.2=(Ew p).2:=by
 rw[X3,Ew]
 by_cases h:(CU p).2≠0
 ·rw[if_pos h]
 ·rw[if_neg h];simpa using h
theorem X1 {p:Pat} (h:(Kv p).2.2=0):(Kv p).1=(CF p).1∧(CF p).2=0:=by
 unfold Kv at h ⊢
 by_cases g1:(CF p).2≠0
 ·rw[if_pos g1]at h;exact absurd h g1
 by_cases g2:65536 < ((Ni p).length:Int)
 ·rw[if_neg g1,if_pos g2]at h;exact absurd h (by decide)
 rw[if_neg g1,if_neg g2]
 exact⟨rfl,by simpa using g1⟩
theorem c9 (p:Pat):(JO p).1.map coreA=(JH p).1.map coreA:=by
 unfold JO JH
 rw[X2]
 by_cases h:(Ew p).2≠0
 ·rw[if_pos h,if_pos h]
 ·rw[if_neg h,if_neg h,if_neg h]
  have h3:(Kv p).2.2=0:=by rw[X2];simpa using h
  dsimp only
  rw[(X1 h3).1,Cd,Cd]
  refine DF fun a ha=>?_
  obtain⟨i,hi,rfl⟩:=Ag.1 ha
  have e:=Zb p i hi
  exact ot _ (by rw[e]) (by rw[e];exact Int.natCast_nonneg _)
def Ja (s:List Sto) (d:Dig):List Atm:=(JO ((getS s d).getD Pat.zero)).1
def J0 (s:List Sto) (x:Ident):Option Atm:=if x.n < 0∨((Ja s x.patch).length:Int)≤x.n then none else(Ja s x.patch)[x.n.toNat]?
theorem gX (s:List Sto) (x:Ident):(J0 s x).map coreA=(IY s x).map coreA:=by
 have e:=c9 ((getS s x.patch).getD Pat.zero)
 have el:=congrArg List.length e
 rw[AQ,AQ]at el
 unfold J0 IY Ja Iq
 rw[el]
 by_cases h:x.n < 0∨((JH ((getS s x.patch).getD Pat.zero)).1.length:Int)≤x.n
 ·rw[if_pos h,if_pos h]
 ·rw[if_neg h,if_neg h,←H3,←H3,e]
theorem bA {f:Atm→Bool} (hf: ∀ a,f a=f (coreA a)) {o p:Option Atm} (e:o.map coreA=p.map coreA):EP o f=EP p f:=by
 cases o with
 |none=>cases p with
  |none=>rfl
  |some b=>cases e
 |some a=>cases p with
  |none=>cases e
  |some b=>
   have e2:coreA a=coreA b:=by simpa using e
   unfold EP
   rw[CJ,CJ,hf a,hf b,e2];rfl
theorem Og (s:List Sto) (x:Ident) {f:Atm→Bool} (hf: ∀ a,f a=f (coreA a)):EP (J0 s x) f=EP (IY s x) f:=bA hf (gX s x)
def PR (c:Chg) (g:Ident) (r:Rfc):Atm→Bool:=
 if r.f=187 then vQ c.kind else if r.f=189 then o7 else if r.f=190 then uz r.id c.file g else wA (iB c.kind) g
theorem Ts {l:List Rfc} {r x:Rfc} (h:r∈Jh l x):r∈l∨r=x:=by
 unfold Jh at h
 split at h
 ·exact .inl h
 ·simpa using h
theorem Rb {α:Type} {f:α→Rfc} {r:Rfc}: ∀ {o:List α} {l:List Rfc},r∈o.foldl (fun l x=>Jh l (f x)) l→r∈l∨ ∃ x∈o,r=f x
 | [],_,h=> .inl h
 |y::o,l,h=>by
  rw[Bz]at h
  rcases Rb (o:=o) h with h|⟨x,hx,e⟩
  ·rcases Ts h with h|h
   ·exact .inl h
   ·exact .inr ⟨y,by simp,h⟩
  ·exact .inr ⟨x,by simp[hx],e⟩
theorem gB (id:Dig) (c:Chg) (r:Rfc) (h:r∈Jd id c):y6 Tryz.prog r (PR c (DU id c) r):=by
 unfold Jd sg at h
 rcases Rb h with h|⟨x,_,rfl⟩
 ·unfold gw at h
  have key:r∈au c (Y1 c)∨ ∃ x:Ident,r=OG (DU id c) c x:=by
   split at h
   ·rcases Rb h with h|⟨x,_,e⟩
    ·exact .inl h
    ·exact .inr ⟨x,e⟩
   ·exact .inl h
  rcases key with h|⟨x,rfl⟩
  ·unfold au at h
   have key:r∈Y1 c∨r=⟨c.parent,189,[]⟩:=by
    split at h
    ·exact Ts h
    ·exact .inl h
   rcases key with h|rfl
   ·unfold Y1 at h
    have key:r=⟨c.file,187,[.pt (eChg c) 0]⟩:=by
     split at h
     ·rcases Ts h with h|h
      ·cases h
      ·exact h
     ·cases h
    subst key
    exact⟨inferInstance,fun a=>(sO c a).out⟩
   ·exact⟨inferInstance,fun a=>(sN a).out⟩
  ·exact⟨(inferInstance:B1 Tryz.prog 190),fun a=>(sL x (DU id c) c a).out⟩
 ·exact⟨(inferInstance:B1 Tryz.prog 192),fun a=>(sK (iB c.kind) (DU id c) a).out⟩
def HY (s:List Sto) (c:Chg) (g:Ident) (r:Rfc):Int:=EP (J0 s r.id) (PR c g r)
def OM (s:List Sto) (id:Dig) (c:Chg):Int:=Az (HY s c (DU id c)) (Jd id c)
def R6 (s:List Sto) (p:Pat) (id:Dig):Int:=Az (OM s id) p.changes
theorem Lh (f:Rfc→Int) (l:List Rfc) (r:Rfc):Az f (Jh l r)=if Az f l≠0 then Az f l else if r.id.patch=Dig.zero then 0 else f r:=by
 unfold Jh
 by_cases h:r.id.patch=Dig.zero
 ·rw[if_pos h,if_pos h]
  by_cases h2:Az f l=0
  ·rw[if_neg (by simp[h2]),h2]
  ·rw[if_pos h2]
 ·rw[if_neg h,if_neg h,Gi]
  have:Az f [r]=f r:=by
   rw[Az,Az];split
   ·rename_i h;exact h.symm
   ·rfl
  rw[this]
theorem Iw {α:Type} (f:Rfc→Int) (h:α→Rfc): ∀ (o:List α) (l:List Rfc),Az f (o.foldl (fun l x=>Jh l (h x)) l)=if Az f l≠0 then Az f l else Az (fun x=>if(h x).id.patch=Dig.zero then 0 else f (h x)) o
 | [],l=>by
   by_cases h2:Az f l=0
   ·simp[h2,Az]
   ·simp[h2]
 |x::o,l=>by
  rw[Bz,Iw f h o,Lh,Az]
  generalize (if(h x).id.patch=Dig.zero then 0 else f (h x))=v
  by_cases h2:Az f l=0<;>by_cases h3:v=0<;>simp[h2,h3]
theorem S6 {c:Chg} (hf:C0 c=0):(¬(2≤c.kind∧c.kind≤6)→c.file=Ident.zero)∧(c.kind≠2→c.parent=Ident.zero)∧(¬(c.kind=5∨c.kind=6)→c.after=Ident.zero∧c.before=Ident.zero):=by
 have h2:=KI hf
 unfold Fg Hp at h2
 simp only[BQ,AA]at h2
 obtain⟨⟨⟨⟨⟨⟨⟨⟨⟨h1,_⟩,h3⟩,_⟩,_⟩,_⟩,h7⟩,h8⟩,_⟩,_⟩:=h2
 refine⟨fun h=>?_,fun h=>?_,fun h=>⟨?_,?_⟩⟩
 ·rwa [if_neg h]at h1
 ·rwa [if_neg h]at h3
 ·rwa [if_neg h]at h7
 ·rwa [if_neg h]at h8
theorem lA (s:List Sto) (id:Dig) {c:Chg} {own:List Atm} (hf:C0 c=0) (hr:Ey c own=0):OM s id c=LB s c id:=by
 have hk:=Jn hf
 obtain⟨z1,z2,z3⟩:=S6 hf
 have hn:2≤c.kind∧c.kind≤6→0≤c.file.n:=fun h=>by
  have h1:K4 c own=0:=by
   by_cases h0:K4 c own=0
   ·exact h0
   ·rw[Ey,if_pos h0]at hr;exact absurd hr h0
  rw[K4,if_pos h,J6]at h1
  by_cases h2:Dk c.file own.length=false
  ·rw[if_pos h2]at h1;omega
  ·have h2:Dk c.file own.length=true:=by simpa using h2
   unfold Dk at h2
   split at h2<;>simp at h2<;>omega
 have hg:2≤c.kind∧c.kind≤6→DU id c=HJ c.file id:=fun h=>by
  unfold DU HJ
  by_cases h1:c.file.patch=Dig.zero
  ·rw[if_pos h1,if_pos ⟨hn h,h1⟩]
  ·rw[if_neg h1,if_neg (fun h=>h1 h.2)]
 have e1:Az (HY s c (DU id c)) (Y1 c)=Jg s c:=by
  unfold Y1 Jg
  by_cases h:c.kind≠1∧c.kind≠7
  ·rw[if_pos h,Lh,if_neg (by simp[Az])]
   unfold FT
   by_cases h1:c.file.patch=Dig.zero
   ·rw[if_pos h1,if_neg (by simp[h1])]
   ·rw[if_neg h1,if_pos (by simp[h1]),HY,show PR c (DU id c) ⟨c.file,187,[.pt (eChg c) 0]⟩=vQ c.kind from rfl,Og s c.file (fun a=>rfl)]
    congr 1
    funext a
    unfold vQ EK IX
    by_cases h5:c.kind=5∨c.kind=6
    ·rcases h5 with h|h<;>simp[h]
    ·have: ¬c.kind=5∧ ¬c.kind=6:=⟨fun h=>h5 (.inl h),fun h=>h5 (.inr h)⟩
     by_cases h4:c.kind=4<;>simp[this,h4]
  ·rw[if_neg h,z1 (by omega)]
   simp[Az,FT,Ident.zero]
 have e2: ∀ l,Az (HY s c (DU id c)) (au c l)=if Az (HY s c (DU id c)) l≠0 then Az (HY s c (DU id c)) l else MH s c:=fun l=>by
  unfold au MH
  by_cases h:c.kind=2
  ·rw[if_pos h,Lh]
   unfold FT
   by_cases h1:c.parent.patch=Dig.zero
   ·rw[if_pos h1,if_neg (by simp[h1]: ¬(!decide (c.parent.patch=Dig.zero))=true)]
   ·rw[if_neg h1,if_pos (by simp[h1]:(!decide (c.parent.patch=Dig.zero))=true),HY,show PR c (DU id c) ⟨c.parent,189,[]⟩=o7 from rfl,Og s c.parent (fun a=>rfl)]
    rfl
  ·rw[if_neg h,z2 h,if_neg (by simp[FT,Ident.zero]: ¬FT Ident.zero=true)]
   split
   ·rfl
   ·rename_i h;simpa using h
 have e3:Jg s c=0→ ∀ l,Az (HY s c (DU id c)) (gw (DU id c) c l)=if Az (HY s c (DU id c)) l≠0 then Az (HY s c (DU id c)) l else if Gv s c.after c.file id≠0 then Gv s c.after c.file id else Gv s c.before c.file id:=fun hF l=>by
  unfold gw
  by_cases h:c.kind=5∨c.kind=6
  ·have hx: ∀ x:Ident,(if(OG (DU id c) c x).id.patch=Dig.zero then 0 else HY s c (DU id c) (OG (DU id c) c x))=Gv s x c.file id:=fun x=>by
    unfold Gv FT
    by_cases h1:x.patch=Dig.zero
    ·rw[if_pos (show(OG (DU id c) c x).id.patch=Dig.zero from h1),if_pos (by simp[h1])]
    ·rw[if_neg (show ¬(OG (DU id c) c x).id.patch=Dig.zero from h1),HY,show PR c (DU id c) (OG (DU id c) c x)=uz x c.file (DU id c) from rfl,show(OG (DU id c) c x).id=x from rfl,Og s x (fun a=>rfl)]
     by_cases h2:x=c.file
     ·rw[if_pos (.inr h2)]
      subst h2
      rw[Jg,if_pos (by simp[FT,h1]),EP]at hF
      by_cases h3:(IY s c.file).isSome=false
      ·rw[if_pos h3]at hF;omega
      ·rw[EP,if_neg h3,if_neg (by simp[uz])]
     ·rw[if_neg (by simp[h1,h2]),hg (by omega)]
      congr 1
      funext a
      simp[uz,Jf,h2]
   rw[if_pos h,Iw,Az,Az,Az,hx,hx]
   by_cases q1:Gv s c.after c.file id=0
   ·rw[if_pos q1,if_neg (by simp[q1]: ¬Gv s c.after c.file id≠0)]
    by_cases q2:Gv s c.before c.file id=0
    ·rw[if_pos q2,q2]
    ·rw[if_neg q2]
   ·rw[if_neg q1,if_pos q1]
  ·obtain⟨za,zb⟩:=z3 h
   have q:Gv s Ident.zero c.file id=0:=by rw[Gv,if_pos (.inl (by simp[FT,Ident.zero]))]
   rw[if_neg h,za,zb,q]
   split
   ·rfl
   ·rename_i h;simpa using h
 have e4: ∀ l,Az (HY s c (DU id c)) (sg (DU id c) c l c.over)=if Az (HY s c (DU id c)) l≠0 then Az (HY s c (DU id c)) l else Az (O7 s c id) c.over:=fun l=>by
  unfold sg
  rw[Iw]
  congr 1
  refine GM fun x hx=>?_
  have h15:c.kind≠1∧c.kind≠5:=⟨fun h=>(by rw[Jm hf (.inl h)]at hx;simp at hx),fun h=>(by rw[Jm hf (.inr h)]at hx;simp at hx)⟩
  unfold O7 FT
  by_cases h1:x.patch=Dig.zero
  ·rw[if_pos (show(N4 (DU id c) c x).id.patch=Dig.zero from h1),if_pos (by simp[h1])]
  ·rw[if_neg (show ¬(N4 (DU id c) c x).id.patch=Dig.zero from h1),if_neg (by simp[h1]),HY,show PR c (DU id c) (N4 (DU id c) c x)=wA (iB c.kind) (DU id c) from rfl,show(N4 (DU id c) c x).id=x from rfl,Og s x (fun a=>rfl)]
   congr 1
   funext a
   unfold wA HH TI iB
   by_cases h7:c.kind=7
   ·simp[h7]
   ·have:c.kind=2∨c.kind=3∨c.kind=4∨c.kind=6:=by omega
    rw[if_pos this,if_neg h7,hg (by omega)]
 unfold OM Jd LB
 rw[e4]
 by_cases q0:Jg s c=0
 ·rw[e3 q0,e2,e1,q0]
  by_cases q1:MH s c=0
  ·by_cases q2:Gv s c.after c.file id=0
   ·by_cases q3:Gv s c.before c.file id=0
    ·simp[q1,q2,q3]
    ·simp[q1,q2,q3]
   ·simp[q1,q2]
  ·simp[q1]
 ·have k2:Az (HY s c (DU id c)) (au c (Y1 c))=Jg s c:=by rw[e2,e1,if_pos q0]
  have k3:Az (HY s c (DU id c)) (gw (DU id c) c (au c (Y1 c)))=Jg s c:=by
   unfold gw
   split
   ·rw[Iw,k2,if_pos q0]
   ·exact k2
  rw[k3,if_pos q0,if_pos q0]
theorem UV: ∀ {l:List Chg} {own:List Atm},(Cz l own).2=0→ ∀ c∈l,C0 c=0∧ ∃ own,Ey c own=0
 | [],_,_,c,h=>by cases h
 |x::l,own,h,c,hc=>by
  unfold Cz at h
  by_cases h1:C0 x≠0
  ·rw[if_pos h1]at h;exact absurd h h1
  by_cases h2:Ey x own≠0
  ·rw[if_neg h1,if_pos h2]at h;exact absurd h h2
  rw[if_neg h1,if_neg h2]at h
  rcases AG.1 hc with rfl|hc
  ·exact⟨by simpa using h1,own,by simpa using h2⟩
  ·exact UV h c hc
theorem Uu {p:Pat} (h:(CF p).2=0): ∀ c∈p.changes,C0 c=0∧ ∃ own,Ey c own=0:=by
 have e:J8 p=0:=by
  by_cases h0:J8 p=0
  ·exact h0
  ·rw[Ig,if_pos h0]at h;exact absurd h h0
 rw[N1 e]at h
 exact UV h
theorem iV (s:List Sto) {p:Pat} (id:Dig) (h:(Ew p).2=0):R6 s p id=GV s p id:=by
 have h2:=(X1 (p:=p) (by rw[X2];exact h)).2
 refine GM fun c hc=>?_
 obtain⟨hf,own,hr⟩:=Uu h2 c hc
 exact lA s id hf hr
end Go.Proofs
namespace Go.Proofs
open Go Go.Q
theorem QA {n:Nat} (h:n < 256):(UInt8.ofNat n).toNat=n:=by
 rw[UInt8.toNat_ofNat'];omega
theorem Mz (n:Nat): ∀ c∈Hr n,48≤c.toNat∧c.toNat≤57:=by
 induction n using Nat.strongRecOn with
 |_ n ih=>
  by_cases h:n < 10
  ·rw[IL h]
   intro c hc
   rw[Aj.1 hc,QA (by omega)]
   omega
  ·rw[MG h]
   intro c hc
   rcases Ah.1 hc with hc|hc
   ·exact ih (n / 10) (by omega) c hc
   ·rw[Aj.1 hc,QA (by omega)]
    omega
theorem dE (n:Nat):Hr n≠ []:=by
 by_cases h:n < 10
 ·rw[IL h];simp
 ·rw[MG h];simp
def qK (l:Str):Nat:=l.foldl (fun a c=>10*a+(c.toNat - 48)) 0
theorem Sk (n:Nat):qK (Hr n)=n:=by
 induction n using Nat.strongRecOn with
 |_ n ih=>
  by_cases h:n < 10
  ·rw[IL h]
   show 10*0+((UInt8.ofNat (48+n)).toNat - 48)=n
   rw[QA (by omega)];omega
  ·rw[MG h]
   have e:=ih (n / 10) (by omega)
   unfold qK at e ⊢
   rw[CB,e]
   show 10*(n / 10)+((UInt8.ofNat (48+n % 10)).toNat - 48)=n
   rw[QA (by omega)];omega
theorem TT {n m:Nat} (h:Hr n=Hr m):n=m:=by rw[←Sk n,h,Sk]
theorem Va (n:Nat) (l:Str) (r:Str): ¬45::l=Hr n++r:=fun h=>by
 cases hd:Hr n with
 |nil=>exact dE n hd
 |cons c t=>
  rw[hd,B3]at h
  injection h with h1 _
  have:=Mz n c (by rw[hd];simp)
  rw[←h1]at this
  exact absurd this.1 (by decide)
theorem fC {n m:Int} (h:J9 n=J9 m):n=m:=by
 unfold J9 at h
 by_cases h1:n < 0
 ·by_cases h2:m < 0
  ·rw[if_pos h1,if_pos h2]at h
   injection h with _ h
   have:=TT h
   omega
  ·rw[if_pos h1,if_neg h2]at h
   exact absurd (by rw[h,BJ]) (Va m.toNat _ [])
 ·by_cases h2:m < 0
  ·rw[if_neg h1,if_pos h2]at h
   exact absurd (by rw[←h,BJ]) (Va n.toNat (Hr (-m).toNat) [])
  ·rw[if_neg h1,if_neg h2]at h
   have:=TT h
   omega
theorem cU: ∀ {a b r s:Str},(∀ c∈a,c.toNat≤57)→(∀ c∈b,c.toNat≤57)→a++58::r=b++58::s→a=b∧r=s
 | [],[],r,s,_,_,h=>⟨rfl,by simpa using h⟩
 | [],y::b,r,s,_,hb,h=>by
   rw[BB,B3]at h
   injection h with h1 _
   have:=hb y (by simp)
   rw[←h1]at this
   exact absurd this (by decide)
 |x::a,[],r,s,ha,_,h=>by
  rw[BB,B3]at h
  injection h with h1 _
  have:=ha x (by simp)
  rw[h1]at this
  exact absurd this (by decide)
 |x::a,y::b,r,s,ha,hb,h=>by
  rw[B3,B3]at h
  injection h with h1 h2
  obtain⟨e1,e2⟩:=cU (fun c hc=>ha c (AL _ hc)) (fun c hc=>hb c (AL _ hc)) h2
  exact⟨by rw[h1,e1],e2⟩
theorem Oz: ∀ {d:Nat} {x:Sx},P5 d x→ ∃ c t,Dq d x=c::t∧c≠41∧(c=40↔x.isList=true)
 |0,_,h=>h.elim
 |d+1,x,_=>by
  cases hl:x.isList with
  |true=>exact⟨40,_,by rw[Dq,if_pos hl],by decide,by simp⟩
  |false=>
   have e:Dq (d+1) x=Hr x.atom.length++58::x.atom:=by rw[Dq,if_neg (by simp[hl])]
   cases hd:Hr x.atom.length with
   |nil=>exact absurd hd (dE _)
   |cons c t=>
    have hc:=Mz x.atom.length c (by rw[hd];simp)
    refine⟨c,t++58::x.atom,by rw[e,hd];rfl,?_,?_⟩
    ·rintro rfl;exact absurd hc.1 (by decide)
    ·constructor
     ·rintro rfl;exact absurd hc.1 (by decide)
     ·intro h';cases h'
theorem Zw {d:Nat} (ih: ∀ {x y:Sx} {r s:Str},P5 d x→P5 d y→Dq d x++r=Dq d y++s→x=y∧r=s): ∀ {l m:List Sx} {r s:Str},(∀ y∈l,P5 d y)→(∀ y∈m,P5 d y)→l.flatMap (Dq d)++41::r=m.flatMap (Dq d)++41::s→l=m∧r=s
 | [],[],r,s,_,_,h=>⟨rfl,by simpa using h⟩
 | [],y::m,r,s,_,hm,h=>by
   obtain⟨c,t,e,h41,_⟩:=Oz (hm y (by simp))
   rw[List.flatMap_nil,BB,DN,e,B3,B3]at h
   injection h with h1 _
   exact absurd h1.symm h41
 |x::l,[],r,s,hl,_,h=>by
  obtain⟨c,t,e,h41,_⟩:=Oz (hl x (by simp))
  rw[List.flatMap_nil,BB,DN,e,B3,B3]at h
  injection h with h1 _
  exact absurd h1 h41
 |x::l,y::m,r,s,hl,hm,h=>by
  rw[DN,DN,AV,AV]at h
  obtain⟨e1,e2⟩:=ih (hl x (by simp)) (hm y (by simp)) h
  obtain⟨e3,e4⟩:=Zw ih (fun z hz=>hl z (AL _ hz)) (fun z hz=>hm z (AL _ hz)) e2
  exact⟨by rw[e1,e3],e4⟩
theorem Zu: ∀ (d:Nat) {x y:Sx} {r s:Str},P5 d x→P5 d y→Dq d x++r=Dq d y++s→x=y∧r=s
 |0,_,_,_,_,h,_,_=>h.elim
 |d+1,x,y,r,s,hx,hy,h=>by
  obtain⟨c1,t1,e1,_,k1⟩:=Oz hx
  obtain⟨c2,t2,e2,_,k2⟩:=Oz hy
  have hc:c1=c2:=by
   rw[e1,e2,B3,B3]at h
   injection h
  subst hc
  have hkind:x.isList=y.isList:=by
   rw[H0];exact k1.symm.trans k2
  clear k1 k2 e1 e2
  obtain⟨b1,a1,l1⟩:=x
  obtain⟨b2,a2,l2⟩:=y
  change b1=b2 at hkind
  subst hkind
  rcases hx with ⟨h1,h2,h3⟩|⟨h1,h2,h3⟩
  ·rcases hy with ⟨_,g2,_⟩|⟨g1,_⟩
   ·change b1=false at h1
    change l1= []at h2
    change l2= []at g2
    subst h1 h2 g2
    have q1:Dq (d+1) (.mk false a1 [])=Hr a1.length++58::a1:=rfl
    have q2:Dq (d+1) (.mk false a2 [])=Hr a2.length++58::a2:=rfl
    rw[q1,q2,AV,AV,B3,B3]at h
    obtain⟨e1,e2⟩:=cU (fun c hc=>(Mz _ c hc).2) (fun c hc=>(Mz _ c hc).2) h
    obtain⟨e3,e4⟩:=List.append_inj e2 (TT e1)
    exact⟨by rw[e3],e4⟩
   ·change b1=false at h1
    change b1=true at g1
    rw[h1]at g1;cases g1
  ·rcases hy with ⟨g1,_⟩|⟨_,g2,g3⟩
   ·change b1=true at h1
    change b1=false at g1
    rw[h1]at g1;cases g1
   ·change b1=true at h1
    change a1= []at h2
    change a2= []at g2
    subst h1 h2 g2
    have q1:Dq (d+1) (.mk true [] l1)=40::(l1.flatMap (Dq d)++ [41]):=rfl
    have q2:Dq (d+1) (.mk true [] l2)=40::(l2.flatMap (Dq d)++ [41]):=rfl
    rw[q1,q2,B3,B3,AV,AV]at h
    injection h with _ h
    obtain⟨e1,e2⟩:=Zw (fun hx hy h=>Zu d hx hy h) h3 g3 h
    exact⟨congrArg (Sx.mk true []) e1,e2⟩
theorem Kg {α β:Type} {f:α→β}: ∀ {l m:List α},(∀ x∈l,∀ y∈m,f x=f y→x=y)→l.map f=m.map f→l=m
 | [],[],_,_=>rfl
 | [],y::m,_,h=>by simp at h
 |x::l,[],_,h=>by simp at h
 |x::l,y::m,hf,h=>by
  rw[Aq,Aq]at h
  injection h with h1 h2
  rw[hf x (by simp) y (by simp) h1,Kg (fun a ha b hb=>hf a (AL _ ha) b (AL _ hb)) h2]
theorem HG {a b:Str} (h:Cj a=Cj b):a=b:=congrArg Sx.atom h
theorem KO {l m:List Sx} (h:E6 l=E6 m):l=m:=congrArg Sx.list h
theorem Yd {a b:Dig} (h:KD a=KD b):a=b:=by
 unfold KD at h
 by_cases h1:a=Dig.zero
 ·by_cases h2:b=Dig.zero
  ·rw[h1,h2]
  ·rw[if_pos h1,if_neg h2]at h
   have:=congrArg List.length (HG h)
   rw[b.len]at this;simp at this
 ·by_cases h2:b=Dig.zero
  ·rw[if_neg h1,if_pos h2]at h
   have:=congrArg List.length (HG h)
   rw[a.len]at this;simp at this
  ·rw[if_neg h1,if_neg h2]at h
   exact Dig.ext (HG h)
def SC (n:Int):Prop:= -1099511627776≤n∧n≤1099511627776
theorem Ny {n m:Int} (hn:SC n) (hm:SC m) (h:GG n=GG m):n=m:=by
 unfold SC at hn hm
 unfold GG RP at h
 rw[if_neg (by omega),if_neg (by omega)]at h
 exact fC (HG h)
theorem H7 {x y:Ident} (hx:SC x.n) (hy:SC y.n) (h:GF x=GF y):x=y:=by
 have h:=KO h
 injection h with h1 h2
 injection h2 with h2 _
 obtain⟨p,n⟩:=x
 obtain⟨q,m⟩:=y
 have e1:=Yd h1
 have e2:=Ny hx hy h2
 subst e1 e2;rfl
structure pR (c:Chg):Prop where
 fields:C0 c=0
 file:SC c.file.n
 parent:SC c.parent.n
 after:SC c.after.n
 before:SC c.before.n
 over: ∀ x∈c.over,SC x.n
 mode:c.kind=3→SC c.mode
 type:c.kind=1→SC c.type
theorem Lx {l m:List Ident} (hl: ∀ x∈l,SC x.n) (hm: ∀ x∈m,SC x.n) (h:J7 l=J7 m):l=m:=
 Kg (fun x hx y hy e=>H7 (hl x hx) (hm y hy) e) (KO h)
theorem VS (c:Chg):(Ku c).list=([GG c.kind]++K3 c++IW c)++L7 c:=rfl
theorem jY {c e:Chg} (hc:pR c) (he:pR e) (h:Ku c=Ku e):c=e:=by
 have k1:=Jn hc.fields
 have k2:=Jn he.fields
 have z1:=KI hc.fields
 have z2:=KI he.fields
 have h:=congrArg Sx.list h
 rw[VS,VS]at h
 have hk:c.kind=e.kind:=by
  have h1:=congrArg List.head? h
  simp only[J2,B3,List.head?_cons,J3]at h1
  exact Ny (by unfold SC;omega) (by unfold SC;omega) h1
 obtain⟨ck,cfile,ctype,cparent,cname,cmode,cdata,cafter,cbefore,clines,cover⟩:=c
 obtain⟨ek,efile,etype,eparent,ename,emode,edata,eafter,ebefore,elines,eover⟩:=e
 change ck=ek at hk
 subst hk
 obtain⟨_,c1,c2,c3,c4,c5,c6,c7⟩:=hc
 obtain⟨_,e1,e2,e3,e4,e5,e6,e7⟩:=he
 simp only at k1 c1 c2 c3 c4 c5 c6 c7 e1 e2 e3 e4 e5 e6 e7
 unfold Fg Hp at z1 z2
 simp only[BQ,AA]at z1 z2
 obtain⟨⟨⟨⟨⟨⟨⟨⟨⟨p1,p2⟩,p3⟩,p4⟩,p5⟩,p6⟩,p7⟩,p8⟩,p9⟩,p10⟩:=z1
 obtain⟨⟨⟨⟨⟨⟨⟨⟨⟨q1,q2⟩,q3⟩,q4⟩,q5⟩,q6⟩,q7⟩,q8⟩,q9⟩,q10⟩:=z2
 have n9: ∀ {α:Type} {l:List α},(l.length:Int)=0→l= []:=fun h=>BA (by omega)
 have p9:=n9 p9
 have p10:=n9 p10
 have q9:=n9 q9
 have q10:=n9 q10
 clear n9
 have hlin: ∀ {l m:List Str},E6 (l.map Cj)=E6 (m.map Cj)→l=m:=fun h=>Kg (fun _ _ _ _ e=>HG e) (KO h)
 rcases kinds k1 with rfl|rfl|rfl|rfl|rfl|rfl|rfl<;>
  simp (decide:=true) only[K3,IW,L7,if_true,if_false,ite_true,ite_false,BB,BJ,J2,B3,OY,true_and,and_true,and_self,true_or,or_true,or_self,ne_eq,not_true_eq_false,not_false_eq_true]at h p1 p2 p3 p4 p5 p6 p7 p8 p9 p10 q1 q2 q3 q4 q5 q6 q7 q8 q9 q10
 ·have:=Ny (c7 rfl) (e7 rfl) h
  simp only[*]
 ·obtain⟨h1,h2,h3,h4⟩:=h
  have:=H7 c1 e1 h1
  have:=H7 c2 e2 h2
  have:=HG h3
  have:=Lx c5 e5 h4
  simp only[*]
 ·obtain⟨h1,h2,h3⟩:=h
  have:=H7 c1 e1 h1
  have:=Ny (c6 rfl) (e6 rfl) h2
  have:=Lx c5 e5 h3
  simp only[*]
 ·obtain⟨h1,h2,h3⟩:=h
  have:=H7 c1 e1 h1
  have:=HG h2
  have:=Lx c5 e5 h3
  simp only[*]
 ·obtain⟨h1,h2,h3,h4⟩:=h
  have:=H7 c1 e1 h1
  have:=H7 c3 e3 h2
  have:=H7 c4 e4 h3
  have:=hlin h4
  simp only[*]
 ·obtain⟨h1,h2,h3,h4⟩:=h
  have:=H7 c1 e1 h1
  have:=H7 c3 e3 h2
  have:=H7 c4 e4 h3
  have:=Lx c5 e5 h4
  simp only[*]
 ·have:=Lx c5 e5 h
  simp only[*]
theorem SG (N:Nat): ∀ {l:List Chg} {own:List Atm},(Cz l own).2=0→own.length+4001*l.length≤N→ ∀ c∈l,C0 c=0∧ ∃ own:List Atm,own.length≤N∧Ey c own=0
 | [],_,_,_,c,h=>by cases h
 |x::l,own,h,hN,c,hc=>by
  unfold Cz at h
  by_cases h1:C0 x≠0
  ·rw[if_pos h1]at h;exact absurd h h1
  by_cases h2:Ey x own≠0
  ·rw[if_neg h1,if_pos h2]at h;exact absurd h h2
  rw[if_neg h1,if_neg h2]at h
  have h1:C0 x=0:=by simpa using h1
  rw[AN]at hN
  rcases AG.1 hc with rfl|hc
  ·exact⟨h1,own,by omega,by simpa using h2⟩
  ·refine SG N h ?_ c hc
   have:=MB x own.length
   have:=JW h1
   rw[AD]
   omega
theorem QN {x:Ident} {own:List Atm} {b:Bool} (hN:own.length≤1000000000) (h:J6 x own b=0):SC x.n:=by
 unfold J6 at h
 by_cases h1:Dk x own.length=false
 ·rw[if_pos h1]at h;exact absurd h (by decide)
 ·have h1:Dk x own.length=true:=by simpa using h1
  unfold Dk at h1
  unfold SC
  split at h1<;>simp at h1<;>omega
theorem Qd:SC Ident.zero.n:=by unfold SC;exact⟨by decide,by decide⟩
theorem pQ {c:Chg} {own:List Atm} (hN:own.length≤1000000000) (hf:C0 c=0) (hr:Ey c own=0):pR c:=by
 obtain⟨z1,z2,z3⟩:=S6 hf
 have r1:K4 c own=0:=by
  by_cases h0:K4 c own=0
  ·exact h0
  ·rw[Ey,if_pos h0]at hr;exact absurd hr h0
 rw[Ey,if_neg (by simp[r1])]at hr
 have r2:Lz c own=0:=by
  by_cases h0:Lz c own=0
  ·exact h0
  ·rw[if_pos h0]at hr;exact absurd hr h0
 rw[if_neg (by simp[r2])]at hr
 have r3:IJ c own=0:=by
  by_cases h0:IJ c own=0
  ·exact h0
  ·rw[if_pos h0]at hr;exact absurd hr h0
 rw[if_neg (by simp[r3])]at hr
 have r4:Az (O2 c own) c.over=0:=by
  by_cases h0:Az (O2 c own) c.over=0
  ·exact h0
  ·rw[if_pos h0]at hr;exact absurd hr h0
 have hE:(c.kind=5∨c.kind=6)→ ∀ x∈ [c.after,c.before],SC x.n:=fun h x hx=>by
  rw[IJ,if_pos (by unfold IX;simpa using h)]at r3
  exact QN hN (DZ r3 x hx)
 refine⟨hf,?_,?_,?_,?_,fun x hx=>QN hN (DZ r4 x hx),fun h=>?_,fun h=>?_⟩
 ·by_cases h:2≤c.kind∧c.kind≤6
  ·rw[K4,if_pos h]at r1;exact QN hN r1
  ·rw[z1 h];exact Qd
 ·by_cases h:c.kind=2
  ·by_cases h2:c.parent=rRoot
   ·rw[h2];unfold SC;exact⟨by decide,by decide⟩
   ·rw[Lz,if_pos ⟨h,h2⟩]at r2;exact QN hN r2
  ·rw[z2 h];exact Qd
 ·by_cases h:c.kind=5∨c.kind=6
  ·exact hE h _ (by simp)
  ·rw[(z3 h).1];exact Qd
 ·by_cases h:c.kind=5∨c.kind=6
  ·exact hE h _ (by simp)
  ·rw[(z3 h).2];exact Qd
 ·unfold SC
  unfold C0 at hf
  have: ¬(c.mode < 0∨511 < c.mode):=fun hm=>by
   rw[if_neg (by omega)]at hf
   split at hf
   ·omega
   ·rw[if_neg (by omega),if_neg (by omega),if_pos ⟨h,hm⟩]at hf;omega
  omega
 ·unfold SC
  unfold C0 at hf
  have: ¬(c.type < 1∨4 < c.type):=fun hm=>by
   rw[if_neg (by omega)]at hf
   split at hf
   ·omega
   ·rw[if_pos ⟨h,hm⟩]at hf;omega
  omega
theorem UR {p:Pat} (h:(CF p).2=0):(∀ c∈p.changes,pR c)∧SC p.time:=by
 have e:J8 p=0:=by
  by_cases h0:J8 p=0
  ·exact h0
  ·rw[Ig,if_pos h0]at h;exact absurd h h0
 rw[N1 e]at h
 have ht: ¬(p.time < 0∨1099511627776 < p.time)∧ ¬400 < (p.changes.length:Int):=by
  unfold J8 at e
  split at e
  ·omega
  split at e
  ·omega
  split at e
  ·omega
  rename_i ht
  split at e
  ·rename_i hd;exact absurd e hd
  split at e
  ·omega
  split at e
  ·omega
  rename_i hc
  exact⟨ht,hc⟩
 refine⟨fun c hc=>?_,by unfold SC;omega⟩
 obtain⟨hf,own,hN,hr⟩:=SG 1600400 h (by simp;omega) c hc
 exact pQ (by omega) hf hr
theorem jh {p q:Pat} (hp:W0 p) (hq:W0 q) (cp:(CF p).2=0) (cq:(CF q).2=0) (h:Ni p=Ni q):p=q:=by
 obtain⟨c1,t1⟩:=UR cp
 obtain⟨c2,t2⟩:=UR cq
 have h1:=(Zu 8 (r:= []) (s:= []) hp.ok.1 hq.ok.1 (by rw[BJ,BJ];exact h)).1
 have h1:=KO h1
 simp only[OY,and_true,true_and]at h1
 obtain⟨e1,e2,e3,e4,e5⟩:=h1
 replace e1:=HG e1
 replace e2:=HG e2
 replace e3:=Ny t1 t2 e3
 replace e4:=Kg (fun _ _ _ _ e=>Yd e) (KO e4)
 replace e5:=Kg (fun x hx y hy e=>jY (c1 x hx) (c2 y hy) e) (KO e5)
 obtain⟨a1,a2,a3,a4,a5⟩:=p
 obtain⟨b1,b2,b3,b4,b5⟩:=q
 simp only at e1 e2 e3 e4 e5
 subst e1 e2 e3 e4 e5;rfl
attribute [local irreducible] EY AU BH Fk
section
variable {P:Program} {N:Nat} {all:Array Oper} {K:Env→List Res→Prop} {fl:List Bool} {os:List Oper} {ρ:Env} {L:List Res} {d:Nat} {ty:TypeId} {pos:String} {af:Array Edge}
theorem Nw {x:Operand} {cs:List PV} {off:Nat} (hx:ρ.ev x= .pt cs off) (k:AU P N all K fl.tail os (CR ρ d (.pt cs off)) L) (hd:Nat.blt d N=true:=by rfl):AU P N all K fl (⟨some d,.nilCheck x,ty,pos,af,none⟩::os) ρ L:=
 Bg hd (B9 fun a w g ha hi=>by
  have h1:=ha x (by simp[Op.operands])
  rw[hx]at h1
  generalize hv:a.eval x=v at h1
  cases h1 with
  |pt ff hH hv'=>
   rename_i b o
   exact⟨.pointer (some ⟨b,o+off,none⟩),by simp[execOp,hv],.pt ff hH hv'⟩) k
end
instance xf (s:List Sto) (m:Nat):Jc (Xh s m) 0 [.slice (s.map eSto) .ro]:=⟨by simp[Xh]⟩
instance xe (s:List Sto) (m:Nat):Jc (Xh s m) 1 [.raw (.map (some m))]:=⟨by simp[Xh]⟩
def Jb (s:List Sto) (known:List (Dig × List Atm)):Prop:= ∀ d l,CY d known=some l→l=Ja s d
theorem Jb.set {s:List Sto} {known:List (Dig × List Atm)} (h:Jb s known) (d:Dig):Jb s (Dd d (Ja s d) known):=fun x l e=>by
 rw[HQ]at e
 split at e
 ·rename_i hx;subst hx;injection e with e;exact e.symm
 ·exact h x l e
theorem lS (s:List Sto) (hg:Gw s) (m:Nat) (known:List (Dig × List Atm)) (hk:Jb s known) (x:Ident):BH Tryz.prog 140 [.pt (Xh s m) 0,.agg (eIdent x)] (Hd m known) (fun r L'=>r= .tuple [.agg (eAtm ((J0 s x).getD Atm.zero)),.raw (.bool (J0 s x).isSome)]∧ ∃ known',L'=Hd m known'∧Jb s known'):=by
 have i1:Ay (E4 ((getS s x.patch).getD Pat.zero)=false):=⟨hg.great _⟩
 refine C8 Tryz.func140 rfl Tryz.ntmps140 (rs:= [.cell 4 125,.tmp 5]) rfl rfl fun hb LF=>?_
 rw[show Hd m known++LF= .map m (Bb kDig (KV eAtm) known)::LF from rfl]
 refine wf ?_
 refine CA fun b4=>?_
 refine wf ?_
 refine Nw rfl ?_
 refine wf ?_
 refine EH (.swap _ _ _) ?_
 refine Ca (σ:=List (Dig × List Atm)) (fun k=>Jb s k) (fun k=> [(3,.pt (eIdent x) 0),(4,.raw (.pointer (some ⟨b4,0,none⟩))),(6,.slice ((Ja s x.patch).map eAtm) .ro)]) (fun k=> .map m (Bb kDig (KV eAtm) k):: .box b4 125 (eAtm Atm.zero)::LF) ?_ ?_
 ·refine AO (fun h=>?_) (fun h=>?_)
  ·refine wn ?_
   refine FM [10,11] (by decide+kernel) ?_
   refine Ar 0 ?_
   refine Ar 1 (hq:=fun _=>by refine Nw rfl ?_;refine AE ?_;exact⟨Ch _ _ _,rfl⟩) ?_
   refine Ar 2 ?_
   refine Ar 3 ?_
   refine Ar 4 ?_
   refine Ar 5 ?_
   refine Ar 6 ?_
   refine Ar 7 ?_
   refine Ar 8 ?_
   refine Ar 9 ?_
   refine Ad 2 10 ?_
   refine CA fun b8=>?_
   refine AE ?_
   refine Ad 1 11 ?_
   refine wo ?_
   refine AE ?_
   refine Ad 0 12 ?_
   refine wo ?_
   refine AE ?_
   refine CN (by decide+kernel) ?_
   refine B2 8 ?_
   refine wn ?_
   refine BX 7 ?_ ?_
   ·decide+kernel
   refine wf ?_
   refine Nw rfl ?_
   refine wf ?_
   exact⟨Dd x.patch (Ja s x.patch) known,hk.set _,⟨rfl,rfl,rfl⟩,.refl _⟩
  ·have h1:(CY x.patch known).isSome=true:=by simpa using h
   obtain⟨l,hl⟩:=FZ.1 h1
   have e:=hk _ _ hl
   subst e
   refine wf ?_
   refine⟨known,hk,⟨rfl,rfl,by rw[hl];rfl⟩,.refl _⟩
 intro k hkn
 refine EH (.swap _ _ _) ?_
 refine wf ?_
 refine BG [(53,.raw (.bool (decide (x.n < 0∨((Ja s x.patch).length:Int)≤x.n)))),(3,.pt (eIdent x) 0),(4,.raw (.pointer (some ⟨b4,0,none⟩))),(6,.slice ((Ja s x.patch).map eAtm) .ro)] (.box b4 125 (eAtm Atm.zero):: .map m (Bb kDig (KV eAtm) k)::LF) ?_ ?_
 ·repeat' (first|(refine A6 (fun h=>?_) (fun h=>?_)<;>refine wf ?_)|(refine AR (fun h=>?_) (fun h=>?_)<;>refine wf ?_)|(refine AO (fun h=>?_) (fun h=>?_)<;>refine wf ?_)|(refine Ao (fun h=>?_) (fun h=>?_)<;>(have h2:=h;(try simp only[AA,A8,AF,AJ]at h2);refine wf ?_)))
  all_goals (refine⟨⟨Bh (by rfl) ?_,rfl,rfl,rfl⟩,.refl _⟩;first|(simp_all;done)|grind)
 refine wf ?_
 refine A6 (fun h=>?_) (fun h=>?_)
 ·refine wf ?_
  refine⟨trivial,_,Hd m k,.cons (.cell 4 125 rfl AI (inferInstance:Ea Tryz.prog 125 172).out (by simp)) (.cons (.tmp 5) .nil),.cons _ (.refl _),?_,k,rfl,hkn⟩
  rw[J0,if_pos h];rfl
 ·have hlt:x.n.toNat < (Ja s x.patch).length:=by omega
  refine wf ?_
  refine⟨trivial,_,Hd m k,.cons (.cell 4 125 rfl AI (inferInstance:Ea Tryz.prog 125 172).out (by simp)) (.cons (.tmp 5) .nil),.cons _ (.refl _),?_,k,rfl,hkn⟩
  rw[J0,if_neg h,AW hlt];rfl
theorem ew (id:Dig) (c:Chg):(Jd id c).length≤c.over.length+4:=by
 have r1:=dC c
 have r2:=dB c (Y1 c)
 have r3:=dA (DU id c) c (au c (Y1 c))
 have r4:=Kl (N4 (DU id c) c) c.over (gw (DU id c) c (au c (Y1 c)))
 unfold Jd sg
 omega
theorem eN (s:List Sto) (hg:Gw s) (m:Nat) (known:List (Dig × List Atm)) (hk0:Jb s known) (x:Sto) (hx:E4 x.patch=false):BH Tryz.prog 76 [.pt (Xh s m) 0,.agg (eSto x)] (Hd m known) (fun r L'=>r= .raw (.int .i64 (R6 s x.patch x.id))∧ ∃ known',L'=Hd m known'∧Jb s known'):=by
 have hgf:=(EF hx).2.2.2.2
 have hcl:=(EF hx).2.2.2.1
 refine C8 Tryz.func76 rfl Tryz.ntmps76 (rs:= [.tmp 4]) rfl rfl fun hb LF=>?_
 rw[show Hd m known++LF= .map m (Bb kDig (KV eAtm) known)::LF from rfl]
 refine wf ?_
 refine AZ (σ:=Nat × List (Dig × List Atm)) (fun k=>k.1≤x.patch.changes.length∧Jb s k.2∧ ∀ i (h:i < x.patch.changes.length),i < k.1→OM s x.id x.patch.changes[i]=0) (fun k=>x.patch.changes.length - k.1) (fun k=> [(0,.pt (Xh s m) 0),(3,.pt (eSto x) 0),(13,.slice (x.patch.changes.map eChg) .ro),(14,.raw (.int .i64 x.patch.changes.length)),(15,.raw (.int .i64 k.1))]) (fun k=> .map m (Bb kDig (KV eAtm) k.2)::LF) (0,known) ⟨by simp,hk0,by simp⟩ ⟨rfl,rfl,rfl,rfl,rfl⟩ (.refl _) ?_
 rintro⟨k,kn⟩ ⟨hk,hkn,he⟩
 dsimp only at hk hkn he ⊢
 refine wf ?_
 refine A6 (fun hc=>?_) (fun hc=>?_)
 ·have hlt:k < x.patch.changes.length:=by omega
  have hat:=DW (f:=OM s x.id) hlt he
  have hsu:=fun h=>E9 (f:=OM s x.id) he hlt h
  have hcg:=hgf _ (AH hlt)
  refine wz fun b6=>?_
  generalize x.patch.changes[k]=c at hat hsu hcg ⊢
  have i1:Ay (c.over.length≤400):=⟨by have:=hcg.over;omega⟩
  have hrl:(Jd x.id c).length≤400:=by have:=ew x.id c;have:=hcg.over;omega
  refine B2 6 ?_
  refine wf ?_
  refine AZ (σ:=Nat × List (Dig × List Atm)) (fun j=>j.1≤(Jd x.id c).length∧Jb s j.2∧ ∀ i (h:i < (Jd x.id c).length),i < j.1→HY s c (DU x.id c) (Jd x.id c)[i]=0) (fun j=>(Jd x.id c).length - j.1) (fun j=> [(0,.pt (Xh s m) 0),(3,.pt (eSto x) 0),(13,.slice (x.patch.changes.map eChg) .ro),(14,.raw (.int .i64 x.patch.changes.length)),(15,.raw (.int .i64 k)),(22,.slice ((Jd x.id c).map eRfc) .ro),(23,.raw (.int .i64 (Jd x.id c).length)),(24,.raw (.int .i64 j.1))]) (fun j=> .map m (Bb kDig (KV eAtm) j.2)::LF) (0,kn) ⟨by simp,hkn,by simp⟩ ⟨rfl,rfl,rfl,rfl,rfl,rfl,rfl,rfl⟩ (.refl _) ?_
  rintro⟨j,kn2⟩ ⟨hj,hkn2,hje⟩
  dsimp only at hj hkn2 hje ⊢
  refine wf ?_
  refine A6 (fun hc2=>?_) (fun hc2=>?_)
  ·have hlt2:j < (Jd x.id c).length:=by omega
   have hat2:=DW (f:=HY s c (DU x.id c)) hlt2 hje
   have hsu2:=fun h=>E9 (f:=HY s c (DU x.id c)) hje hlt2 h
   have hfit:=gB x.id c _ (AH hlt2)
   refine wz fun b8=>?_
   generalize (Jd x.id c)[j]=r at hat2 hsu2 hfit ⊢
   refine B2 8 ?_
   have i2:B1 Tryz.prog r.f:=hfit.fn
   have i3: ∀ a:Atm,C9 Tryz.prog r.f (.agg (eAtm a)::r.cs) (.raw (.bool (PR c (DU x.id c) r a))):=fun a=>⟨hfit.out a⟩
   have er:HY s c (DU x.id c) r=if(J0 s r.id).isSome=false then 7 else if PR c (DU x.id c) r ((J0 s r.id).getD Atm.zero)=false then 8 else 0:=rfl
   refine wf ?_
   refine CV (xs:= [.tmp 29,.tmp 31]) (Hd m kn2) LF (f:=140) (cs:= []) (C4 _) rfl rfl (.refl _) _ (lS s hg m kn2 hkn2 r.id) fun u L' ⟨e1,kn3,e2,hkn3⟩=>?_
   subst e1;rw[e2]
   rw[show Hd m kn3++LF= .map m (Bb kDig (KV eAtm) kn3)::LF from rfl]
   refine wf ?_
   refine CA fun b9=>?_
   refine wo ?_
   refine AE ?_
   refine B2 9 ?_
   refine wf ?_
   refine AO (fun h=>?_) (fun h=>?_)
   ·refine wf ?_
    have h:(J0 s r.id).isSome=false:=LH h
    rw[if_pos h]at er
    refine⟨trivial,_,Hd m kn3,.cons (.tmp 4) .nil,.refl _,?_,kn3,rfl,hkn3⟩
    have e3:=hat2 (by rw[er];decide)
    have e4:OM s x.id c=7:=by rw[OM,e3,er]
    rw[R6,hat (by rw[e4];decide),e4];rfl
   have h:(J0 s r.id).isSome=true:=tS h
   rw[if_neg (by simp[h])]at er
   refine wf ?_
   refine AO (fun h2=>?_) (fun h2=>?_)
   ·refine wf ?_
    have h2:PR c (DU x.id c) r ((J0 s r.id).getD Atm.zero)=false:=LH h2
    rw[if_pos h2]at er
    refine⟨trivial,_,Hd m kn3,.cons (.tmp 4) .nil,.refl _,?_,kn3,rfl,hkn3⟩
    have e3:=hat2 (by rw[er];decide)
    have e4:OM s x.id c=8:=by rw[OM,e3,er]
    rw[R6,hat (by rw[e4];decide),e4];rfl
   ·have h2:PR c (DU x.id c) r ((J0 s r.id).getD Atm.zero)=true:=tS h2
    rw[if_neg (by simp[h2])]at er
    refine wf ?_
    exact⟨(j+1,kn3),⟨by dsimp only;omega,hkn3,hsu2 er⟩,by dsimp only;omega,⟨rfl,rfl,rfl,rfl,rfl,rfl,rfl,rfl⟩,.refl _⟩
  ·have e0:OM s x.id c=0:=E3 fun i h=>hje i h (by omega)
   refine wf ?_
   exact⟨(k+1,kn2),⟨by dsimp only;omega,hkn2,hsu e0⟩,by dsimp only;omega,⟨rfl,rfl,rfl,rfl,rfl⟩,.refl _⟩
 ·refine wf ?_
  refine⟨trivial,_,Hd m kn,.cons (.tmp 4) .nil,.refl _,?_,kn,rfl,hkn⟩
  rw[R6,E3 fun i h=>he i h (by omega)];rfl
attribute [local irreducible] GP
theorem JG {p:Pat} (h:(Ew p).2=0):(CF p).2=0∧(CU p).1=Ni p:=by
 have h1: ¬(CU p).2≠0:=fun h'=>by rw[Ew,if_pos h']at h;exact h' h
 unfold CU at h1 ⊢
 by_cases h2:(CF p).2≠0
 ·rw[if_pos h2]at h1;exact absurd h2 h1
 rw[if_neg h2]at h1 ⊢
 refine⟨DP.1 h2,?_⟩
 unfold KE at h1 ⊢
 by_cases h3:65536 < ((Ni p).length:Int)
 ·rw[if_pos h3]at h1;exact absurd (by decide) h1
 ·rw[if_neg h3]
theorem gI {p q:Pat} (gp:E4 p=false) (gq:E4 q=false) (hp:(Ew p).2=0) (hq:(Ew q).2=0):decide ((CU q).1=(CU p).1)=decide (p=q):=by
 obtain⟨c1,e1⟩:=JG hp
 obtain⟨c2,e2⟩:=JG hq
 rw[e1,e2,decide_eq_decide]
 exact⟨fun h=>jh (OH gp) (OH gq) c1 c2 h.symm,fun h=>by rw[h]⟩
instance vW (a b:Pat) [ha:Ay (E4 a=false)] [hb:Ay (E4 b=false)]:C9 Tryz.prog 93 [.agg (Ba a),.agg (Ba b)] (.raw (.bool (decide ((CU a).1=(CU b).1)))):=⟨by
 refine Av Tryz.func93 Tryz.ntmps93 rfl (rs:= [.tmp 4]) rfl rfl fun hb LF=>?_
 refine wf ?_
 exact Aw (.refl _)⟩
theorem Ys (s:List Sto) (x:Sto):Ke s x=s.take (Ji s x.id)++x::s.drop (Ji s x.id):=by
 have e:(fun(y:Sto)=>!decide (ER y.id x.id < 0))=fun y=>decide (0≤ER y.id x.id):=by
  funext y
  by_cases h:ER y.id x.id < 0
  ·rw[BC h,CG (by omega)];rfl
  ·rw[CG h,BC (by omega)];rfl
 unfold Ke Ji
 rw[List.takeWhile_eq_take_findIdx_not,List.dropWhile_eq_drop_findIdx_not,e]
theorem nx (s:List Sto) (d:Dig):Ji s d≤s.length:=zn
theorem o6 {s:List Sto} (ha:Gy (ids s)) {d:Dig} (h:d∈ids s): ∃ hlt:Ji s d < s.length,s[Ji s d].id=d∧getS s d=some s[Ji s d].patch:=by
 obtain⟨x,hx,rfl⟩:=AY.1 h
 obtain⟨i,hi,rfl⟩:=Ag.1 hx
 have e:Ji s s[i].id=i:=X6 (Nat.le_of_lt hi) (fun k hk hki=>by
  have:=B6.1 ha k i (by simpa [ids]using hk) (by simpa [ids]using hi) hki
  simp only[ids,B5]at this
  exact this) (fun k hk hik=>by
  rcases BN i k with h'|h'
  ·have:=B6.1 ha i k (by simpa [ids]using hi) (by simpa [ids]using hk) h'
   simp only[ids,B5]at this
   rcases Ue (ER s[k].id s[i].id) 0 with h2|h2
   ·exact absurd h2 (Dig.lt_asymm this)
   ·exact h2
  ·have e2:k=i:=by omega
   subst e2
   rcases Ue (ER s[k].id s[k].id) 0 with h2|h2
   ·exact absurd h2 (Dig.lt_irrefl _)
   ·exact h2)
 refine⟨by rw[e];exact hi,?_⟩
 simp only[e]
 exact⟨trivial,Qg ha hx⟩
def Pw (s:List Sto) (p:Pat):Int:=if(getS s (Ew p).1).isSome=true then(if p=(getS s (Ew p).1).getD Pat.zero then 6 else 14)else if Da (ids s) (BL p)=false then 19 else GV s p (Ew p).1
theorem jj {s:List Sto} {p:Pat} (h0:(Ew p).2=0) (hl:s.length < 400):Ec s p=if Pw s p≠0 then([],Dig.zero,Pw s p)else(Ke s ⟨(Ew p).1,p⟩,(Ew p).1,0):=by
 unfold Ec Pw
 rw[if_neg (by simp[h0])]
 by_cases h1:(getS s (Ew p).1).isSome=true
 ·rw[if_pos h1,if_pos h1]
  by_cases h2:p=(getS s (Ew p).1).getD Pat.zero
  ·rw[if_pos h2,if_pos h2];rfl
  ·rw[if_neg h2,if_neg h2];rfl
 rw[if_neg h1,if_neg h1]
 by_cases h3:Da (ids s) (BL p)=false
 ·rw[if_pos h3,if_pos h3];rfl
 rw[if_neg h3,if_neg h3]
 by_cases h4:GV s p (Ew p).1≠0
 ·rw[if_pos h4,if_pos h4]
 ·rw[if_neg h4,if_neg h4,if_neg (by omega)]
theorem dI {a b:Res} {R LF:List Res}:(R++a::b::LF).Perm (b::a::(R++LF)):=(BT.trans (.cons a BT)).trans (.swap _ _ _)
theorem dH {a b:Res} {R LF:List Res}:(b::a::(R++LF)).Perm (R++(b::a::LF)):=(BT.trans (.cons b BT)).symm
instance Xr (s:List Sto) (p:Pat) (t:CD) [hs:Ay (Bx s)] [hg:Ay (E4 p=false)]:C9 Tryz.prog 35 [.slice (s.map eSto) t,.agg (Ba p)] (.tuple [.slice ((Ec s p).1.map eSto) .ro,.agg (eDig (Ec s p).2.1),.raw (.int .i64 (Ec s p).2.2)]):=⟨by
 have v:=hs.out
 have hgd:=v.close.1
 have hlen:=hgd.1
 have hgp:=hg.out
 have i2:=fun t=>Ss s t (Ew p).1 v.asc (by omega)
 have i3:=fun t=>kZ s t p v.asc (by omega) hgp
 have hpl:=nx s (Ew p).1
 refine Av Tryz.func35 Tryz.ntmps35 rfl (rs:= [.tmp 4,.cell 5 31,.tmp 6]) rfl rfl fun hb LF=>?_
 refine wf ?_
 refine CA fun b5=>?_
 refine wf ?_
 refine CA fun b7=>?_
 refine wo ?_
 refine AE ?_
 refine B2 7 ?_
 refine wf ?_
 refine AR (fun h1=>?_) (fun h1=>?_)
 ·refine wf ?_
  refine Iy rfl ?_
  rw[Ec,if_pos h1]
  exact .tuple3 (.ro _ _) (.refl _) (.refl _)
 rw[jj h1 (by omega)]
 refine wf ?_
 refine BG [(32,.raw (.bool (decide ((Ew p).1∈ids s∧ ¬p=(getS s (Ew p).1).getD Pat.zero)))),(0,.slice (s.map eSto) t),(3,.pt (Ba p) 0),(5,.raw (.pointer (some ⟨b5,0,none⟩))),(7,.pt (eDig (Ew p).1) 0),(9,.raw (.int .i64 (Ji s (Ew p).1:Nat))),(10,.raw (.bool (decide ((Ew p).1∈ids s))))] (.box b5 31 (eDig Dig.zero)::LF) ?_ ?_
 ·refine Ao (fun hp=>?_) (fun hp=>?_)
  ·have hd:=BP hp
   obtain⟨hlt,hid,hget⟩:=o6 v.asc hd
   have hq0:s[Ji s (Ew p).1]∈s:=AH hlt
   have i4:Ay (E4 s[Ji s (Ew p).1].patch=false):=⟨hgd.2 _ hq0⟩
   have heq:=gI hgp (hgd.2 _ hq0) h1 (v.id _ hq0).1
   refine wf ?_
   refine⟨⟨Bh (by rfl) ?_,rfl,rfl,rfl,rfl,rfl,rfl⟩,.refl _⟩
   rw[heq,hget,CJ]
   generalize s[Ji s (Ew p).1].patch=q
   by_cases h2:p=q
   ·rw[BC h2,CG (fun h=>h.2 h2)];rfl
   ·rw[CG h2,BC ⟨hd,h2⟩];rfl
  ·have hd:=Bl hp
   refine wf ?_
   refine⟨⟨Bh (by rfl) ?_,rfl,rfl,rfl,rfl,rfl,rfl⟩,.refl _⟩
   simp[hd]
 have hsome:=SD v.asc (Ew p).1
 refine wf ?_
 refine Ca (σ:=Unit) (fun _=>True) (fun _=> [(0,.slice (s.map eSto) t),(3,.pt (Ba p) 0),(5,.raw (.pointer (some ⟨b5,0,none⟩))),(7,.pt (eDig (Ew p).1) 0),(8,.raw (.int .i64 (Pw s p))),(9,.raw (.int .i64 (Ji s (Ew p).1:Nat)))]) (fun _=> .box b5 31 (eDig Dig.zero)::LF) ?_ ?_
 ·refine A6 (fun h=>?_) (fun h=>?_)
  ·have eA:Pw s p=14:=by
    unfold Pw;rw[hsome,if_pos (BC h.1),if_neg h.2]
   refine wf ?_
   exact⟨(),trivial,⟨rfl,rfl,rfl,rfl,by rw[eA];rfl,rfl⟩,.refl _⟩
  refine wf ?_
  refine A6 (fun h2=>?_) (fun h2=>?_)
  ·have eA:Pw s p=6:=by
    unfold Pw;rw[hsome,if_pos (BC h2),if_pos (Cf fun h3=>h ⟨h2,h3⟩)]
   refine wf ?_
   exact⟨(),trivial,⟨rfl,rfl,rfl,rfl,by rw[eA];rfl,rfl⟩,.refl _⟩
  have hns: ¬(getS s (Ew p).1).isSome=true:=by rw[hsome];simpa using h2
  refine wf ?_
  refine AO (fun h3=>?_) (fun h3=>?_)
  ·have eA:Pw s p=19:=by
    unfold Pw;rw[if_neg hns,if_pos (LH h3)]
   refine wf ?_
   exact⟨(),trivial,⟨rfl,rfl,rfl,rfl,by rw[eA];rfl,rfl⟩,.refl _⟩
  have eA:Pw s p=GV s p (Ew p).1:=by
   unfold Pw;rw[if_neg hns,if_neg (IM h3)]
  refine wn ?_
  refine FM [1,5] (by decide+kernel) ?_
  refine Ar 0 ?_
  refine Ar 2 ?_
  refine Ar 3 ?_
  refine Ar 4 ?_
  refine Ad 2 1 ?_
  refine CV (xs:= [.tmp 26]) [] (.box b5 31 (eDig Dig.zero)::LF) (f:=75) (cs:= []) (C4 _) rfl rfl (.refl _) _ (Tm s t) fun r L' ⟨m,e1,e2⟩=>?_
  subst e1;rw[e2]
  refine AE ?_
  refine Ad 1 5 ?_
  refine CV (xs:= [.tmp 27,.tmp 30]) (Hd m []) (.box b5 31 (eDig Dig.zero)::LF) (f:=76) (cs:= []) (C4 _) rfl rfl (.refl _) _ (eN s hgd m [] (fun d l h=>by simp[CY]at h) ⟨(Ew p).1,p⟩ hgp) fun u L' ⟨e1,kn3,e2,hkn3⟩=>?_
  subst e1;rw[e2]
  refine AE ?_
  refine Ad 0 6 ?_
  refine wo ?_
  refine AE ?_
  refine CN (by decide+kernel) ?_
  rw[show R6 s (⟨(Ew p).1,p⟩:Sto).patch (⟨(Ew p).1,p⟩:Sto).id=Pw s p from(iV s (Ew p).1 h1).trans eA.symm]
  exact⟨(),trivial,⟨rfl,rfl,rfl,rfl,rfl,rfl⟩,.cons _ (.refl _)⟩
 intro _ _
 refine wf ?_
 refine BG [(56,.raw (.bool (decide (Pw s p=0∧400≤(s.length:Int))))),(0,.slice (s.map eSto) t),(3,.pt (Ba p) 0),(5,.raw (.pointer (some ⟨b5,0,none⟩))),(7,.pt (eDig (Ew p).1) 0),(8,.raw (.int .i64 (Pw s p))),(9,.raw (.int .i64 (Ji s (Ew p).1:Nat)))] (.box b5 31 (eDig Dig.zero)::LF) ?_ ?_
 ·repeat' (first|(refine A6 (fun h=>?_) (fun h=>?_)<;>refine wf ?_)|(refine AR (fun h=>?_) (fun h=>?_)<;>refine wf ?_)|(refine AO (fun h=>?_) (fun h=>?_)<;>refine wf ?_)|(refine Ao (fun h=>?_) (fun h=>?_)<;>(have h2:=h;(try simp only[AA,A8,AF,AJ]at h2);refine wf ?_)))
  all_goals (refine⟨⟨Bh (by rfl) ?_,rfl,rfl,rfl,rfl,rfl,rfl⟩,.refl _⟩;first|(simp_all;done)|grind)
 refine wf ?_
 refine A6 (fun h=>?_) (fun _=>?_)
 ·omega
 refine wf ?_
 refine AR (fun h=>?_) (fun h=>?_)
 ·refine wf ?_
  refine Iy rfl ?_
  rw[if_pos h]
  exact .tuple3 (.ro _ _) (.refl _) (.refl _)
 rw[if_neg (fun h'=>h' h)]
 refine wn ?_
 refine FM [1,6,7,10] (by decide+kernel) ?_
 refine Ar 0 ?_
 refine Ar 2 ?_
 refine Ar 3 ?_
 refine Ar 4 ?_
 refine Ar 5 ?_
 refine Ar 8 ?_
 refine C3 (fuel:=5) [1,6] (by decide+kernel) (by simp) fun i hi=>?_
 simp only[AG,Aa,or_false]at hi
 rcases hi with rfl|rfl
 ·refine⟨_,rfl,?_⟩
  refine CV (xs:= [.tmp 61]) [] (.box b5 31 (eDig Dig.zero)::LF) (f:=95) (cs:= []) (C4 _) rfl rfl (.refl _) _ (Rv s t (by omega)) fun r R0 ⟨v0,e1,hv0⟩=>?_
  subst e1
  refine AE ?_
  refine Ad 4 6 ?_
  refine VP (cs:=eSto (⟨(Ew p).1,p⟩:Sto)) (.agg _) (by simp) (by decide) fun b=>?_
  refine AE ?_
  refine Ad 3 7 ?_
  refine CV (xs:= [.tmp 62,.tmp 63,.tmp 67]) (R0++ [Res.box b 59 (eSto (⟨(Ew p).1,p⟩:Sto))]) (.box b5 31 (eDig Dig.zero)::LF) (f:=94) (cs:= []) (C4 _) rfl rfl (by rw[AV];exact BT.symm) _ (U2 v0 s R0 hv0 (Ji s (Ew p).1) hpl (by omega) b (⟨(Ew p).1,p⟩:Sto)) fun r L' ⟨v2,R2,e1,hv2,e2⟩=>?_
  subst e1;rw[e2]
  refine AE ?_
  refine Ad 2 9 ?_
  refine wo ?_
  refine AE ?_
  refine Ad 1 10 ?_
  refine Vc (L':= .box b5 31 (eDig Dig.zero):: .box b 59 (eSto (⟨(Ew p).1,p⟩:Sto))::(R2++LF)) (by rw[AV];exact dI) rfl ?_ (fun h=>h)
  refine wo ?_
  refine AE ?_
  refine Ad 0 11 ?_
  refine wo ?_
  refine AE ?_
  refine CN (by decide+kernel) ?_
  have hxl:((s.take (Ji s (Ew p).1)++(⟨(Ew p).1,p⟩:Sto)::s.drop (Ji s (Ew p).1)).map eSto).length≤201:=by
   simp only[AQ,AD,Ab,AN,B4];omega
  refine IZ 4 hv2 ⟨by unfold maxN;omega,by unfold maxN;omega⟩ dH rfl ?_
  refine wf ?_
  refine Iy rfl ?_
  rw[Ys]
  exact .refl _
 ·refine⟨_,rfl,?_⟩
  refine VP (cs:=eSto (⟨(Ew p).1,p⟩:Sto)) (.agg _) (by simp) (by decide) fun b=>?_
  refine AE ?_
  refine Ad 4 1 ?_
  refine CV (xs:= [.tmp 61]) [] (.box b 59 (eSto (⟨(Ew p).1,p⟩:Sto)):: .box b5 31 (eDig Dig.zero)::LF) (f:=95) (cs:= []) (C4 _) rfl rfl (.refl _) _ (Rv s t (by omega)) fun r R0 ⟨v0,e1,hv0⟩=>?_
  subst e1
  refine AE ?_
  refine Ad 3 7 ?_
  refine CV (xs:= [.tmp 62,.tmp 63,.tmp 67]) (R0++ [Res.box b 59 (eSto (⟨(Ew p).1,p⟩:Sto))]) (.box b5 31 (eDig Dig.zero)::LF) (f:=94) (cs:= []) (C4 _) rfl rfl (by rw[AV];exact .refl _) _ (U2 v0 s R0 hv0 (Ji s (Ew p).1) hpl (by omega) b (⟨(Ew p).1,p⟩:Sto)) fun r L' ⟨v2,R2,e1,hv2,e2⟩=>?_
  subst e1;rw[e2]
  refine AE ?_
  refine Ad 2 9 ?_
  refine wo ?_
  refine AE ?_
  refine Ad 1 10 ?_
  refine Vc (L':= .box b5 31 (eDig Dig.zero):: .box b 59 (eSto (⟨(Ew p).1,p⟩:Sto))::(R2++LF)) (by rw[AV];exact dI) rfl ?_ (fun h=>h)
  refine wo ?_
  refine AE ?_
  refine Ad 0 11 ?_
  refine wo ?_
  refine AE ?_
  refine CN (by decide+kernel) ?_
  have hxl:((s.take (Ji s (Ew p).1)++(⟨(Ew p).1,p⟩:Sto)::s.drop (Ji s (Ew p).1)).map eSto).length≤201:=by
   simp only[AQ,AD,Ab,AN,B4];omega
  refine IZ 4 hv2 ⟨by unfold maxN;omega,by unfold maxN;omega⟩ dH rfl ?_
  refine wf ?_
  refine Iy rfl ?_
  rw[Ys]
  exact .refl _⟩
end Go.Proofs
namespace Go.Proofs
open Go Go.Q
def NL (p:Pat):Nat:=(CF p).1.length
def Qu (n:Nat) (x:Ident):Prop:=0≤x.n∧(x.patch=Dig.zero→x.n < n)
structure P9 (c:Chg) (G:Ident→Prop):Prop where
 file:2≤c.kind→c.kind≤6→G c.file
 parent:c.kind=2→c.parent≠rRoot→G c.parent
 after:c.kind=5∨c.kind=6→G c.after
 before:c.kind=5∨c.kind=6→G c.before
 over: ∀ y∈c.over,G y
theorem P9.mono {c:Chg} {G H:Ident→Prop} (h:P9 c G) (k: ∀ x,G x→H x):P9 c H:=
 ⟨fun a b=>k _ (h.file a b),fun a b=>k _ (h.parent a b),fun a=>k _ (h.after a),fun a=>k _ (h.before a),fun y hy=>k _ (h.over y hy)⟩
theorem P9.and {c:Chg} {G H:Ident→Prop} (h:P9 c G) (k:P9 c H):P9 c fun x=>G x∧H x:=
 ⟨fun a b=>⟨h.file a b,k.file a b⟩,fun a b=>⟨h.parent a b,k.parent a b⟩,fun a=>⟨h.after a,k.after a⟩,fun a=>⟨h.before a,k.before a⟩,fun y hy=>⟨h.over y hy,k.over y hy⟩⟩
theorem O3 {x:Ident} {own:List Atm} {f:Bool} (h:J6 x own f=0):Qu own.length x:=by
 unfold J6 at h
 split at h
 ·omega
 rename_i h1
 have h1:Dk x own.length=true:=by simpa using h1
 unfold Dk at h1
 split at h1
 ·rename_i hp
  simp only[BQ,AA]at h1
  exact⟨h1.1,fun _=>h1.2⟩
 ·rename_i hp
  simp only[BQ,AA]at h1
  exact⟨h1.1,fun e=>absurd e hp⟩
theorem TN {c:Chg} {own:List Atm} (h:Ey c own=0):P9 c (Qu own.length):=by
 unfold Ey at h
 split at h
 ·rename_i h0;exact absurd h h0
 rename_i hF
 split at h
 ·rename_i h0;exact absurd h h0
 rename_i hP
 split at h
 ·rename_i h0;exact absurd h h0
 rename_i hE
 split at h
 ·rename_i h0;exact absurd h h0
 rename_i hO
 have hF:=DP.1 hF
 have hP:=DP.1 hP
 have hE:=DP.1 hE
 have hO:=DZ (DP.1 hO)
 unfold K4 at hF
 unfold Lz at hP
 unfold IJ at hE
 refine⟨fun a b=>?_,fun a b=>?_,fun a=>?_,fun a=>?_,fun y hy=>O3 (hO y hy)⟩
 ·rw[if_pos ⟨a,b⟩]at hF;exact O3 hF
 ·rw[if_pos ⟨a,b⟩]at hP;exact O3 hP
 ·rw[if_pos (by unfold IX;rcases a with a|a<;>simp[a])]at hE
  exact O3 (DZ hE _ (by simp))
 ·rw[if_pos (by unfold IX;rcases a with a|a<;>simp[a])]at hE
  exact O3 (DZ hE _ (by simp))
def ZD (l:List Chg) (i:Nat):List Atm:=(l.take i).foldl (fun own c=>own++Df c own.length) []
theorem S7: ∀ {l:List Chg} {own A:List Atm},Cz l own=(A,0)→A=l.foldl (fun own c=>own++Df c own.length) own∧
  ∀ i (h:i < l.length),C0 l[i]=0∧Ey l[i] ((l.take i).foldl (fun own c=>own++Df c own.length) own)=0
 | [],own,A,h=>by
   simp only[Cz,Prod.mk.injEq]at h
   exact⟨h.1.symm,fun i hi=>absurd hi (DB _)⟩
 |c::l,own,A,h=>by
  unfold Cz at h
  split at h
  ·rename_i h0;exact absurd (congrArg Prod.snd h) h0
  rename_i h1
  split at h
  ·rename_i h0;exact absurd (congrArg Prod.snd h) h0
  rename_i h2
  obtain⟨k1,k2⟩:=S7 h
  refine⟨k1,fun i hi=>?_⟩
  cases i with
  |zero=>exact⟨DP.1 h1,DP.1 h2⟩
  |succ i=>exact k2 i (by simpa using hi)
theorem ZC: ∀ (l:List Chg) (own:List Atm),own.length≤(l.foldl (fun own c=>own++Df c own.length) own).length
 | [],_=>Al _
 |c::l,own=>Cq (by rw[AD];omega) (ZC l (own++Df c own.length))
structure WJ (p:Pat):Prop where
 made:(CF p).1=p.changes.foldl (fun own c=>own++Df c own.length) []
 fields: ∀ i (h:i < p.changes.length),C0 p.changes[i]=0
 refs: ∀ i (h:i < p.changes.length),Ey p.changes[i] (ZD p.changes i)=0
theorem HC {p:Pat} (h:(CF p).2=0):WJ p:=by
 unfold CF at h
 have:Cz p.changes []=((CF p).1,0):=by
  unfold CF
  split at h
  ·simp at h
  rename_i h1
  rw[if_neg h1]
  split at h
  ·simp at h
  rename_i h1
  rw[if_neg h1]
  split at h
  ·simp at h
  rename_i h1
  rw[if_neg h1]
  split at h
  ·rename_i h1;exact absurd h h1
  rename_i h1
  rw[if_neg h1]
  split at h
  ·simp at h
  rename_i h1
  rw[if_neg h1]
  split at h
  ·simp at h
  rename_i h1
  rw[if_neg h1]
  exact Prod.ext rfl h
 obtain⟨h1,h2⟩:=S7 this
 exact⟨h1,fun i hi=>(h2 i hi).1,fun i hi=>(h2 i hi).2⟩
theorem k9 {p:Pat} (h:WJ p) (i:Nat):(ZD p.changes i).length≤NL p:=by
 unfold NL ZD
 rw[h.made]
 have e:p.changes=p.changes.take i++p.changes.drop i:=(C6 i _).symm
 conv=>rhs;rw[e,CB]
 exact ZC _ _
theorem WJ.uses {p:Pat} (h:WJ p) {c:Chg} (hc:c∈p.changes):P9 c (Qu (NL p)):=by
 obtain⟨i,hi,rfl⟩:=Ag.1 hc
 exact(TN (h.refs i hi)).mono fun x hx=>⟨hx.1,fun e=>by have:=hx.2 e;have:=k9 h i;omega⟩
def Kr (s:List Sto) (x:Ident):Prop:=x.patch≠Dig.zero→ ∃ z∈s,z.id=x.patch∧0≤x.n∧x.n < NL z.patch
theorem LA {o:Option Atm} {f:Atm→Bool} (h:EP o f=0):o.isSome=true:=by
 unfold EP at h
 split at h
 ·omega
 ·rename_i h1
  cases ho:o.isSome with
  |true=>rfl
  |false=>exact absurd ho h1
theorem N2 {s:List Sto} (v:Bx s) {x:Ident} (h:(IY s x).isSome=true):Kr s x:=fun hz=>by
 unfold IY at h
 split at h
 ·simp at h
 rename_i h1
 unfold Iq at h1 h
 cases hg:getS s x.patch with
 |none=>
  rw[hg]at h1
  exfalso
  apply h1
  right
  have:(JH Pat.zero).1= []:=by unfold JH;rw[if_pos (by decide+kernel)]
  rw[NR,this]
  simp only[Ae]
  omega
 |some p=>
  rw[hg,CJ]at h1
  obtain⟨z,hz,e1,e2⟩:=Kj hg
  refine⟨z,hz,e1,by omega,?_⟩
  subst e2
  have:(JH z.patch).1.length=NL z.patch:=by
   unfold JH NL
   rw[if_neg (by simp[(v.id z hz).1])]
   simp
  omega
theorem Yl {s:List Sto} (v:Bx s) {x f:Ident} {d:Dig} (h:Gv s x f d=0) (hf:Kr s f):Kr s x:=fun hz=>by
 unfold Gv at h
 split at h
 ·rename_i h1
  rcases h1 with h1|h1
  ·unfold FT at h1;simp at h1;exact absurd h1 hz
  ·subst h1;exact hf hz
 ·exact N2 v (LA h) hz
theorem bJ {s:List Sto} (v:Bx s) {c:Chg} {d:Dig} (h:LB s c d=0):P9 c (Kr s):=by
 unfold LB at h
 split at h
 ·rename_i h0;exact absurd h h0
 rename_i hF
 split at h
 ·rename_i h0;exact absurd h h0
 rename_i hP
 split at h
 ·rename_i h0;exact absurd h h0
 rename_i hA
 split at h
 ·rename_i h0;exact absurd h h0
 rename_i hB
 have hF:=DP.1 hF
 have hP:=DP.1 hP
 have hA:=DP.1 hA
 have hB:=DP.1 hB
 have hO:=DZ h
 have xF:Kr s c.file:=fun hz=>by
  unfold Jg at hF
  rw[if_pos (by unfold FT;simp[hz])]at hF
  exact N2 v (LA hF) hz
 refine⟨fun _ _=>xF,fun _ _ hz=>?_,fun _=>Yl v hA xF,fun _=>Yl v hB xF,fun y hy hz=>?_⟩
 ·unfold MH at hP
  rw[if_pos (by unfold FT;simp[hz])]at hP
  exact N2 v (LA hP) hz
 ·have:=hO y hy
  unfold O7 at this
  rw[if_neg (by unfold FT;simp[hz])]at this
  exact N2 v (LA this) hz
theorem Bx.uses {s:List Sto} (v:Bx s) {x:Sto} (hx:x∈s) {c:Chg} (hc:c∈x.patch.changes):P9 c fun y=>Qu (NL x.patch) y∧Kr s y:=by
 have hp:=HC (JG (v.id x hx).1).1
 refine(hp.uses hc).and (bJ v (d:=x.id) ?_)
 exact DZ (v.refs x hx) c hc
end Go.Proofs
namespace Go.Q
open Go
structure Mta where
 author:Str
 message:Str
 time:Int
 deriving DecidableEq
def Mta.zero:Mta:=⟨[],[],0⟩
def FG (c:Mta):List PV:= [.str c.author]++([.str c.message]++([.raw (.int .i64 c.time)]))
@[simp] theorem kU (c:Mta):(FG c).length=3:=by unfold FG;simp
instance :MZ FG 3:=⟨kU⟩
instance (c:Mta):Di (FG c):=by unfold FG;infer_instance
instance (c:Mta):Fw (.agg (FG c)) FG c:=⟨Cw.agg _⟩
instance km (c:Mta):Jc (FG c) 0 [.str c.author]:=by unfold FG;exact DA
instance jn (c:Mta) (x:Str):Eg (FG c) 0 [.str x] (FG { c with author:=x }):=by unfold FG;exact DH (by simp)
instance iC (c:Mta):Jc (FG c) 1 [.str c.message]:=by unfold FG;exact Ai (n:=1) (off:=0) (by simp) (DA)
instance om (c:Mta):Jc (FG c) 2 [.raw (.int .i64 c.time)]:=by unfold FG;exact Ai (n:=1) (off:=1) (by simp) (Ai (n:=1) (off:=0) (by simp) (Jk))
structure Mvd where
 old:Dig
 lo:Int
 hi:Int
 patch:Dig
 dst:Int
 deriving DecidableEq
def Mvd.zero:Mvd:=⟨Dig.zero,0,0,Dig.zero,0⟩
def eMvd (c:Mvd):List PV:=(eDig c.old)++([.raw (.int .i64 c.lo)]++([.raw (.int .i64 c.hi)]++((eDig c.patch)++([.raw (.int .i64 c.dst)]))))
@[simp] theorem kS (c:Mvd):(eMvd c).length=67:=by unfold eMvd;simp
instance :MZ eMvd 67:=⟨kS⟩
instance (c:Mvd):Di (eMvd c):=by unfold eMvd;infer_instance
instance :Js eMvd:=⟨fun c=>(inferInstance:Di (eMvd c)).out⟩
instance (c:Mvd):Fw (.agg (eMvd c)) eMvd c:=⟨Cw.agg _⟩
instance Zh (c:Mvd):Jc (eMvd c) 0 (eDig c.old):=by unfold eMvd;exact DA
instance qM (c:Mvd):PA (eMvd c) 0 32 (eDig c.old):=Hy (Zh c) (by simp)
instance qn (c:Mvd) (x:Dig):Eg (eMvd c) 0 (eDig x) (eMvd { c with old:=x }):=by unfold eMvd;exact DH (by simp)
instance bl (c:Mvd):Jc (eMvd c) 32 [.raw (.int .i64 c.lo)]:=by unfold eMvd;exact Ai (n:=32) (off:=0) (by simp) (DA)
instance vg (c:Mvd):At (eMvd c) 32 (.raw (.int .i64 c.lo)):=GX (bl c)
instance sw (c:Mvd) (x:Int):Eg (eMvd c) 32 [.raw (.int .i64 x)] (eMvd { c with lo:=x }):=by unfold eMvd;exact Af (n:=32) (off:=0) (by simp) (DH (by simp))
instance bn (c:Mvd):Jc (eMvd c) 33 [.raw (.int .i64 c.hi)]:=by unfold eMvd;exact Ai (n:=32) (off:=1) (by simp) (Ai (n:=1) (off:=0) (by simp) (DA))
instance vh (c:Mvd):At (eMvd c) 33 (.raw (.int .i64 c.hi)):=GX (bn c)
instance sx (c:Mvd) (x:Int):Eg (eMvd c) 33 [.raw (.int .i64 x)] (eMvd { c with hi:=x }):=by unfold eMvd;exact Af (n:=32) (off:=1) (by simp) (Af (n:=1) (off:=0) (by simp) (DH (by simp)))
instance Uk (c:Mvd):Jc (eMvd c) 34 (eDig c.patch):=by unfold eMvd;exact Ai (n:=32) (off:=2) (by simp) (Ai (n:=1) (off:=1) (by simp) (Ai (n:=1) (off:=0) (by simp) (DA)))
instance ly (c:Mvd):PA (eMvd c) 34 32 (eDig c.patch):=Hy (Uk c) (by simp)
instance Uh (c:Mvd) (x:Dig):Eg (eMvd c) 34 (eDig x) (eMvd { c with patch:=x }):=by unfold eMvd;exact Af (n:=32) (off:=2) (by simp) (Af (n:=1) (off:=1) (by simp) (Af (n:=1) (off:=0) (by simp) (DH (by simp))))
instance Zi (c:Mvd):Jc (eMvd c) 66 [.raw (.int .i64 c.dst)]:=by unfold eMvd;exact Ai (n:=32) (off:=34) (by simp) (Ai (n:=1) (off:=33) (by simp) (Ai (n:=1) (off:=32) (by simp) (Ai (n:=32) (off:=0) (by simp) (Jk))))
instance uV (c:Mvd):At (eMvd c) 66 (.raw (.int .i64 c.dst)):=GX (Zi c)
instance qo (c:Mvd) (x:Int):Eg (eMvd c) 66 [.raw (.int .i64 x)] (eMvd { c with dst:=x }):=by unfold eMvd;exact Af (n:=32) (off:=34) (by simp) (Af (n:=1) (off:=33) (by simp) (Af (n:=1) (off:=32) (by simp) (Af (n:=32) (off:=0) (by simp) (Kd (by simp)))))
end Go.Q
