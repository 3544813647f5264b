/- Contracts of the program: the atoms of a patch with its identity. -/
import Derived.Test.YtaibdmankdppkaaGreatDoorXan
import Derived.Test.YtaibdmankdppkaaGreatDoorXah
import Derived.Test.YtaibdmankdppkaaGreatDoorXaj
import Derived.Test.YtaibdmankdppkaaGreatDoorXam
import Derived.Test.YtaibdmankdppkaaGreatDoorXad
set_option linter.unusedSimpArgs false
set_option linter.unusedVariables false
set_option maxHeartbeats 8000000
namespace Go.Proofs
open Go Go.Q
attribute [local irreducible] ER AQ H0 BG Fu
instance xg (x:Ident) (d:Dig):C9 Tryz.prog 252 [.agg (eIdent x),.pt (eDig d) 0] (.agg (eIdent (Dw x d))):=⟨by
 refine Au Tryz.func252 Tryz.ntmps252 rfl (rs:= [.cell 3 65]) rfl rfl fun hb LF=>?_
 refine tj fun b2=>?_
 refine CC fun b3=>?_
 refine wf ?_
 refine Ar (fun hp=>?_) (fun hp=>?_)
 ·have h0:x.patch=Dig.zero:=by simpa using hp
  refine wf ?_
  refine A6 (fun h=>?_) (fun h=>?_)
  ·refine wf ?_
   refine Fq rfl (.of_eq ?_)
   rw[Dw,if_pos ⟨h0,h⟩]
  ·refine wf ?_
   refine Fq rfl (.of_eq ?_)
   rw[Dw,if_neg (fun h'=>h h'.2)]
 ·have h0: ¬x.patch=Dig.zero:=by simpa using hp
  refine wf ?_
  refine Fq rfl (.of_eq ?_)
  rw[Dw,if_neg (fun h'=>h0 h'.1)]⟩
def gA (d:Dig) (a:Atm):Atm:={ a with id:=Dw a.id d }
def o7 (d:Dig) (a:Atm):Atm:=if a.kind≠7 then { a with file:=Dw a.file d }else a
def o6 (d:Dig) (a:Atm):Atm:=if a.kind=2 then { a with parent:=Dw a.parent d }else a
def nx (d:Dig) (a:Atm):Atm:=if a.kind=6 then { a with src:=Dw a.src d,dst:=Dw a.dst d }else a
def uJ (d:Dig) (a:Atm):Atm:={ a with over:=sortI (a.over.map fun y=>Dw y d) }
def fP (d:Dig) (a:Atm):Atm:=uJ d (nx d (o6 d (o7 d (gA d a))))
def JN (p:Pat):List Atm × Int:=if(Ko p).2.2≠0 then([],(Ko p).2.2)else if(EW p).2≠0 then([],(EW p).2)else((Ko p).1.map (fP (EW p).1),0)
theorem ZN (p:Pat) (hs:E5 p=false):C9 Tryz.prog 201 [.agg (Ba p)] (.tuple [.slice ((JN p).1.map eAtm) .ro,.raw (.int .i64 (JN p).2)]):=⟨by
 have i0:B4 (E5 p=false):=⟨hs⟩
 refine Au Tryz.func201 Tryz.ntmps201 rfl (rs:= [.tmp 2,.tmp 3]) rfl rfl fun hb LF=>?_
 repeat(refine Da ?_)
 refine CR (by kernel_rfl) ?_
 refine wo ?_
 refine AD ?_
 repeat(refine Da ?_)
 refine CR (by kernel_rfl) ?_
 refine Xz (by rfl) (hl:=(by infer_instance)) ?_
 refine CV (xs:= [.tmp 15]) [] LF (f:=81) (cs:= []) (C5 _) rfl rfl (.refl _) _ (ZH p hs) fun r L' ⟨x,y,e,hor⟩=>?_
 subst e
 refine wf ?_
 refine wf ?_
 rcases hor with ⟨hne,rfl⟩|⟨he0,v,rfl,hrow,hll⟩
 ·refine AX (fun h=>?_) (fun h=>absurd h hne)
  refine wf ?_
  refine HD ?_
  rw[JN,if_pos hne]
  exact .tuple2 (.ros rfl) (.refl _)
 refine AX (fun h=>absurd he0 h) (fun h=>?_)
 refine wf ?_
 refine CC fun b7=>?_
 refine wo ?_
 refine AD ?_
 refine Ay 7 ?_
 refine wf ?_
 refine AX (fun h2=>?_) (fun h2=>?_)
 ·refine Mo (fun i=> .inl rfl) (DU L' LF) ?_
  refine wf ?_
  refine HD ?_
  rw[JN,if_neg (by simp[he0]),if_pos h2]
  exact .tuple2 (.ros rfl) (.refl _)
 have e1:JN p=((Ko p).1.map (fP (EW p).1),0):=by rw[JN,if_neg (by simp[he0]),if_neg (by simpa using h2)]
 rw[e1]
 have hov: ∀ a∈(Ko p).1,a.over.length≤40:=fun a ha=>by
  unfold Ko at ha
  split at ha
  ·cases ha
  ·split at ha
   ·cases ha
   ·exact(Ej hs).2 a ha
 generalize (Ko p).1=l at hrow hll hov ⊢
 generalize (EW p).1=g
 obtain⟨⟨o,cc,ev⟩,_⟩:=hrow.slice
 rw[AR]at ev
 subst ev
 refine wf ?_
 refine KP rfl ?_
 refine wf ?_
 refine Ab (σ:=Nat × List Res) (fun k=>k.1≤l.length∧Hf 125 172 (.slice o l.length cc) (((l.take k.1).map (fP g)++l.drop k.1).map eAtm) k.2) (fun k=>l.length - k.1) (fun k=> [(4,.raw (.slice o l.length cc)),(8,.clo 252 [.pt (eDig g) 0]),(32,.raw (.slice o l.length cc)),(33,.raw (.int .i64 l.length)),(34,.raw (.int .i64 k.1))]) (fun k=>k.2++LF) (0,_) ⟨by simp,by simpa using hrow⟩ ⟨rfl,rfl,rfl,rfl,rfl⟩ (.refl _) ?_
 rintro⟨k,R⟩ ⟨hk,hR⟩
 dsimp only at hk hR ⊢
 refine wf ?_
 refine A6 (fun hc=>?_) (fun hc=>?_)
 ·have hlt:k < l.length:=by omega
  obtain⟨xs,hxs⟩: ∃ xs,xs=((l.take k).map (fP g)++l.drop k).map eAtm:=⟨_,rfl⟩
  rw[←hxs]at hR
  have hlk:xs.length=l.length:=by rw[hxs];simp;omega
  have hel:xs[k]'(by omega)=eAtm l[k]:=by
   subst hxs
   rw[BQ,Bt (by simp;omega),J2]
   congr 2
   simp;omega
  obtain⟨r,rest,rfl,rfl,hn,hcl,hsz,hcc⟩:=hR.inv (by omega)
  have isub:XX (xs.flatten++rest) (0+k*172) 172 (eAtm l[k]):=by
   rw[←hel];exact Z7 hsz (by omega)
  refine wf ?_
  refine Fe (k:=k) rfl rfl hlt ?_
  refine wf ?_
  refine CC fun b10=>?_
  refine wf ?_
  refine KV True [(4,.raw (.slice (some ⟨r,0,none⟩) l.length cc)),(8,.clo 252 [.pt (eDig g) 0]),(9,.raw (.int .i64 k)),(10,.raw (.pointer (some ⟨b10,0,none⟩))),(32,.raw (.slice (some ⟨r,0,none⟩) l.length cc)),(33,.raw (.int .i64 l.length)),(34,.raw (.int .i64 k))] (.box b10 125 (eAtm (o7 g (gA g l[k]))):: .box r 125 (xs.flatten++rest)::LF) ?_ fun _=>?_
  ·refine AX (fun h=>?_) (fun h=>?_)
   ·refine wf ?_
    rw[show o7 g (gA g l[k])= { gA g l[k]with file:=Dw l[k].file g } by rw[o7,if_pos (show(gA g l[k]).kind≠7 from h)];rfl]
    exact⟨trivial,⟨rfl,rfl,rfl,rfl,rfl,rfl,rfl⟩,.refl _⟩
   ·refine wf ?_
    rw[show o7 g (gA g l[k])=gA g l[k] by rw[o7,if_neg (show ¬(gA g l[k]).kind≠7 from fun h'=>h' h)]]
    exact⟨trivial,⟨rfl,rfl,rfl,rfl,rfl,rfl,rfl⟩,.refl _⟩
  have o2:(o7 g (gA g l[k])).over.length≤40:=by
   have h:=hov _ (AJ hlt)
   unfold o7;split<;>exact h
  generalize hg2:o7 g (gA g l[k])=a2 at o2 ⊢
  refine wf ?_
  refine KV True [(4,.raw (.slice (some ⟨r,0,none⟩) l.length cc)),(8,.clo 252 [.pt (eDig g) 0]),(9,.raw (.int .i64 k)),(10,.raw (.pointer (some ⟨b10,0,none⟩))),(32,.raw (.slice (some ⟨r,0,none⟩) l.length cc)),(33,.raw (.int .i64 l.length)),(34,.raw (.int .i64 k))] (.box b10 125 (eAtm (o6 g a2)):: .box r 125 (xs.flatten++rest)::LF) ?_ fun _=>?_
  ·refine A6 (fun h=>?_) (fun h=>?_)
   ·refine wf ?_
    rw[show o6 g a2= { a2 with parent:=Dw a2.parent g } by rw[o6,if_pos h]]
    exact⟨trivial,⟨rfl,rfl,rfl,rfl,rfl,rfl,rfl⟩,.refl _⟩
   ·refine wf ?_
    rw[show o6 g a2=a2 by rw[o6,if_neg h]]
    exact⟨trivial,⟨rfl,rfl,rfl,rfl,rfl,rfl,rfl⟩,.refl _⟩
  have o3:(o6 g a2).over.length≤40:=by unfold o6;split<;>exact o2
  generalize hg3:o6 g a2=a3 at o3 ⊢
  refine wf ?_
  refine KV True [(4,.raw (.slice (some ⟨r,0,none⟩) l.length cc)),(8,.clo 252 [.pt (eDig g) 0]),(9,.raw (.int .i64 k)),(10,.raw (.pointer (some ⟨b10,0,none⟩))),(32,.raw (.slice (some ⟨r,0,none⟩) l.length cc)),(33,.raw (.int .i64 l.length)),(34,.raw (.int .i64 k))] (.box b10 125 (eAtm (nx g a3)):: .box r 125 (xs.flatten++rest)::LF) ?_ fun _=>?_
  ·refine A6 (fun h=>?_) (fun h=>?_)
   ·rw[show nx g a3= { a3 with src:=Dw a3.src g,dst:=Dw a3.dst g } by rw[nx,if_pos h]]
    refine wn ?_
    refine GN [2,6,9,11] (by decide+kernel) ?_
    refine Eg 0 rfl (by decide+kernel) rfl (fun L'=>FQ (N:=97) rfl rfl (by refine wo ?_;refine AD ?_;exact⟨Cu _ _ _,rfl⟩)) ?_
    refine Eg 1 rfl (by decide+kernel) rfl (fun L'=>FQ (N:=97) rfl rfl (by refine wo ?_;refine AD ?_;exact⟨Cu _ _ _,rfl⟩)) ?_
    refine Eg 4 rfl (by decide+kernel) rfl (fun L'=>FQ (N:=97) rfl rfl (by refine wo ?_;refine AD ?_;exact⟨Cu _ _ _,rfl⟩)) ?_
    refine Eg 5 rfl (by decide+kernel) rfl (fun L'=>FQ (N:=97) rfl rfl (by refine wo ?_;refine AD ?_;exact⟨Cu _ _ _,rfl⟩)) ?_
    refine Cw (fuel:=7) [2,6] (by decide+kernel) (by simp) fun i hi=>?_
    simp only[AH,Ah,or_false]at hi
    rcases hi with rfl|rfl
    ·refine⟨_,rfl,?_⟩
     refine wf ?_
     refine Eg 3 rfl (by decide+kernel) rfl (fun L'=>FQ (N:=97) rfl rfl (by refine wo ?_;refine AD ?_;exact⟨Cu _ _ _,rfl⟩)) ?_
     refine Cw (fuel:=5) [6] (by decide+kernel) (by simp) fun i hi=>?_
     simp only[AH,Ah,or_false]at hi
     subst hi
     refine⟨_,rfl,?_⟩
     refine wf ?_
     refine Eg 7 rfl (by decide+kernel) rfl (fun L'=>FQ (N:=97) rfl rfl (by refine wo ?_;refine AD ?_;exact⟨Cu _ _ _,rfl⟩)) ?_
     refine Eg 8 rfl (by decide+kernel) rfl (fun L'=>FQ (N:=97) rfl rfl (by refine wo ?_;refine AD ?_;exact⟨Cu _ _ _,rfl⟩)) ?_
     refine Cw (fuel:=2) [9] (by decide+kernel) (by simp) fun i hi=>?_
     simp only[AH,Ah,or_false]at hi
     subst hi
     refine⟨_,rfl,?_⟩
     refine wf ?_
     refine Eg 10 rfl (by decide+kernel) rfl (fun L'=>FQ (N:=97) rfl rfl (by refine wo ?_;refine AD ?_;exact⟨Cu _ _ _,rfl⟩)) ?_
     refine Cw (fuel:=0) [11] (by decide+kernel) (by simp) fun i hi=>?_
     simp only[AH,Ah,or_false]at hi
     subst hi
     refine⟨_,rfl,?_⟩
     refine wf ?_
     refine Cn (by decide+kernel) ?_
     refine wf ?_
     exact⟨trivial,⟨rfl,rfl,rfl,rfl,rfl,rfl,rfl⟩,.refl _⟩
    ·refine⟨_,rfl,?_⟩
     refine wf ?_
     refine Cw (fuel:=6) [2] (by decide+kernel) (by simp) fun i hi=>?_
     simp only[AH,Ah,or_false]at hi
     subst hi
     refine⟨_,rfl,?_⟩
     refine wf ?_
     refine Eg 3 rfl (by decide+kernel) rfl (fun L'=>FQ (N:=97) rfl rfl (by refine wo ?_;refine AD ?_;exact⟨Cu _ _ _,rfl⟩)) ?_
     refine Eg 7 rfl (by decide+kernel) rfl (fun L'=>FQ (N:=97) rfl rfl (by refine wo ?_;refine AD ?_;exact⟨Cu _ _ _,rfl⟩)) ?_
     refine Eg 8 rfl (by decide+kernel) rfl (fun L'=>FQ (N:=97) rfl rfl (by refine wo ?_;refine AD ?_;exact⟨Cu _ _ _,rfl⟩)) ?_
     refine Cw (fuel:=2) [9] (by decide+kernel) (by simp) fun i hi=>?_
     simp only[AH,Ah,or_false]at hi
     subst hi
     refine⟨_,rfl,?_⟩
     refine wf ?_
     refine Eg 10 rfl (by decide+kernel) rfl (fun L'=>FQ (N:=97) rfl rfl (by refine wo ?_;refine AD ?_;exact⟨Cu _ _ _,rfl⟩)) ?_
     refine Cw (fuel:=0) [11] (by decide+kernel) (by simp) fun i hi=>?_
     simp only[AH,Ah,or_false]at hi
     subst hi
     refine⟨_,rfl,?_⟩
     refine wf ?_
     refine Cn (by decide+kernel) ?_
     refine wf ?_
     exact⟨trivial,⟨rfl,rfl,rfl,rfl,rfl,rfl,rfl⟩,.refl _⟩
   ·refine wf ?_
    rw[show nx g a3=a3 by rw[nx,if_neg h]]
    exact⟨trivial,⟨rfl,rfl,rfl,rfl,rfl,rfl,rfl⟩,.refl _⟩
  have o4:(nx g a3).over.length≤40:=by unfold nx;split<;>exact o3
  generalize hg4:nx g a3=a4 at o4 ⊢
  repeat(refine Da ?_)
  refine CR (by kernel_rfl) ?_
  refine Lg ?_
  refine AD ?_
  rw[show Env.ev _ (Operand.const (Value.slice none 0 0))= .raw (.slice none 0 0) from rfl]
  refine wf ?_
  refine Ab (σ:=Nat × Value × List Res) (fun j=>j.1≤a4.over.length∧ot j.2.1 ((a4.over.take j.1).map fun y=>Dw y g) j.2.2) (fun j=>a4.over.length - j.1) (fun j=> [(4,.raw (.slice (some ⟨r,0,none⟩) l.length cc)),(8,.clo 252 [.pt (eDig g) 0]),(9,.raw (.int .i64 k)),(10,.raw (.pointer (some ⟨b10,0,none⟩))),(11,.raw j.2.1),(32,.raw (.slice (some ⟨r,0,none⟩) l.length cc)),(33,.raw (.int .i64 l.length)),(34,.raw (.int .i64 k)),(74,.slice (a4.over.map eIdent) .ro),(75,.raw (.int .i64 a4.over.length)),(76,.raw (.int .i64 j.1))]) (fun j=>j.2.2++(.box b10 125 (eAtm a4):: .box r 125 (xs.flatten++rest)::LF)) (0,.slice none 0 0,[]) ⟨by simp,.nil none (by simp)⟩ ⟨rfl,rfl,rfl,rfl,rfl,rfl,rfl,rfl,rfl,rfl,rfl⟩ (.refl _) ?_
  rintro⟨j,v2,R2⟩ ⟨hj,hI⟩
  dsimp only at hj hI ⊢
  refine wf ?_
  refine A6 (fun hc2=>?_) (fun hc2=>?_)
  ·have hjl:j < a4.over.length:=by omega
   refine wz fun b13=>?_
   refine Ay 13 ?_
   refine wf ?_
   refine Ik (f:=eIdent) (m:= [Dw a4.over[j] g]) (R:=R2) (LF:= .box b10 125 (eAtm a4):: .box r 125 (xs.flatten++rest)::LF) (fun R'=>R'++(.box b10 125 (eAtm a4):: .box r 125 (xs.flatten++rest)::LF)) rfl rfl hI (.refl _) (fun R'=> .refl _) (by simp only[AR,AZ,AN,Af];omega) (by simp only[AR,AZ,AN,Af];omega) fun v3 R3 h3=>?_
   refine wf ?_
   refine wf ?_
   refine⟨(j+1,v3,R3),⟨by dsimp only;omega,?_⟩,by dsimp only;omega,⟨rfl,rfl,rfl,rfl,rfl,rfl,rfl,rfl,rfl,rfl,rfl⟩,.refl _⟩
   dsimp only
   rw[A7 hjl,An]
   exact h3
  ·rw[AE (by omega)]at hI
   refine wf ?_
   refine CV (xs:= [.tmp 87,.func 159]) R2 (.box b10 125 (eAtm a4):: .box r 125 (xs.flatten++rest)::LF) (f:=158) (cs:= []) (C5 _) rfl rfl (.refl _) _ (Xj _ _ R2 hI (by simp only[AR];omega)) fun r' L3 ⟨v3,e3,h3⟩=>?_
   subst e3
   refine wo ?_
   refine AD ?_
   repeat(refine Da ?_)
   have hms:(sortI (a4.over.map fun y=>Dw y g)).length≤maxN∧(sortI (a4.over.map fun y=>Dw y g)).length*33≤maxN:=by
    have h1:maxN=140737488355328:=rfl
    have h2:(sortI (a4.over.map fun y=>Dw y g)).length=a4.over.length:=by rw[sortI,DN,AR]
    omega
   refine Gp (f:=eIdent) 11 h3 hms (.refl _) rfl ?_
   refine wf ?_
   have iput:FB (xs.flatten++rest) (0+k*172) (eAtm { a4 with over:=sortI (a4.over.map fun y=>Dw y g) }) ((xs.set k (eAtm (uJ g a4))).flatten++rest):=ZA hsz (by omega) (by simp)
   refine Fe (k:=k) rfl rfl hlt ?_
   refine wf ?_
   have hset:xs.set k (eAtm (uJ g a4))=((l.take (k+1)).map (fP g)++l.drop (k+1)).map eAtm:=by
    have hf:uJ g a4=fP g l[k]:=by rw[fP,hg2,hg3,hg4]
    rw[hf,hxs]
    refine DY (by simp;omega) fun i k1 k2=>?_
    rw[l8]
    split
    ·rename_i e
     subst e
     rw[BQ,BN (by simp;omega)]
     simp
    ·rename_i e
     rw[BQ,BQ]
     congr 1
     rcases BP i k with h'|h'
     ·rw[BN (by simp;omega),BN (by simp;omega)]
      simp
     ·rw[Bt (by simp;omega),Bt (by simp;omega)]
      simp only[J2,AR,AZ]
      congr 1
      omega
   have hnew: ∀ e∈xs.set k (eAtm (uJ g a4)),e.length=172:=fun e he=>by
    rw[hset]at he
    obtain⟨a,_,rfl⟩:=AO.1 he
    simp
   refine⟨(k+1,[.box r 125 ((xs.set k (eAtm (uJ g a4))).flatten++rest)]),⟨by dsimp only;omega,?_⟩,by dsimp only;omega,⟨rfl,rfl,rfl,rfl,rfl⟩,.cons _ (.refl _)⟩
   dsimp only
   rw[←hset]
   refine .row (by rw[DH,hlk]) hcl hnew ?_
   have h1:=Df hnew
   have h2:=Df hsz
   rw[DH]at h1
   omega
 ·have hkk:k=l.length:=by omega
  subst hkk
  rw[EN,List.drop_length,BU]at hR
  have hmx:((l.map (fP g)).map eAtm).length≤maxN∧((l.map (fP g)).map eAtm).length*172≤maxN:=by
   have:maxN=140737488355328:=rfl
   simp only[AR];omega
  refine Je 4 hR hmx (.refl _) rfl ?_
  refine wf ?_
  exact HD (.tuple2 (.ros rfl) (.refl _))⟩
end Go.Proofs
namespace Go.Proofs
open Go Go.Q
attribute [local irreducible] ER AQ BG Fu
instance uV (p:Pat) [hs:B4 (E5 p=false)]:C9 Tryz.prog 145 [.agg (Ba p)] (.tuple [.slice ((JN p).1.map eAtm) .ro,.raw (.int .i64 (JN p).2)]):=⟨by
 have i1:C9 Tryz.prog 201 [.agg (Ba p)] (.tuple [.slice ((JN p).1.map eAtm) .ro,.raw (.int .i64 (JN p).2)]):=ZN p hs.out
 refine Au Tryz.func145 Tryz.ntmps145 rfl (rs:= [.tmp 2,.tmp 3]) rfl rfl fun hb LF=>?_
 refine wf ?_
 exact HD (.refl _)⟩
instance yC:Cq Tryz.prog 170 [.slice [] .ro,.raw (.map none)]:=Cq.of (us:= [PV.slice [] .ro,.raw (.map none)].map zv) (by kernel_rfl) (by kernel_rfl)
def XE (s:List Sto) (m:Nat):List PV:= [.slice (s.map eSto) .ro,.raw (.map (some m))]
def Hb (m:Nat) (known:List (Dig × List Atm)):List Res:= [.map m (Bb kDig (KO eAtm) known)]
theorem TP (s:List Sto) (t:CN):BG Tryz.prog 75 [.slice (s.map eSto) t] [] (fun r L'=> ∃ m,r= .pt (XE s m) 0∧L'=Hb m []):=by
 refine CA Tryz.func75 rfl Tryz.ntmps75 (rs:= [.tmp 2]) rfl rfl fun hb LF=>?_
 refine wf ?_
 refine OM fun m=>?_
 refine wf ?_
 exact⟨trivial,_,Hb m [],.cons (.tmp 2) .nil,.refl _,m,rfl,rfl⟩
theorem jw (s:List Sto) (d:Dig):(Fp (fun x=>decide (x.id=d)) s < 0→getS s d=none)∧(∀ k:Nat,Fp (fun x=>decide (x.id=d)) s=(k:Int)→ ∃ h:k < s.length,getS s d=some s[k].patch):=by
 have key: ∀ l:List Sto,(l.any (fun x=>decide (x.id=d))=false→getS l d=none)∧(l.any (fun x=>decide (x.id=d))=true→ ∃ h:l.findIdx (fun x=>decide (x.id=d)) < l.length,getS l d=some (l[l.findIdx fun x=>decide (x.id=d)]).patch):=fun l=>by
  induction l with
  |nil=>exact⟨fun _=>rfl,fun h=>by cases h⟩
  |cons x l ih=>
   by_cases hx:x.id=d
   ·refine⟨fun h=>by simp[hx]at h,fun _=>?_⟩
    have e:(x::l).findIdx (fun x=>decide (x.id=d))=0:=by simp[H4,hx]
    refine⟨by rw[e];simp,?_⟩
    simp only[e,BM]
    rw[getS,if_pos hx]
   ·have eg:getS (x::l) d=getS l d:=by rw[getS,if_neg hx]
    refine⟨fun h=>by rw[eg];exact ih.1 (by simpa [hx]using h),fun h=>?_⟩
    obtain⟨h1,h2⟩:=ih.2 (by simpa [hx]using h)
    have e:(x::l).findIdx (fun x=>decide (x.id=d))=l.findIdx (fun x=>decide (x.id=d))+1:=by simp[H4,hx]
    refine⟨by rw[e,AN];omega,?_⟩
    simp only[e,DA]
    rw[eg,h2]
 obtain⟨k1,k2⟩:=key s
 refine⟨fun h=>k1 ?_,fun k h=>?_⟩
 ·unfold Fp at h
  by_cases ha:s.any (fun x=>decide (x.id=d))=true
  ·rw[if_pos ha]at h;omega
  ·simpa using ha
 ·unfold Fp at h
  by_cases ha:s.any (fun x=>decide (x.id=d))=true
  ·rw[if_pos ha]at h
   have hk:s.findIdx (fun x=>decide (x.id=d))=k:=by omega
   obtain⟨h1,h2⟩:=k2 ha
   subst hk
   exact⟨h1,h2⟩
  ·rw[if_neg ha]at h;omega
instance xf (x:Sto) (d:Dig):C9 Tryz.prog 52 [.agg (eSto x),.pt (eDig d) 0] (.raw (.bool (decide (x.id=d)))):=⟨by
 refine Au Tryz.func52 Tryz.ntmps52 rfl (rs:= [.tmp 3]) rfl rfl fun hb LF=>?_
 refine wf ?_
 exact Az (.refl _)⟩
instance L9 (s:List Sto) (t:CN) (d:Dig):C9 Tryz.prog 17 [.slice (s.map eSto) t,.agg (eDig d)] (.tuple [.agg (Ba ((getS s d).getD Pat.zero)),.raw (.bool (getS s d).isSome)]):=⟨by
 have i1: ∀ t,C9 Tryz.prog 51 [.slice (s.map eSto) t,.clo 52 [.pt (eDig d) 0]] (.raw (.int .i64 (Fp (fun x=>decide (x.id=d)) s))):=fun t=>VK _ _ _ s t
 obtain⟨g1,g2⟩:=jw s d
 refine Au Tryz.func17 Tryz.ntmps17 rfl (rs:= [.cell 4 40,.tmp 5]) rfl rfl fun hb LF=>?_
 refine wf ?_
 refine CC fun b4=>?_
 refine wf ?_
 refine A6 (fun h=>?_) (fun h=>?_)
 ·rw[g1 h]
  rw[CW,NG]
  refine wf ?_
  exact L6 rfl (.refl _)
 ·obtain⟨k,hk⟩: ∃ k:Nat,Fp (fun x=>decide (x.id=d)) s=(k:Int):=⟨(Fp (fun x=>decide (x.id=d)) s).toNat,by omega⟩
  obtain⟨hlt,hg⟩:=g2 k hk
  rw[hk,hg,Option.isSome_some,Br]
  refine wf ?_
  exact L6 rfl (.refl _)⟩
def coreA (a:Atm):Atm:={ a with over:= [] }
theorem P8: ∀ (l:List Chg) (own:List Atm),NN own→NN (Cv l own).1
 | [],_,h=>h
 |c::l,own,h=>by
  unfold Cv
  split
  ·exact fun i hi=>absurd hi (by simp)
  ·split
   ·exact fun i hi=>absurd hi (by simp)
   ·exact P8 l _ (PW c h)
theorem Yt (p:Pat):NN (Bo p).1:=by
 have h0:NN ([]:List Atm):=fun i hi=>absurd hi (by simp)
 unfold Bo
 repeat' split
 all_goals first|exact h0|exact P8 _ _ h0
theorem nw (d:Dig) {a:Atm} (h1:a.id.patch=Dig.zero) (h2:0≤a.id.n):coreA (fP d a)=coreA (QH d a):=by
 have e:gA d a=LH d a:=by
  unfold gA LH Dw;rw[if_pos ⟨h1,h2⟩]
 rw[fP,QH,e]
 rfl
theorem WC (p:Pat):(Ko p).2.2=(EW p).2:=by
 rw[WE,EW]
 by_cases h:(CD p).2≠0
 ·rw[if_pos h]
 ·rw[if_neg h];simpa using h
theorem WB {p:Pat} (h:(Ko p).2.2=0):(Ko p).1=(Bo p).1∧(Bo p).2=0:=by
 unfold Ko at h ⊢
 by_cases g1:(Bo p).2≠0
 ·rw[if_pos g1]at h;exact absurd h g1
 by_cases g2:65536 < ((NS p).length:Int)
 ·rw[if_neg g1,if_pos g2]at h;exact absurd h (by decide)
 rw[if_neg g1,if_neg g2]
 exact⟨rfl,by simpa using g1⟩
theorem bK (p:Pat):(JN p).1.map coreA=(Iq p).1.map coreA:=by
 unfold JN Iq
 rw[WC]
 by_cases h:(EW p).2≠0
 ·rw[if_pos h,if_pos h]
 ·rw[if_neg h,if_neg h,if_neg h]
  have h3:(Ko p).2.2=0:=by rw[WC];simpa using h
  dsimp only
  rw[(WB h3).1,CK,CK]
  refine C6 fun a ha=>?_
  obtain⟨i,hi,rfl⟩:=Ad.1 ha
  have e:=Yt p i hi
  exact nw _ (by rw[e]) (by rw[e];exact Int.natCast_nonneg _)
def JY (s:List Sto) (d:Dig):List Atm:=(JN ((getS s d).getD Pat.zero)).1
def Iz (s:List Sto) (x:Ident):Option Atm:=if x.n < 0∨((JY s x.patch).length:Int)≤x.n then none else(JY s x.patch)[x.n.toNat]?
theorem fb (s:List Sto) (x:Ident):(Iz s x).map coreA=(HT s x).map coreA:=by
 have e:=bK ((getS s x.patch).getD Pat.zero)
 have el:=congrArg List.length e
 rw[AR,AR]at el
 unfold Iz HT JY Ht
 rw[el]
 by_cases h:x.n < 0∨((Iq ((getS s x.patch).getD Pat.zero)).1.length:Int)≤x.n
 ·rw[if_pos h,if_pos h]
 ·rw[if_neg h,if_neg h,←H3,←H3,e]
theorem aD {f:Atm→Bool} (hf: ∀ a,f a=f (coreA a)) {o p:Option Atm} (e:o.map coreA=p.map coreA):EG o f=EG p f:=by
 cases o with
 |none=>cases p with
  |none=>rfl
  |some b=>cases e
 |some a=>cases p with
  |none=>cases e
  |some b=>
   have e2:coreA a=coreA b:=by simpa using e
   unfold EG
   rw[Br,Br,hf a,hf b,e2];rfl
theorem OT (s:List Sto) (x:Ident) {f:Atm→Bool} (hf: ∀ a,f a=f (coreA a)):EG (Iz s x) f=EG (HT s x) f:=aD hf (fb s x)
def P7 (c:Chg) (g:Ident) (r:Rfc):Atm→Bool:=
 if r.f=187 then uI c.kind else if r.f=189 then nH else if r.f=190 then tw r.id c.file g else ux (fy c.kind) g
theorem TT {l:List Rfc} {r x:Rfc} (h:r∈Jf l x):r∈l∨r=x:=by
 unfold Jf at h
 split at h
 ·exact .inl h
 ·simpa using h
theorem RI {α:Type} {f:α→Rfc} {r:Rfc}: ∀ {o:List α} {l:List Rfc},r∈o.foldl (fun l x=>Jf l (f x)) l→r∈l∨ ∃ x∈o,r=f x
 | [],_,h=> .inl h
 |y::o,l,h=>by
  rw[C0]at h
  rcases RI (o:=o) h with h|⟨x,hx,e⟩
  ·rcases TT h with h|h
   ·exact .inl h
   ·exact .inr ⟨y,by simp,h⟩
  ·exact .inr ⟨x,by simp[hx],e⟩
theorem fL (id:Dig) (c:Chg) (r:Rfc) (h:r∈Ja id c):x8 Tryz.prog r (P7 c (DK id c) r):=by
 unfold Ja rl at h
 rcases RI h with h|⟨x,_,rfl⟩
 ·unfold fu at h
  have key:r∈aA c (XW c)∨ ∃ x:Ident,r=O2 (DK id c) c x:=by
   split at h
   ·rcases RI h with h|⟨x,_,e⟩
    ·exact .inl h
    ·exact .inr ⟨x,e⟩
   ·exact .inl h
  rcases key with h|⟨x,rfl⟩
  ·unfold aA at h
   have key:r∈XW c∨r=⟨c.parent,189,[]⟩:=by
    split at h
    ·exact TT h
    ·exact .inl h
   rcases key with h|rfl
   ·unfold XW at h
    have key:r=⟨c.file,187,[.pt (eChg c) 0]⟩:=by
     split at h
     ·rcases TT h with h|h
      ·cases h
      ·exact h
     ·cases h
    subst key
    exact⟨inferInstance,fun a=>(rM c a).out⟩
   ·exact⟨inferInstance,fun a=>(rL a).out⟩
  ·exact⟨(inferInstance:B5 Tryz.prog 190),fun a=>(rJ x (DK id c) c a).out⟩
 ·exact⟨(inferInstance:B5 Tryz.prog 192),fun a=>(rI (fy c.kind) (DK id c) a).out⟩
def HS (s:List Sto) (c:Chg) (g:Ident) (r:Rfc):Int:=EG (Iz s r.id) (P7 c g r)
def O6 (s:List Sto) (id:Dig) (c:Chg):Int:=Av (HS s c (DK id c)) (Ja id c)
def Qt (s:List Sto) (p:Pat) (id:Dig):Int:=Av (O6 s id) p.changes
theorem LP (f:Rfc→Int) (l:List Rfc) (r:Rfc):Av f (Jf l r)=if Av f l≠0 then Av f l else if r.id.patch=Dig.zero then 0 else f r:=by
 unfold Jf
 by_cases h:r.id.patch=Dig.zero
 ·rw[if_pos h,if_pos h]
  by_cases h2:Av f l=0
  ·rw[if_neg (by simp[h2]),h2]
  ·rw[if_pos h2]
 ·rw[if_neg h,if_neg h,Gk]
  have:Av f [r]=f r:=by
   rw[Av,Av];split
   ·rename_i h;exact h.symm
   ·rfl
  rw[this]
theorem Iw {α:Type} (f:Rfc→Int) (h:α→Rfc): ∀ (o:List α) (l:List Rfc),Av f (o.foldl (fun l x=>Jf l (h x)) l)=if Av f l≠0 then Av f l else Av (fun x=>if(h x).id.patch=Dig.zero then 0 else f (h x)) o
 | [],l=>by
   by_cases h2:Av f l=0
   ·simp[h2,Av]
   ·simp[h2]
 |x::o,l=>by
  rw[C0,Iw f h o,LP,Av]
  generalize (if(h x).id.patch=Dig.zero then 0 else f (h x))=v
  by_cases h2:Av f l=0<;>by_cases h3:v=0<;>simp[h2,h3]
theorem Rp {c:Chg} (hf:Bz c=0):(¬(2≤c.kind∧c.kind≤6)→c.file=Ident.zero)∧(c.kind≠2→c.parent=Ident.zero)∧(¬(c.kind=5∨c.kind=6)→c.after=Ident.zero∧c.before=Ident.zero):=by
 have h2:=KD hf
 unfold Fo Hr at h2
 simp only[BJ,AB]at h2
 obtain⟨⟨⟨⟨⟨⟨⟨⟨⟨h1,_⟩,h3⟩,_⟩,_⟩,_⟩,h7⟩,h8⟩,_⟩,_⟩:=h2
 refine⟨fun h=>?_,fun h=>?_,fun h=>⟨?_,?_⟩⟩
 ·rwa [if_neg h]at h1
 ·rwa [if_neg h]at h3
 ·rwa [if_neg h]at h7
 ·rwa [if_neg h]at h8
theorem kV (s:List Sto) (id:Dig) {c:Chg} {own:List Atm} (hf:Bz c=0) (hr:Ey c own=0):O6 s id c=KU s c id:=by
 have hk:=Jj hf
 obtain⟨z1,z2,z3⟩:=Rp hf
 have hn:2≤c.kind∧c.kind≤6→0≤c.file.n:=fun h=>by
  have h1:Jy c own=0:=by
   by_cases h0:Jy c own=0
   ·exact h0
   ·rw[Ey,if_pos h0]at hr;exact absurd hr h0
  rw[Jy,if_pos h,J4]at h1
  by_cases h2:Dj c.file own.length=false
  ·rw[if_pos h2]at h1;omega
  ·have h2:Dj c.file own.length=true:=by simpa using h2
   unfold Dj at h2
   split at h2<;>simp at h2<;>omega
 have hg:2≤c.kind∧c.kind≤6→DK id c=FA c.file id:=fun h=>by
  unfold DK FA
  by_cases h1:c.file.patch=Dig.zero
  ·rw[if_pos h1,if_pos ⟨hn h,h1⟩]
  ·rw[if_neg h1,if_neg (fun h=>h1 h.2)]
 have e1:Av (HS s c (DK id c)) (XW c)=Jd s c:=by
  unfold XW Jd
  by_cases h:c.kind≠1∧c.kind≠7
  ·rw[if_pos h,LP,if_neg (by simp[Av])]
   unfold EH
   by_cases h1:c.file.patch=Dig.zero
   ·rw[if_pos h1,if_neg (by simp[h1])]
   ·rw[if_neg h1,if_pos (by simp[h1]),HS,show P7 c (DK id c) ⟨c.file,187,[.pt (eChg c) 0]⟩=uI c.kind from rfl,OT s c.file (fun a=>rfl)]
    congr 1
    funext a
    unfold uI EK IW
    by_cases h5:c.kind=5∨c.kind=6
    ·rcases h5 with h|h<;>simp[h]
    ·have: ¬c.kind=5∧ ¬c.kind=6:=⟨fun h=>h5 (.inl h),fun h=>h5 (.inr h)⟩
     by_cases h4:c.kind=4<;>simp[this,h4]
  ·rw[if_neg h,z1 (by omega)]
   simp[Av,EH,Ident.zero]
 have e2: ∀ l,Av (HS s c (DK id c)) (aA c l)=if Av (HS s c (DK id c)) l≠0 then Av (HS s c (DK id c)) l else Lu s c:=fun l=>by
  unfold aA Lu
  by_cases h:c.kind=2
  ·rw[if_pos h,LP]
   unfold EH
   by_cases h1:c.parent.patch=Dig.zero
   ·rw[if_pos h1,if_neg (by simp[h1]: ¬(!decide (c.parent.patch=Dig.zero))=true)]
   ·rw[if_neg h1,if_pos (by simp[h1]:(!decide (c.parent.patch=Dig.zero))=true),HS,show P7 c (DK id c) ⟨c.parent,189,[]⟩=nH from rfl,OT s c.parent (fun a=>rfl)]
    rfl
  ·rw[if_neg h,z2 h,if_neg (by simp[EH,Ident.zero]: ¬EH Ident.zero=true)]
   split
   ·rfl
   ·rename_i h;simpa using h
 have e3:Jd s c=0→ ∀ l,Av (HS s c (DK id c)) (fu (DK id c) c l)=if Av (HS s c (DK id c)) l≠0 then Av (HS s c (DK id c)) l else if GL s c.after c.file id≠0 then GL s c.after c.file id else GL s c.before c.file id:=fun hF l=>by
  unfold fu
  by_cases h:c.kind=5∨c.kind=6
  ·have hx: ∀ x:Ident,(if(O2 (DK id c) c x).id.patch=Dig.zero then 0 else HS s c (DK id c) (O2 (DK id c) c x))=GL s x c.file id:=fun x=>by
    unfold GL EH
    by_cases h1:x.patch=Dig.zero
    ·rw[if_pos (show(O2 (DK id c) c x).id.patch=Dig.zero from h1),if_pos (by simp[h1])]
    ·rw[if_neg (show ¬(O2 (DK id c) c x).id.patch=Dig.zero from h1),HS,show P7 c (DK id c) (O2 (DK id c) c x)=tw x c.file (DK id c) from rfl,show(O2 (DK id c) c x).id=x from rfl,OT s x (fun a=>rfl)]
     by_cases h2:x=c.file
     ·rw[if_pos (.inr h2)]
      subst h2
      rw[Jd,if_pos (by simp[EH,h1]),EG]at hF
      by_cases h3:(HT s c.file).isSome=false
      ·rw[if_pos h3]at hF;omega
      ·rw[EG,if_neg h3,if_neg (by simp[tw])]
     ·rw[if_neg (by simp[h1,h2]),hg (by omega)]
      congr 1
      funext a
      simp[tw,Im,h2]
   rw[if_pos h,Iw,Av,Av,Av,hx,hx]
   by_cases q1:GL s c.after c.file id=0
   ·rw[if_pos q1,if_neg (by simp[q1]: ¬GL s c.after c.file id≠0)]
    by_cases q2:GL s c.before c.file id=0
    ·rw[if_pos q2,q2]
    ·rw[if_neg q2]
   ·rw[if_neg q1,if_pos q1]
  ·obtain⟨za,zb⟩:=z3 h
   have q:GL s Ident.zero c.file id=0:=by rw[GL,if_pos (.inl (by simp[EH,Ident.zero]))]
   rw[if_neg h,za,zb,q]
   split
   ·rfl
   ·rename_i h;simpa using h
 have e4: ∀ l,Av (HS s c (DK id c)) (rl (DK id c) c l c.over)=if Av (HS s c (DK id c)) l≠0 then Av (HS s c (DK id c)) l else Av (Ky s c id) c.over:=fun l=>by
  unfold rl
  rw[Iw]
  congr 1
  refine GQ fun x hx=>?_
  have h15:c.kind≠1∧c.kind≠5:=⟨fun h=>(by rw[Ji hf (.inl h)]at hx;simp at hx),fun h=>(by rw[Ji hf (.inr h)]at hx;simp at hx)⟩
  unfold Ky EH
  by_cases h1:x.patch=Dig.zero
  ·rw[if_pos (show(Mq (DK id c) c x).id.patch=Dig.zero from h1),if_pos (by simp[h1])]
  ·rw[if_neg (show ¬(Mq (DK id c) c x).id.patch=Dig.zero from h1),if_neg (by simp[h1]),HS,show P7 c (DK id c) (Mq (DK id c) c x)=ux (fy c.kind) (DK id c) from rfl,show(Mq (DK id c) c x).id=x from rfl,OT s x (fun a=>rfl)]
   congr 1
   funext a
   unfold ux GK QB fy
   by_cases h7:c.kind=7
   ·simp[h7]
   ·have:c.kind=2∨c.kind=3∨c.kind=4∨c.kind=6:=by omega
    rw[if_pos this,if_neg h7,hg (by omega)]
 unfold O6 Ja KU
 rw[e4]
 by_cases q0:Jd s c=0
 ·rw[e3 q0,e2,e1,q0]
  by_cases q1:Lu s c=0
  ·by_cases q2:GL s c.after c.file id=0
   ·by_cases q3:GL s c.before c.file id=0
    ·simp[q1,q2,q3]
    ·simp[q1,q2,q3]
   ·simp[q1,q2]
  ·simp[q1]
 ·have k2:Av (HS s c (DK id c)) (aA c (XW c))=Jd s c:=by rw[e2,e1,if_pos q0]
  have k3:Av (HS s c (DK id c)) (fu (DK id c) c (aA c (XW c)))=Jd s c:=by
   unfold fu
   split
   ·rw[Iw,k2,if_pos q0]
   ·exact k2
  rw[k3,if_pos q0,if_pos q0]
theorem U1: ∀ {l:List Chg} {own:List Atm},(Cv l own).2=0→ ∀ c∈l,Bz c=0∧ ∃ own,Ey c own=0
 | [],_,_,c,h=>by cases h
 |x::l,own,h,c,hc=>by
  unfold Cv at h
  by_cases h1:Bz x≠0
  ·rw[if_pos h1]at h;exact absurd h h1
  by_cases h2:Ey x own≠0
  ·rw[if_neg h1,if_pos h2]at h;exact absurd h h2
  rw[if_neg h1,if_neg h2]at h
  rcases AH.1 hc with rfl|hc
  ·exact⟨by simpa using h1,own,by simpa using h2⟩
  ·exact U1 h c hc
theorem UJ {p:Pat} (h:(Bo p).2=0): ∀ c∈p.changes,Bz c=0∧ ∃ own,Ey c own=0:=by
 have e:J7 p=0:=by
  by_cases h0:J7 p=0
  ·exact h0
  ·rw[Ic,if_pos h0]at h;exact absurd h h0
 rw[Mm e]at h
 exact U1 h
theorem gQ (s:List Sto) {p:Pat} (id:Dig) (h:(EW p).2=0):Qt s p id=GF s p id:=by
 have h2:=(WB (p:=p) (by rw[WC];exact h)).2
 refine GQ fun c hc=>?_
 obtain⟨hf,own,hr⟩:=UJ h2 c hc
 exact kV s id hf hr
end Go.Proofs
namespace Go.Proofs
open Go Go.Q
theorem Px {n:Nat} (h:n < 256):(UInt8.ofNat n).toNat=n:=by
 rw[UInt8.toNat_ofNat'];omega
theorem Ml (n:Nat): ∀ c∈Hs n,48≤c.toNat∧c.toNat≤57:=by
 induction n using Nat.strongRecOn with
 |_ n ih=>
  by_cases h:n < 10
  ·rw[IQ h]
   intro c hc
   rw[Ag.1 hc,Px (by omega)]
   omega
  ·rw[Lr h]
   intro c hc
   rcases Ai.1 hc with hc|hc
   ·exact ih (n / 10) (by omega) c hc
   ·rw[Ag.1 hc,Px (by omega)]
    omega
theorem cB (n:Nat):Hs n≠ []:=by
 by_cases h:n < 10
 ·rw[IQ h];simp
 ·rw[Lr h];simp
def pK (l:Str):Nat:=l.foldl (fun a c=>10*a+(c.toNat - 48)) 0
theorem SU (n:Nat):pK (Hs n)=n:=by
 induction n using Nat.strongRecOn with
 |_ n ih=>
  by_cases h:n < 10
  ·rw[IQ h]
   show 10*0+((UInt8.ofNat (48+n)).toNat - 48)=n
   rw[Px (by omega)];omega
  ·rw[Lr h]
   have e:=ih (n / 10) (by omega)
   unfold pK at e ⊢
   rw[CH,e]
   show 10*(n / 10)+((UInt8.ofNat (48+n % 10)).toNat - 48)=n
   rw[Px (by omega)];omega
theorem TA {n m:Nat} (h:Hs n=Hs m):n=m:=by rw[←SU n,h,SU]
theorem Uw (n:Nat) (l:Str) (r:Str): ¬45::l=Hs n++r:=fun h=>by
 cases hd:Hs n with
 |nil=>exact cB n hd
 |cons c t=>
  rw[hd,B0]at h
  injection h with h1 _
  have:=Ml n c (by rw[hd];simp)
  rw[←h1]at this
  exact absurd this.1 (by decide)
theorem eG {n m:Int} (h:J8 n=J8 m):n=m:=by
 unfold J8 at h
 by_cases h1:n < 0
 ·by_cases h2:m < 0
  ·rw[if_pos h1,if_pos h2]at h
   injection h with _ h
   have:=TA h
   omega
  ·rw[if_pos h1,if_neg h2]at h
   exact absurd (by rw[h,BU]) (Uw m.toNat _ [])
 ·by_cases h2:m < 0
  ·rw[if_neg h1,if_pos h2]at h
   exact absurd (by rw[←h,BU]) (Uw n.toNat (Hs (-m).toNat) [])
  ·rw[if_neg h1,if_neg h2]at h
   have:=TA h
   omega
theorem bg: ∀ {a b r s:Str},(∀ c∈a,c.toNat≤57)→(∀ c∈b,c.toNat≤57)→a++58::r=b++58::s→a=b∧r=s
 | [],[],r,s,_,_,h=>⟨rfl,by simpa using h⟩
 | [],y::b,r,s,_,hb,h=>by
   rw[B9,B0]at h
   injection h with h1 _
   have:=hb y (by simp)
   rw[←h1]at this
   exact absurd this (by decide)
 |x::a,[],r,s,ha,_,h=>by
  rw[B9,B0]at h
  injection h with h1 _
  have:=ha x (by simp)
  rw[h1]at this
  exact absurd this (by decide)
 |x::a,y::b,r,s,ha,hb,h=>by
  rw[B0,B0]at h
  injection h with h1 h2
  obtain⟨e1,e2⟩:=bg (fun c hc=>ha c (AI _ hc)) (fun c hc=>hb c (AI _ hc)) h2
  exact⟨by rw[h1,e1],e2⟩
theorem Oe: ∀ {d:Nat} {x:Sx},Oq d x→ ∃ c t,Dp d x=c::t∧c≠41∧(c=40↔x.isList=true)
 |0,_,h=>h.elim
 |d+1,x,_=>by
  cases hl:x.isList with
  |true=>exact⟨40,_,by rw[Dp,if_pos hl],by decide,by simp⟩
  |false=>
   have e:Dp (d+1) x=Hs x.atom.length++58::x.atom:=by rw[Dp,if_neg (by simp[hl])]
   cases hd:Hs x.atom.length with
   |nil=>exact absurd hd (cB _)
   |cons c t=>
    have hc:=Ml x.atom.length c (by rw[hd];simp)
    refine⟨c,t++58::x.atom,by rw[e,hd];rfl,?_,?_⟩
    ·rintro rfl;exact absurd hc.1 (by decide)
    ·constructor
     ·rintro rfl;exact absurd hc.1 (by decide)
     ·intro h';cases h'
theorem ZJ {d:Nat} (ih: ∀ {x y:Sx} {r s:Str},Oq d x→Oq d y→Dp d x++r=Dp d y++s→x=y∧r=s): ∀ {l m:List Sx} {r s:Str},(∀ y∈l,Oq d y)→(∀ y∈m,Oq d y)→l.flatMap (Dp d)++41::r=m.flatMap (Dp d)++41::s→l=m∧r=s
 | [],[],r,s,_,_,h=>⟨rfl,by simpa using h⟩
 | [],y::m,r,s,_,hm,h=>by
   obtain⟨c,t,e,h41,_⟩:=Oe (hm y (by simp))
   rw[List.flatMap_nil,B9,DI,e,B0,B0]at h
   injection h with h1 _
   exact absurd h1.symm h41
 |x::l,[],r,s,hl,_,h=>by
  obtain⟨c,t,e,h41,_⟩:=Oe (hl x (by simp))
  rw[List.flatMap_nil,B9,DI,e,B0,B0]at h
  injection h with h1 _
  exact absurd h1 h41
 |x::l,y::m,r,s,hl,hm,h=>by
  rw[DI,DI,AV,AV]at h
  obtain⟨e1,e2⟩:=ih (hl x (by simp)) (hm y (by simp)) h
  obtain⟨e3,e4⟩:=ZJ ih (fun z hz=>hl z (AI _ hz)) (fun z hz=>hm z (AI _ hz)) e2
  exact⟨by rw[e1,e3],e4⟩
theorem ZI: ∀ (d:Nat) {x y:Sx} {r s:Str},Oq d x→Oq d y→Dp d x++r=Dp d y++s→x=y∧r=s
 |0,_,_,_,_,h,_,_=>h.elim
 |d+1,x,y,r,s,hx,hy,h=>by
  obtain⟨c1,t1,e1,_,k1⟩:=Oe hx
  obtain⟨c2,t2,e2,_,k2⟩:=Oe hy
  have hc:c1=c2:=by
   rw[e1,e2,B0,B0]at h
   injection h
  subst hc
  have hkind:x.isList=y.isList:=by
   rw[Gz];exact k1.symm.trans k2
  clear k1 k2 e1 e2
  obtain⟨b1,a1,l1⟩:=x
  obtain⟨b2,a2,l2⟩:=y
  change b1=b2 at hkind
  subst hkind
  rcases hx with ⟨h1,h2,h3⟩|⟨h1,h2,h3⟩
  ·rcases hy with ⟨_,g2,_⟩|⟨g1,_⟩
   ·change b1=false at h1
    change l1= []at h2
    change l2= []at g2
    subst h1 h2 g2
    have q1:Dp (d+1) (.mk false a1 [])=Hs a1.length++58::a1:=rfl
    have q2:Dp (d+1) (.mk false a2 [])=Hs a2.length++58::a2:=rfl
    rw[q1,q2,AV,AV,B0,B0]at h
    obtain⟨e1,e2⟩:=bg (fun c hc=>(Ml _ c hc).2) (fun c hc=>(Ml _ c hc).2) h
    obtain⟨e3,e4⟩:=List.append_inj e2 (TA e1)
    exact⟨by rw[e3],e4⟩
   ·change b1=false at h1
    change b1=true at g1
    rw[h1]at g1;cases g1
  ·rcases hy with ⟨g1,_⟩|⟨_,g2,g3⟩
   ·change b1=true at h1
    change b1=false at g1
    rw[h1]at g1;cases g1
   ·change b1=true at h1
    change a1= []at h2
    change a2= []at g2
    subst h1 h2 g2
    have q1:Dp (d+1) (.mk true [] l1)=40::(l1.flatMap (Dp d)++ [41]):=rfl
    have q2:Dp (d+1) (.mk true [] l2)=40::(l2.flatMap (Dp d)++ [41]):=rfl
    rw[q1,q2,B0,B0,AV,AV]at h
    injection h with _ h
    obtain⟨e1,e2⟩:=ZJ (fun hx hy h=>ZI d hx hy h) h3 g3 h
    exact⟨congrArg (Sx.mk true []) e1,e2⟩
theorem Kd {α β:Type} {f:α→β}: ∀ {l m:List α},(∀ x∈l,∀ y∈m,f x=f y→x=y)→l.map f=m.map f→l=m
 | [],[],_,_=>rfl
 | [],y::m,_,h=>by simp at h
 |x::l,[],_,h=>by simp at h
 |x::l,y::m,hf,h=>by
  rw[Aq,Aq]at h
  injection h with h1 h2
  rw[hf x (by simp) y (by simp) h1,Kd (fun a ha b hb=>hf a (AI _ ha) b (AI _ hb)) h2]
theorem HG {a b:Str} (h:Cb a=Cb b):a=b:=congrArg Sx.atom h
theorem KI {l m:List Sx} (h:E7 l=E7 m):l=m:=congrArg Sx.list h
theorem Y5 {a b:Dig} (h:K8 a=K8 b):a=b:=by
 unfold K8 at h
 by_cases h1:a=Dig.zero
 ·by_cases h2:b=Dig.zero
  ·rw[h1,h2]
  ·rw[if_pos h1,if_neg h2]at h
   have:=congrArg List.length (HG h)
   rw[b.len]at this;simp at this
 ·by_cases h2:b=Dig.zero
  ·rw[if_neg h1,if_pos h2]at h
   have:=congrArg List.length (HG h)
   rw[a.len]at this;simp at this
  ·rw[if_neg h1,if_neg h2]at h
   exact Dig.ext (HG h)
def Ry (n:Int):Prop:= -1099511627776≤n∧n≤1099511627776
theorem Nj {n m:Int} (hn:Ry n) (hm:Ry m) (h:GD n=GD m):n=m:=by
 unfold Ry at hn hm
 unfold GD R7 at h
 rw[if_neg (by omega),if_neg (by omega)]at h
 exact eG (HG h)
theorem H8 {x y:Ident} (hx:Ry x.n) (hy:Ry y.n) (h:GB x=GB y):x=y:=by
 have h:=KI h
 injection h with h1 h2
 injection h2 with h2 _
 obtain⟨p,n⟩:=x
 obtain⟨q,m⟩:=y
 have e1:=Y5 h1
 have e2:=Nj hx hy h2
 subst e1 e2;rfl
structure oQ (c:Chg):Prop where
 fields:Bz c=0
 file:Ry c.file.n
 parent:Ry c.parent.n
 after:Ry c.after.n
 before:Ry c.before.n
 over: ∀ x∈c.over,Ry x.n
 mode:c.kind=3→Ry c.mode
 type:c.kind=1→Ry c.type
theorem Lh {l m:List Ident} (hl: ∀ x∈l,Ry x.n) (hm: ∀ x∈m,Ry x.n) (h:J6 l=J6 m):l=m:=
 Kd (fun x hx y hy e=>H8 (hl x hx) (hm y hy) e) (KI h)
theorem Um (c:Chg):(Kn c).list=([GD c.kind]++Jw c++IV c)++Ku c:=rfl
theorem im {c e:Chg} (hc:oQ c) (he:oQ e) (h:Kn c=Kn e):c=e:=by
 have k1:=Jj hc.fields
 have k2:=Jj he.fields
 have z1:=KD hc.fields
 have z2:=KD he.fields
 have h:=congrArg Sx.list h
 rw[Um,Um]at h
 have hk:c.kind=e.kind:=by
  have h1:=congrArg List.head? h
  simp only[MM,B0,List.head?_cons,J1]at h1
  exact Nj (by unfold Ry;omega) (by unfold Ry;omega) h1
 obtain⟨ck,cfile,ctype,cparent,cname,cmode,cdata,cafter,cbefore,clines,cover⟩:=c
 obtain⟨ek,efile,etype,eparent,ename,emode,edata,eafter,ebefore,elines,eover⟩:=e
 change ck=ek at hk
 subst hk
 obtain⟨_,c1,c2,c3,c4,c5,c6,c7⟩:=hc
 obtain⟨_,e1,e2,e3,e4,e5,e6,e7⟩:=he
 simp only at k1 c1 c2 c3 c4 c5 c6 c7 e1 e2 e3 e4 e5 e6 e7
 unfold Fo Hr at z1 z2
 simp only[BJ,AB]at z1 z2
 obtain⟨⟨⟨⟨⟨⟨⟨⟨⟨p1,p2⟩,p3⟩,p4⟩,p5⟩,p6⟩,p7⟩,p8⟩,p9⟩,p10⟩:=z1
 obtain⟨⟨⟨⟨⟨⟨⟨⟨⟨q1,q2⟩,q3⟩,q4⟩,q5⟩,q6⟩,q7⟩,q8⟩,q9⟩,q10⟩:=z2
 have n9: ∀ {α:Type} {l:List α},(l.length:Int)=0→l= []:=fun h=>BO (by omega)
 have p9:=n9 p9
 have p10:=n9 p10
 have q9:=n9 q9
 have q10:=n9 q10
 clear n9
 have hlin: ∀ {l m:List Str},E7 (l.map Cb)=E7 (m.map Cb)→l=m:=fun h=>Kd (fun _ _ _ _ e=>HG e) (KI h)
 rcases kinds k1 with rfl|rfl|rfl|rfl|rfl|rfl|rfl<;>
  simp (decide:=true) only[Jw,IV,Ku,if_true,if_false,ite_true,ite_false,B9,BU,MM,B0,OG,true_and,and_true,and_self,true_or,or_true,or_self,ne_eq,not_true_eq_false,not_false_eq_true]at h p1 p2 p3 p4 p5 p6 p7 p8 p9 p10 q1 q2 q3 q4 q5 q6 q7 q8 q9 q10
 ·have:=Nj (c7 rfl) (e7 rfl) h
  simp only[*]
 ·obtain⟨h1,h2,h3,h4⟩:=h
  have:=H8 c1 e1 h1
  have:=H8 c2 e2 h2
  have:=HG h3
  have:=Lh c5 e5 h4
  simp only[*]
 ·obtain⟨h1,h2,h3⟩:=h
  have:=H8 c1 e1 h1
  have:=Nj (c6 rfl) (e6 rfl) h2
  have:=Lh c5 e5 h3
  simp only[*]
 ·obtain⟨h1,h2,h3⟩:=h
  have:=H8 c1 e1 h1
  have:=HG h2
  have:=Lh c5 e5 h3
  simp only[*]
 ·obtain⟨h1,h2,h3,h4⟩:=h
  have:=H8 c1 e1 h1
  have:=H8 c3 e3 h2
  have:=H8 c4 e4 h3
  have:=hlin h4
  simp only[*]
 ·obtain⟨h1,h2,h3,h4⟩:=h
  have:=H8 c1 e1 h1
  have:=H8 c3 e3 h2
  have:=H8 c4 e4 h3
  have:=Lh c5 e5 h4
  simp only[*]
 ·have:=Lh c5 e5 h
  simp only[*]
theorem S4 (N:Nat): ∀ {l:List Chg} {own:List Atm},(Cv l own).2=0→own.length+4001*l.length≤N→ ∀ c∈l,Bz c=0∧ ∃ own:List Atm,own.length≤N∧Ey c own=0
 | [],_,_,_,c,h=>by cases h
 |x::l,own,h,hN,c,hc=>by
  unfold Cv at h
  by_cases h1:Bz x≠0
  ·rw[if_pos h1]at h;exact absurd h h1
  by_cases h2:Ey x own≠0
  ·rw[if_neg h1,if_pos h2]at h;exact absurd h h2
  rw[if_neg h1,if_neg h2]at h
  have h1:Bz x=0:=by simpa using h1
  rw[AN]at hN
  rcases AH.1 hc with rfl|hc
  ·exact⟨h1,own,by omega,by simpa using h2⟩
  ·refine S4 N h ?_ c hc
   have:=Ln x own.length
   have:=JU h1
   rw[AA]
   omega
theorem QG {x:Ident} {own:List Atm} {b:Bool} (hN:own.length≤1000000000) (h:J4 x own b=0):Ry x.n:=by
 unfold J4 at h
 by_cases h1:Dj x own.length=false
 ·rw[if_pos h1]at h;exact absurd h (by decide)
 ·have h1:Dj x own.length=true:=by simpa using h1
  unfold Dj at h1
  unfold Ry
  split at h1<;>simp at h1<;>omega
theorem QV:Ry Ident.zero.n:=by unfold Ry;exact⟨by decide,by decide⟩
theorem oO {c:Chg} {own:List Atm} (hN:own.length≤1000000000) (hf:Bz c=0) (hr:Ey c own=0):oQ c:=by
 obtain⟨z1,z2,z3⟩:=Rp hf
 have r1:Jy c own=0:=by
  by_cases h0:Jy c own=0
  ·exact h0
  ·rw[Ey,if_pos h0]at hr;exact absurd hr h0
 rw[Ey,if_neg (by simp[r1])]at hr
 have r2:Lk c own=0:=by
  by_cases h0:Lk c own=0
  ·exact h0
  ·rw[if_pos h0]at hr;exact absurd hr h0
 rw[if_neg (by simp[r2])]at hr
 have r3:IK c own=0:=by
  by_cases h0:IK c own=0
  ·exact h0
  ·rw[if_pos h0]at hr;exact absurd hr h0
 rw[if_neg (by simp[r3])]at hr
 have r4:Av (Nm c own) c.over=0:=by
  by_cases h0:Av (Nm c own) c.over=0
  ·exact h0
  ·rw[if_pos h0]at hr;exact absurd hr h0
 have hE:(c.kind=5∨c.kind=6)→ ∀ x∈ [c.after,c.before],Ry x.n:=fun h x hx=>by
  rw[IK,if_pos (by unfold IW;simpa using h)]at r3
  exact QG hN (Cc r3 x hx)
 refine⟨hf,?_,?_,?_,?_,fun x hx=>QG hN (Cc r4 x hx),fun h=>?_,fun h=>?_⟩
 ·by_cases h:2≤c.kind∧c.kind≤6
  ·rw[Jy,if_pos h]at r1;exact QG hN r1
  ·rw[z1 h];exact QV
 ·by_cases h:c.kind=2
  ·by_cases h2:c.parent=rRoot
   ·rw[h2];unfold Ry;exact⟨by decide,by decide⟩
   ·rw[Lk,if_pos ⟨h,h2⟩]at r2;exact QG hN r2
  ·rw[z2 h];exact QV
 ·by_cases h:c.kind=5∨c.kind=6
  ·exact hE h _ (by simp)
  ·rw[(z3 h).1];exact QV
 ·by_cases h:c.kind=5∨c.kind=6
  ·exact hE h _ (by simp)
  ·rw[(z3 h).2];exact QV
 ·unfold Ry
  unfold Bz at hf
  have: ¬(c.mode < 0∨511 < c.mode):=fun hm=>by
   rw[if_neg (by omega)]at hf
   split at hf
   ·omega
   ·rw[if_neg (by omega),if_neg (by omega),if_pos ⟨h,hm⟩]at hf;omega
  omega
 ·unfold Ry
  unfold Bz at hf
  have: ¬(c.type < 1∨4 < c.type):=fun hm=>by
   rw[if_neg (by omega)]at hf
   split at hf
   ·omega
   ·rw[if_pos ⟨h,hm⟩]at hf;omega
  omega
theorem Tz {p:Pat} (h:(Bo p).2=0):(∀ c∈p.changes,oQ c)∧Ry p.time:=by
 have e:J7 p=0:=by
  by_cases h0:J7 p=0
  ·exact h0
  ·rw[Ic,if_pos h0]at h;exact absurd h h0
 rw[Mm e]at h
 have ht: ¬(p.time < 0∨1099511627776 < p.time)∧ ¬400 < (p.changes.length:Int):=by
  unfold J7 at e
  split at e
  ·omega
  split at e
  ·omega
  split at e
  ·omega
  rename_i ht
  split at e
  ·rename_i hd;exact absurd e hd
  split at e
  ·omega
  split at e
  ·omega
  rename_i hc
  exact⟨ht,hc⟩
 refine⟨fun c hc=>?_,by unfold Ry;omega⟩
 obtain⟨hf,own,hN,hr⟩:=S4 1600400 h (by simp;omega) c hc
 exact oO (by omega) hf hr
theorem j9 {p q:Pat} (hp:VX p) (hq:VX q) (cp:(Bo p).2=0) (cq:(Bo q).2=0) (h:NS p=NS q):p=q:=by
 obtain⟨c1,t1⟩:=Tz cp
 obtain⟨c2,t2⟩:=Tz cq
 have h1:=(ZI 8 (r:= []) (s:= []) hp.ok.1 hq.ok.1 (by rw[BU,BU];exact h)).1
 have h1:=KI h1
 simp only[OG,and_true,true_and]at h1
 obtain⟨e1,e2,e3,e4,e5⟩:=h1
 replace e1:=HG e1
 replace e2:=HG e2
 replace e3:=Nj t1 t2 e3
 replace e4:=Kd (fun _ _ _ _ e=>Y5 e) (KI e4)
 replace e5:=Kd (fun x hx y hy e=>im (c1 x hx) (c2 y hy) e) (KI e5)
 obtain⟨a1,a2,a3,a4,a5⟩:=p
 obtain⟨b1,b2,b3,b4,b5⟩:=q
 simp only at e1 e2 e3 e4 e5
 subst e1 e2 e3 e4 e5;rfl
attribute [local irreducible] ER AQ BG Fu
section
variable {P:Program} {N:Nat} {all:Array Oper} {K:Env→List Res→Prop} {fl:List Bool} {os:List Oper} {ρ:Env} {L:List Res} {d:Nat} {ty:TypeId} {pos:String} {af:Array Edge}
theorem Nh {x:Operand} {cs:List PV} {off:Nat} (hx:ρ.ev x= .pt cs off) (k:AQ P N all K fl.tail os (CT ρ d (.pt cs off)) L) (hd:Nat.blt d N=true:=by rfl):AQ P N all K fl (⟨some d,.nilCheck x,ty,pos,af,none⟩::os) ρ L:=
 Bh hd (BC fun a w g ha hi=>by
  have h1:=ha x (by simp[Op.operands])
  rw[hx]at h1
  generalize hv:a.eval x=v at h1
  cases h1 with
  |pt ff hH hv'=>
   rename_i b o
   exact⟨.pointer (some ⟨b,o+off,none⟩),by simp[execOp,hv],.pt ff hH hv'⟩) k
end
instance wG (s:List Sto) (m:Nat):Km (XE s m) 0 [.slice (s.map eSto) .ro]:=⟨by simp[XE]⟩
instance wE (s:List Sto) (m:Nat):Km (XE s m) 1 [.raw (.map (some m))]:=⟨by simp[XE]⟩
def JZ (s:List Sto) (known:List (Dig × List Atm)):Prop:= ∀ d l,CU d known=some l→l=JY s d
theorem JZ.set {s:List Sto} {known:List (Dig × List Atm)} (h:JZ s known) (d:Dig):JZ s (DJ d (JY s d) known):=fun x l e=>by
 rw[HN]at e
 split at e
 ·rename_i hx;subst hx;injection e with e;exact e.symm
 ·exact h x l e
theorem kh (s:List Sto) (hg:HY s) (m:Nat) (known:List (Dig × List Atm)) (hk:JZ s known) (x:Ident):BG Tryz.prog 140 [.pt (XE s m) 0,.agg (eIdent x)] (Hb m known) (fun r L'=>r= .tuple [.agg (eAtm ((Iz s x).getD Atm.zero)),.raw (.bool (Iz s x).isSome)]∧ ∃ known',L'=Hb m known'∧JZ s known'):=by
 have i1:B4 (E5 ((getS s x.patch).getD Pat.zero)=false):=⟨hg.great _⟩
 refine CA Tryz.func140 rfl Tryz.ntmps140 (rs:= [.cell 4 125,.tmp 5]) rfl rfl fun hb LF=>?_
 rw[show Hb m known++LF= .map m (Bb kDig (KO eAtm) known)::LF from rfl]
 refine wf ?_
 refine CC fun b4=>?_
 refine wf ?_
 refine Nh rfl ?_
 refine wf ?_
 refine EP (.swap _ _ _) ?_
 refine Cp (σ:=List (Dig × List Atm)) (fun k=>JZ s k) (fun k=> [(3,.pt (eIdent x) 0),(4,.raw (.pointer (some ⟨b4,0,none⟩))),(6,.slice ((JY s x.patch).map eAtm) .ro)]) (fun k=> .map m (Bb kDig (KO eAtm) k):: .box b4 125 (eAtm Atm.zero)::LF) ?_ ?_
 ·refine AU (fun h=>?_) (fun h=>?_)
  ·refine wn ?_
   refine GN [10,11] (by decide+kernel) ?_
   refine B6 0 ?_
   refine B6 1 (hq:=fun _=>by refine Nh rfl ?_;refine AD ?_;exact⟨Cu _ _ _,rfl⟩) ?_
   refine B6 2 ?_
   refine B6 3 ?_
   refine B6 4 ?_
   refine B6 5 ?_
   refine B6 6 ?_
   refine B6 7 ?_
   refine B6 8 ?_
   refine B6 9 ?_
   refine Aa 2 10 ?_
   refine CC fun b8=>?_
   refine AD ?_
   refine Aa 1 11 ?_
   refine wo ?_
   refine AD ?_
   refine Aa 0 12 ?_
   refine wo ?_
   refine AD ?_
   refine Cn (by decide+kernel) ?_
   refine Ay 8 ?_
   refine wn ?_
   refine Bp 7 ?_ ?_
   ·decide+kernel
   refine wf ?_
   refine Nh rfl ?_
   refine wf ?_
   exact⟨DJ x.patch (JY s x.patch) known,hk.set _,⟨rfl,rfl,rfl⟩,.refl _⟩
  ·have h1:(CU x.patch known).isSome=true:=by simpa using h
   obtain⟨l,hl⟩:=Eb.1 h1
   have e:=hk _ _ hl
   subst e
   refine wf ?_
   refine⟨known,hk,⟨rfl,rfl,by rw[hl];rfl⟩,.refl _⟩
 intro k hkn
 refine EP (.swap _ _ _) ?_
 refine wf ?_
 refine BR [(53,.raw (.bool (decide (x.n < 0∨((JY s x.patch).length:Int)≤x.n)))),(3,.pt (eIdent x) 0),(4,.raw (.pointer (some ⟨b4,0,none⟩))),(6,.slice ((JY s x.patch).map eAtm) .ro)] (.box b4 125 (eAtm Atm.zero):: .map m (Bb kDig (KO eAtm) k)::LF) ?_ ?_
 ·repeat' (first|(refine A6 (fun h=>?_) (fun h=>?_)<;>refine wf ?_)|(refine AX (fun h=>?_) (fun h=>?_)<;>refine wf ?_)|(refine AU (fun h=>?_) (fun h=>?_)<;>refine wf ?_)|(refine Ar (fun h=>?_) (fun h=>?_)<;>(have h2:=h;(try simp only[AB,A8,AG,AL]at h2);refine wf ?_)))
  all_goals (refine⟨⟨C4 (by rfl) ?_,rfl,rfl,rfl⟩,.refl _⟩;first|(simp_all;done)|grind)
 refine wf ?_
 refine A6 (fun h=>?_) (fun h=>?_)
 ·refine wf ?_
  refine⟨trivial,_,Hb m k,.cons (.cell 4 125 rfl AF (inferInstance:FE Tryz.prog 125 172).out (by simp)) (.cons (.tmp 5) .nil),.cons _ (.refl _),?_,k,rfl,hkn⟩
  rw[Iz,if_pos h];rfl
 ·have hlt:x.n.toNat < (JY s x.patch).length:=by omega
  refine wf ?_
  refine⟨trivial,_,Hb m k,.cons (.cell 4 125 rfl AF (inferInstance:FE Tryz.prog 125 172).out (by simp)) (.cons (.tmp 5) .nil),.cons _ (.refl _),?_,k,rfl,hkn⟩
  rw[Iz,if_neg h,AW hlt];rfl
theorem dy (id:Dig) (c:Chg):(Ja id c).length≤c.over.length+4:=by
 have r1:=cA c
 have r2:=c9 c (XW c)
 have r3:=c8 (DK id c) c (aA c (XW c))
 have r4:=Kg (Mq (DK id c) c) c.over (fu (DK id c) c (aA c (XW c)))
 unfold Ja rl
 omega
theorem db (s:List Sto) (hg:HY s) (m:Nat) (known:List (Dig × List Atm)) (hk0:JZ s known) (x:Sto) (hx:E5 x.patch=false):BG Tryz.prog 76 [.pt (XE s m) 0,.agg (eSto x)] (Hb m known) (fun r L'=>r= .raw (.int .i64 (Qt s x.patch x.id))∧ ∃ known',L'=Hb m known'∧JZ s known'):=by
 have hgf:=(Eh hx).2.2.2.2
 have hcl:=(Eh hx).2.2.2.1
 refine CA Tryz.func76 rfl Tryz.ntmps76 (rs:= [.tmp 4]) rfl rfl fun hb LF=>?_
 rw[show Hb m known++LF= .map m (Bb kDig (KO eAtm) known)::LF from rfl]
 refine wf ?_
 refine Ab (σ:=Nat × List (Dig × List Atm)) (fun k=>k.1≤x.patch.changes.length∧JZ s k.2∧ ∀ i (h:i < x.patch.changes.length),i < k.1→O6 s x.id x.patch.changes[i]=0) (fun k=>x.patch.changes.length - k.1) (fun k=> [(0,.pt (XE s m) 0),(3,.pt (eSto x) 0),(13,.slice (x.patch.changes.map eChg) .ro),(14,.raw (.int .i64 x.patch.changes.length)),(15,.raw (.int .i64 k.1))]) (fun k=> .map m (Bb kDig (KO eAtm) k.2)::LF) (0,known) ⟨by simp,hk0,by simp⟩ ⟨rfl,rfl,rfl,rfl,rfl⟩ (.refl _) ?_
 rintro⟨k,kn⟩ ⟨hk,hkn,he⟩
 dsimp only at hk hkn he ⊢
 refine wf ?_
 refine A6 (fun hc=>?_) (fun hc=>?_)
 ·have hlt:k < x.patch.changes.length:=by omega
  have hat:=DQ (f:=O6 s x.id) hlt he
  have hsu:=fun h=>EC (f:=O6 s x.id) he hlt h
  have hcg:=hgf _ (AJ hlt)
  refine wz fun b6=>?_
  generalize x.patch.changes[k]=c at hat hsu hcg ⊢
  have i1:B4 (c.over.length≤400):=⟨by have:=hcg.over;omega⟩
  have hrl:(Ja x.id c).length≤400:=by have:=dy x.id c;have:=hcg.over;omega
  refine Ay 6 ?_
  refine wf ?_
  refine Ab (σ:=Nat × List (Dig × List Atm)) (fun j=>j.1≤(Ja x.id c).length∧JZ s j.2∧ ∀ i (h:i < (Ja x.id c).length),i < j.1→HS s c (DK x.id c) (Ja x.id c)[i]=0) (fun j=>(Ja x.id c).length - j.1) (fun j=> [(0,.pt (XE s m) 0),(3,.pt (eSto x) 0),(13,.slice (x.patch.changes.map eChg) .ro),(14,.raw (.int .i64 x.patch.changes.length)),(15,.raw (.int .i64 k)),(22,.slice ((Ja x.id c).map eRfc) .ro),(23,.raw (.int .i64 (Ja x.id c).length)),(24,.raw (.int .i64 j.1))]) (fun j=> .map m (Bb kDig (KO eAtm) j.2)::LF) (0,kn) ⟨by simp,hkn,by simp⟩ ⟨rfl,rfl,rfl,rfl,rfl,rfl,rfl,rfl⟩ (.refl _) ?_
  rintro⟨j,kn2⟩ ⟨hj,hkn2,hje⟩
  dsimp only at hj hkn2 hje ⊢
  refine wf ?_
  refine A6 (fun hc2=>?_) (fun hc2=>?_)
  ·have hlt2:j < (Ja x.id c).length:=by omega
   have hat2:=DQ (f:=HS s c (DK x.id c)) hlt2 hje
   have hsu2:=fun h=>EC (f:=HS s c (DK x.id c)) hje hlt2 h
   have hfit:=fL x.id c _ (AJ hlt2)
   refine wz fun b8=>?_
   generalize (Ja x.id c)[j]=r at hat2 hsu2 hfit ⊢
   refine Ay 8 ?_
   have i2:B5 Tryz.prog r.f:=hfit.fn
   have i3: ∀ a:Atm,C9 Tryz.prog r.f (.agg (eAtm a)::r.cs) (.raw (.bool (P7 c (DK x.id c) r a))):=fun a=>⟨hfit.out a⟩
   have er:HS s c (DK x.id c) r=if(Iz s r.id).isSome=false then 7 else if P7 c (DK x.id c) r ((Iz s r.id).getD Atm.zero)=false then 8 else 0:=rfl
   refine wf ?_
   refine CV (xs:= [.tmp 29,.tmp 31]) (Hb m kn2) LF (f:=140) (cs:= []) (C5 _) rfl rfl (.refl _) _ (kh s hg m kn2 hkn2 r.id) fun u L' ⟨e1,kn3,e2,hkn3⟩=>?_
   subst e1;rw[e2]
   rw[show Hb m kn3++LF= .map m (Bb kDig (KO eAtm) kn3)::LF from rfl]
   refine wf ?_
   refine CC fun b9=>?_
   refine wo ?_
   refine AD ?_
   refine Ay 9 ?_
   refine wf ?_
   refine AU (fun h=>?_) (fun h=>?_)
   ·refine wf ?_
    have h:(Iz s r.id).isSome=false:=Lx h
    rw[if_pos h]at er
    refine⟨trivial,_,Hb m kn3,.cons (.tmp 4) .nil,.refl _,?_,kn3,rfl,hkn3⟩
    have e3:=hat2 (by rw[er];decide)
    have e4:O6 s x.id c=7:=by rw[O6,e3,er]
    rw[Qt,hat (by rw[e4];decide),e4];rfl
   have h:(Iz s r.id).isSome=true:=sP h
   rw[if_neg (by simp[h])]at er
   refine wf ?_
   refine AU (fun h2=>?_) (fun h2=>?_)
   ·refine wf ?_
    have h2:P7 c (DK x.id c) r ((Iz s r.id).getD Atm.zero)=false:=Lx h2
    rw[if_pos h2]at er
    refine⟨trivial,_,Hb m kn3,.cons (.tmp 4) .nil,.refl _,?_,kn3,rfl,hkn3⟩
    have e3:=hat2 (by rw[er];decide)
    have e4:O6 s x.id c=8:=by rw[O6,e3,er]
    rw[Qt,hat (by rw[e4];decide),e4];rfl
   ·have h2:P7 c (DK x.id c) r ((Iz s r.id).getD Atm.zero)=true:=sP h2
    rw[if_neg (by simp[h2])]at er
    refine wf ?_
    exact⟨(j+1,kn3),⟨by dsimp only;omega,hkn3,hsu2 er⟩,by dsimp only;omega,⟨rfl,rfl,rfl,rfl,rfl,rfl,rfl,rfl⟩,.refl _⟩
  ·have e0:O6 s x.id c=0:=Db fun i h=>hje i h (by omega)
   refine wf ?_
   exact⟨(k+1,kn2),⟨by dsimp only;omega,hkn2,hsu e0⟩,by dsimp only;omega,⟨rfl,rfl,rfl,rfl,rfl⟩,.refl _⟩
 ·refine wf ?_
  refine⟨trivial,_,Hb m kn,.cons (.tmp 4) .nil,.refl _,?_,kn,rfl,hkn⟩
  rw[Qt,Db fun i h=>he i h (by omega)];rfl
attribute [local irreducible] H0
theorem IM {p:Pat} (h:(EW p).2=0):(Bo p).2=0∧(CD p).1=NS p:=by
 have h1: ¬(CD p).2≠0:=fun h'=>by rw[EW,if_pos h']at h;exact h' h
 unfold CD at h1 ⊢
 by_cases h2:(Bo p).2≠0
 ·rw[if_pos h2]at h1;exact absurd h2 h1
 rw[if_neg h2]at h1 ⊢
 refine⟨CY.1 h2,?_⟩
 unfold IB at h1 ⊢
 by_cases h3:65536 < ((NS p).length:Int)
 ·rw[if_pos h3]at h1;exact absurd (by decide) h1
 ·rw[if_neg h3]
theorem fT {p q:Pat} (gp:E5 p=false) (gq:E5 q=false) (hp:(EW p).2=0) (hq:(EW q).2=0):decide ((CD q).1=(CD p).1)=decide (p=q):=by
 obtain⟨c1,e1⟩:=IM hp
 obtain⟨c2,e2⟩:=IM hq
 rw[e1,e2,decide_eq_decide]
 exact⟨fun h=>j9 (O3 gp) (O3 gq) c1 c2 h.symm,fun h=>by rw[h]⟩
instance uM (a b:Pat) [ha:B4 (E5 a=false)] [hb:B4 (E5 b=false)]:C9 Tryz.prog 93 [.agg (Ba a),.agg (Ba b)] (.raw (.bool (decide ((CD a).1=(CD b).1)))):=⟨by
 refine Au Tryz.func93 Tryz.ntmps93 rfl (rs:= [.tmp 4]) rfl rfl fun hb LF=>?_
 refine wf ?_
 exact Az (.refl _)⟩
theorem YJ (s:List Sto) (x:Sto):KY s x=s.take (Jg s x.id)++x::s.drop (Jg s x.id):=by
 have e:(fun(y:Sto)=>!decide (Ea y.id x.id < 0))=fun y=>decide (0≤Ea y.id x.id):=by
  funext y
  by_cases h:Ea y.id x.id < 0
  ·rw[BK h,Ck (by omega)];rfl
  ·rw[Ck h,BK (by omega)];rfl
 unfold KY Jg
 rw[List.takeWhile_eq_take_findIdx_not,List.dropWhile_eq_drop_findIdx_not,e]
theorem nF (s:List Sto) (d:Dig):Jg s d≤s.length:=ym
theorem nG {s:List Sto} (ha:Gm (ids s)) {d:Dig} (h:d∈ids s): ∃ hlt:Jg s d < s.length,s[Jg s d].id=d∧getS s d=some s[Jg s d].patch:=by
 obtain⟨x,hx,rfl⟩:=AO.1 h
 obtain⟨i,hi,rfl⟩:=Ad.1 hx
 have e:Jg s s[i].id=i:=WJ (Nat.le_of_lt hi) (fun k hk hki=>by
  have:=B7.1 ha k i (by simpa [ids]using hk) (by simpa [ids]using hi) hki
  simp only[ids,BQ]at this
  exact this) (fun k hk hik=>by
  rcases BP i k with h'|h'
  ·have:=B7.1 ha i k (by simpa [ids]using hi) (by simpa [ids]using hk) h'
   simp only[ids,BQ]at this
   rcases U6 (Ea s[k].id s[i].id) 0 with h2|h2
   ·exact absurd h2 (Dig.lt_asymm this)
   ·exact h2
  ·have e2:k=i:=by omega
   subst e2
   rcases U6 (Ea s[k].id s[k].id) 0 with h2|h2
   ·exact absurd h2 (Dig.lt_irrefl _)
   ·exact h2)
 refine⟨by rw[e];exact hi,?_⟩
 simp only[e]
 exact⟨trivial,QZ ha hx⟩
def Pa (s:List Sto) (p:Pat):Int:=if(getS s (EW p).1).isSome=true then(if p=(getS s (EW p).1).getD Pat.zero then 6 else 14)else if DM (ids s) (Ax p)=false then 19 else GF s p (EW p).1
theorem jB {s:List Sto} {p:Pat} (h0:(EW p).2=0) (hl:s.length < 400):FJ s p=if Pa s p≠0 then([],Dig.zero,Pa s p)else(KY s ⟨(EW p).1,p⟩,(EW p).1,0):=by
 unfold FJ Pa
 rw[if_neg (by simp[h0])]
 by_cases h1:(getS s (EW p).1).isSome=true
 ·rw[if_pos h1,if_pos h1]
  by_cases h2:p=(getS s (EW p).1).getD Pat.zero
  ·rw[if_pos h2,if_pos h2];rfl
  ·rw[if_neg h2,if_neg h2];rfl
 rw[if_neg h1,if_neg h1]
 by_cases h3:DM (ids s) (Ax p)=false
 ·rw[if_pos h3,if_pos h3];rfl
 rw[if_neg h3,if_neg h3]
 by_cases h4:GF s p (EW p).1≠0
 ·rw[if_pos h4,if_pos h4]
 ·rw[if_neg h4,if_neg h4,if_neg (by omega)]
theorem cF {a b:Res} {R LF:List Res}:(R++a::b::LF).Perm (b::a::(R++LF)):=(Bg.trans (.cons a Bg)).trans (.swap _ _ _)
theorem cD {a b:Res} {R LF:List Res}:(b::a::(R++LF)).Perm (R++(b::a::LF)):=(Bg.trans (.cons b Bg)).symm
instance XN (s:List Sto) (p:Pat) (t:CN) [hs:B4 (Bc s)] [hg:B4 (E5 p=false)]:C9 Tryz.prog 35 [.slice (s.map eSto) t,.agg (Ba p)] (.tuple [.slice ((FJ s p).1.map eSto) .ro,.agg (eDig (FJ s p).2.1),.raw (.int .i64 (FJ s p).2.2)]):=⟨by
 have v:=hs.out
 have hgd:=v.close.1
 have hlen:=hgd.1
 have hgp:=hg.out
 have i2:=fun t=>Sd s t (EW p).1 v.asc (by omega)
 have i3:=fun t=>jo s t p v.asc (by omega) hgp
 have hpl:=nF s (EW p).1
 refine Au Tryz.func35 Tryz.ntmps35 rfl (rs:= [.tmp 4,.cell 5 31,.tmp 6]) rfl rfl fun hb LF=>?_
 refine wf ?_
 refine CC fun b5=>?_
 refine wf ?_
 refine CC fun b7=>?_
 refine wo ?_
 refine AD ?_
 refine Ay 7 ?_
 refine wf ?_
 refine AX (fun h1=>?_) (fun h1=>?_)
 ·refine wf ?_
  refine O1 rfl ?_
  rw[FJ,if_pos h1]
  exact .tuple3 (.ro _ _) (.refl _) (.refl _)
 rw[jB h1 (by omega)]
 refine wf ?_
 refine BR [(32,.raw (.bool (decide ((EW p).1∈ids s∧ ¬p=(getS s (EW p).1).getD Pat.zero)))),(0,.slice (s.map eSto) t),(3,.pt (Ba p) 0),(5,.raw (.pointer (some ⟨b5,0,none⟩))),(7,.pt (eDig (EW p).1) 0),(9,.raw (.int .i64 (Jg s (EW p).1:Nat))),(10,.raw (.bool (decide ((EW p).1∈ids s))))] (.box b5 31 (eDig Dig.zero)::LF) ?_ ?_
 ·refine Ar (fun hp=>?_) (fun hp=>?_)
  ·have hd:=BF hp
   obtain⟨hlt,hid,hget⟩:=nG v.asc hd
   have hq0:s[Jg s (EW p).1]∈s:=AJ hlt
   have i4:B4 (E5 s[Jg s (EW p).1].patch=false):=⟨hgd.2 _ hq0⟩
   have heq:=fT hgp (hgd.2 _ hq0) h1 (v.id _ hq0).1
   refine wf ?_
   refine⟨⟨C4 (by rfl) ?_,rfl,rfl,rfl,rfl,rfl,rfl⟩,.refl _⟩
   rw[heq,hget,Br]
   generalize s[Jg s (EW p).1].patch=q
   by_cases h2:p=q
   ·rw[BK h2,Ck (fun h=>h.2 h2)];rfl
   ·rw[Ck h2,BK ⟨hd,h2⟩];rfl
  ·have hd:=Bm hp
   refine wf ?_
   refine⟨⟨C4 (by rfl) ?_,rfl,rfl,rfl,rfl,rfl,rfl⟩,.refl _⟩
   simp[hd]
 have hsome:=Rz v.asc (EW p).1
 refine wf ?_
 refine Cp (σ:=Unit) (fun _=>True) (fun _=> [(0,.slice (s.map eSto) t),(3,.pt (Ba p) 0),(5,.raw (.pointer (some ⟨b5,0,none⟩))),(7,.pt (eDig (EW p).1) 0),(8,.raw (.int .i64 (Pa s p))),(9,.raw (.int .i64 (Jg s (EW p).1:Nat)))]) (fun _=> .box b5 31 (eDig Dig.zero)::LF) ?_ ?_
 ·refine A6 (fun h=>?_) (fun h=>?_)
  ·have eA:Pa s p=14:=by
    unfold Pa;rw[hsome,if_pos (BK h.1),if_neg h.2]
   refine wf ?_
   exact⟨(),trivial,⟨rfl,rfl,rfl,rfl,by rw[eA];rfl,rfl⟩,.refl _⟩
  refine wf ?_
  refine A6 (fun h2=>?_) (fun h2=>?_)
  ·have eA:Pa s p=6:=by
    unfold Pa;rw[hsome,if_pos (BK h2),if_pos (DW fun h3=>h ⟨h2,h3⟩)]
   refine wf ?_
   exact⟨(),trivial,⟨rfl,rfl,rfl,rfl,by rw[eA];rfl,rfl⟩,.refl _⟩
  have hns: ¬(getS s (EW p).1).isSome=true:=by rw[hsome];simpa using h2
  refine wf ?_
  refine AU (fun h3=>?_) (fun h3=>?_)
  ·have eA:Pa s p=19:=by
    unfold Pa;rw[if_neg hns,if_pos (Lx h3)]
   refine wf ?_
   exact⟨(),trivial,⟨rfl,rfl,rfl,rfl,by rw[eA];rfl,rfl⟩,.refl _⟩
  have eA:Pa s p=GF s p (EW p).1:=by
   unfold Pa;rw[if_neg hns,if_neg (Ir h3)]
  refine wn ?_
  refine GN [1,5] (by decide+kernel) ?_
  refine B6 0 ?_
  refine B6 2 ?_
  refine B6 3 ?_
  refine B6 4 ?_
  refine Aa 2 1 ?_
  refine CV (xs:= [.tmp 26]) [] (.box b5 31 (eDig Dig.zero)::LF) (f:=75) (cs:= []) (C5 _) rfl rfl (.refl _) _ (TP s t) fun r L' ⟨m,e1,e2⟩=>?_
  subst e1;rw[e2]
  refine AD ?_
  refine Aa 1 5 ?_
  refine CV (xs:= [.tmp 27,.tmp 30]) (Hb m []) (.box b5 31 (eDig Dig.zero)::LF) (f:=76) (cs:= []) (C5 _) rfl rfl (.refl _) _ (db s hgd m [] (fun d l h=>by simp[CU]at h) ⟨(EW p).1,p⟩ hgp) fun u L' ⟨e1,kn3,e2,hkn3⟩=>?_
  subst e1;rw[e2]
  refine AD ?_
  refine Aa 0 6 ?_
  refine wo ?_
  refine AD ?_
  refine Cn (by decide+kernel) ?_
  rw[show Qt s (⟨(EW p).1,p⟩:Sto).patch (⟨(EW p).1,p⟩:Sto).id=Pa s p from(gQ s (EW p).1 h1).trans eA.symm]
  exact⟨(),trivial,⟨rfl,rfl,rfl,rfl,rfl,rfl⟩,.cons _ (.refl _)⟩
 intro _ _
 refine wf ?_
 refine BR [(56,.raw (.bool (decide (Pa s p=0∧400≤(s.length:Int))))),(0,.slice (s.map eSto) t),(3,.pt (Ba p) 0),(5,.raw (.pointer (some ⟨b5,0,none⟩))),(7,.pt (eDig (EW p).1) 0),(8,.raw (.int .i64 (Pa s p))),(9,.raw (.int .i64 (Jg s (EW p).1:Nat)))] (.box b5 31 (eDig Dig.zero)::LF) ?_ ?_
 ·repeat' (first|(refine A6 (fun h=>?_) (fun h=>?_)<;>refine wf ?_)|(refine AX (fun h=>?_) (fun h=>?_)<;>refine wf ?_)|(refine AU (fun h=>?_) (fun h=>?_)<;>refine wf ?_)|(refine Ar (fun h=>?_) (fun h=>?_)<;>(have h2:=h;(try simp only[AB,A8,AG,AL]at h2);refine wf ?_)))
  all_goals (refine⟨⟨C4 (by rfl) ?_,rfl,rfl,rfl,rfl,rfl,rfl⟩,.refl _⟩;first|(simp_all;done)|grind)
 refine wf ?_
 refine A6 (fun h=>?_) (fun _=>?_)
 ·omega
 refine wf ?_
 refine AX (fun h=>?_) (fun h=>?_)
 ·refine wf ?_
  refine O1 rfl ?_
  rw[if_pos h]
  exact .tuple3 (.ro _ _) (.refl _) (.refl _)
 rw[if_neg (fun h'=>h' h)]
 refine wn ?_
 refine GN [1,6,7,10] (by decide+kernel) ?_
 refine B6 0 ?_
 refine B6 2 ?_
 refine B6 3 ?_
 refine B6 4 ?_
 refine B6 5 ?_
 refine B6 8 ?_
 refine Cw (fuel:=5) [1,6] (by decide+kernel) (by simp) fun i hi=>?_
 simp only[AH,Ah,or_false]at hi
 rcases hi with rfl|rfl
 ·refine⟨_,rfl,?_⟩
  refine CV (xs:= [.tmp 61]) [] (.box b5 31 (eDig Dig.zero)::LF) (f:=95) (cs:= []) (C5 _) rfl rfl (.refl _) _ (Rf s t (by omega)) fun r R0 ⟨v0,e1,hv0⟩=>?_
  subst e1
  refine AD ?_
  refine Aa 4 6 ?_
  refine Ui (cs:=eSto (⟨(EW p).1,p⟩:Sto)) (.agg _) (by simp) (by decide) fun b=>?_
  refine AD ?_
  refine Aa 3 7 ?_
  refine CV (xs:= [.tmp 62,.tmp 63,.tmp 67]) (R0++ [Res.box b 59 (eSto (⟨(EW p).1,p⟩:Sto))]) (.box b5 31 (eDig Dig.zero)::LF) (f:=94) (cs:= []) (C5 _) rfl rfl (by rw[AV];exact Bg.symm) _ (Td v0 s R0 hv0 (Jg s (EW p).1) hpl (by omega) b (⟨(EW p).1,p⟩:Sto)) fun r L' ⟨v2,R2,e1,hv2,e2⟩=>?_
  subst e1;rw[e2]
  refine AD ?_
  refine Aa 2 9 ?_
  refine wo ?_
  refine AD ?_
  refine Aa 1 10 ?_
  refine Uy (L':= .box b5 31 (eDig Dig.zero):: .box b 59 (eSto (⟨(EW p).1,p⟩:Sto))::(R2++LF)) (by rw[AV];exact cF) rfl ?_ (fun h=>h)
  refine wo ?_
  refine AD ?_
  refine Aa 0 11 ?_
  refine wo ?_
  refine AD ?_
  refine Cn (by decide+kernel) ?_
  have hxl:((s.take (Jg s (EW p).1)++(⟨(EW p).1,p⟩:Sto)::s.drop (Jg s (EW p).1)).map eSto).length≤201:=by
   simp only[AR,AA,AZ,AN,BB];omega
  refine Je 4 hv2 ⟨by unfold maxN;omega,by unfold maxN;omega⟩ cD rfl ?_
  refine wf ?_
  refine O1 rfl ?_
  rw[YJ]
  exact .refl _
 ·refine⟨_,rfl,?_⟩
  refine Ui (cs:=eSto (⟨(EW p).1,p⟩:Sto)) (.agg _) (by simp) (by decide) fun b=>?_
  refine AD ?_
  refine Aa 4 1 ?_
  refine CV (xs:= [.tmp 61]) [] (.box b 59 (eSto (⟨(EW p).1,p⟩:Sto)):: .box b5 31 (eDig Dig.zero)::LF) (f:=95) (cs:= []) (C5 _) rfl rfl (.refl _) _ (Rf s t (by omega)) fun r R0 ⟨v0,e1,hv0⟩=>?_
  subst e1
  refine AD ?_
  refine Aa 3 7 ?_
  refine CV (xs:= [.tmp 62,.tmp 63,.tmp 67]) (R0++ [Res.box b 59 (eSto (⟨(EW p).1,p⟩:Sto))]) (.box b5 31 (eDig Dig.zero)::LF) (f:=94) (cs:= []) (C5 _) rfl rfl (by rw[AV];exact .refl _) _ (Td v0 s R0 hv0 (Jg s (EW p).1) hpl (by omega) b (⟨(EW p).1,p⟩:Sto)) fun r L' ⟨v2,R2,e1,hv2,e2⟩=>?_
  subst e1;rw[e2]
  refine AD ?_
  refine Aa 2 9 ?_
  refine wo ?_
  refine AD ?_
  refine Aa 1 10 ?_
  refine Uy (L':= .box b5 31 (eDig Dig.zero):: .box b 59 (eSto (⟨(EW p).1,p⟩:Sto))::(R2++LF)) (by rw[AV];exact cF) rfl ?_ (fun h=>h)
  refine wo ?_
  refine AD ?_
  refine Aa 0 11 ?_
  refine wo ?_
  refine AD ?_
  refine Cn (by decide+kernel) ?_
  have hxl:((s.take (Jg s (EW p).1)++(⟨(EW p).1,p⟩:Sto)::s.drop (Jg s (EW p).1)).map eSto).length≤201:=by
   simp only[AR,AA,AZ,AN,BB];omega
  refine Je 4 hv2 ⟨by unfold maxN;omega,by unfold maxN;omega⟩ cD rfl ?_
  refine wf ?_
  refine O1 rfl ?_
  rw[YJ]
  exact .refl _⟩
end Go.Proofs
namespace Go.Proofs
open Go Go.Q
def N5 (p:Pat):Nat:=(Bo p).1.length
def PB (n:Nat) (x:Ident):Prop:=0≤x.n∧(x.patch=Dig.zero→x.n < n)
structure OC (c:Chg) (G:Ident→Prop):Prop where
 file:2≤c.kind→c.kind≤6→G c.file
 parent:c.kind=2→c.parent≠rRoot→G c.parent
 after:c.kind=5∨c.kind=6→G c.after
 before:c.kind=5∨c.kind=6→G c.before
 over: ∀ y∈c.over,G y
theorem OC.mono {c:Chg} {G H:Ident→Prop} (h:OC c G) (k: ∀ x,G x→H x):OC c H:=
 ⟨fun a b=>k _ (h.file a b),fun a b=>k _ (h.parent a b),fun a=>k _ (h.after a),fun a=>k _ (h.before a),fun y hy=>k _ (h.over y hy)⟩
theorem OC.and {c:Chg} {G H:Ident→Prop} (h:OC c G) (k:OC c H):OC c fun x=>G x∧H x:=
 ⟨fun a b=>⟨h.file a b,k.file a b⟩,fun a b=>⟨h.parent a b,k.parent a b⟩,fun a=>⟨h.after a,k.after a⟩,fun a=>⟨h.before a,k.before a⟩,fun y hy=>⟨h.over y hy,k.over y hy⟩⟩
theorem Nn {x:Ident} {own:List Atm} {f:Bool} (h:J4 x own f=0):PB own.length x:=by
 unfold J4 at h
 split at h
 ·omega
 rename_i h1
 have h1:Dj x own.length=true:=by simpa using h1
 unfold Dj at h1
 split at h1
 ·rename_i hp
  simp only[BJ,AB]at h1
  exact⟨h1.1,fun _=>h1.2⟩
 ·rename_i hp
  simp only[BJ,AB]at h1
  exact⟨h1.1,fun e=>absurd e hp⟩
theorem Su {c:Chg} {own:List Atm} (h:Ey c own=0):OC c (PB own.length):=by
 unfold Ey at h
 split at h
 ·rename_i h0;exact absurd h h0
 rename_i hF
 split at h
 ·rename_i h0;exact absurd h h0
 rename_i hP
 split at h
 ·rename_i h0;exact absurd h h0
 rename_i hE
 split at h
 ·rename_i h0;exact absurd h h0
 rename_i hO
 have hF:=CY.1 hF
 have hP:=CY.1 hP
 have hE:=CY.1 hE
 have hO:=Cc (CY.1 hO)
 unfold Jy at hF
 unfold Lk at hP
 unfold IK at hE
 refine⟨fun a b=>?_,fun a b=>?_,fun a=>?_,fun a=>?_,fun y hy=>Nn (hO y hy)⟩
 ·rw[if_pos ⟨a,b⟩]at hF;exact Nn hF
 ·rw[if_pos ⟨a,b⟩]at hP;exact Nn hP
 ·rw[if_pos (by unfold IW;rcases a with a|a<;>simp[a])]at hE
  exact Nn (Cc hE _ (by simp))
 ·rw[if_pos (by unfold IW;rcases a with a|a<;>simp[a])]at hE
  exact Nn (Cc hE _ (by simp))
def YY (l:List Chg) (i:Nat):List Atm:=(l.take i).foldl (fun own c=>own++DZ c own.length) []
theorem Rq: ∀ {l:List Chg} {own A:List Atm},Cv l own=(A,0)→A=l.foldl (fun own c=>own++DZ c own.length) own∧
  ∀ i (h:i < l.length),Bz l[i]=0∧Ey l[i] ((l.take i).foldl (fun own c=>own++DZ c own.length) own)=0
 | [],own,A,h=>by
   simp only[Cv,Prod.mk.injEq]at h
   exact⟨h.1.symm,fun i hi=>absurd hi (Dv _)⟩
 |c::l,own,A,h=>by
  unfold Cv at h
  split at h
  ·rename_i h0;exact absurd (congrArg Prod.snd h) h0
  rename_i h1
  split at h
  ·rename_i h0;exact absurd (congrArg Prod.snd h) h0
  rename_i h2
  obtain⟨k1,k2⟩:=Rq h
  refine⟨k1,fun i hi=>?_⟩
  cases i with
  |zero=>exact⟨CY.1 h1,CY.1 h2⟩
  |succ i=>exact k2 i (by simpa using hi)
theorem YX: ∀ (l:List Chg) (own:List Atm),own.length≤(l.foldl (fun own c=>own++DZ c own.length) own).length
 | [],_=>Ak _
 |c::l,own=>CX (by rw[AA];omega) (YX l (own++DZ c own.length))
structure Vs (p:Pat):Prop where
 made:(Bo p).1=p.changes.foldl (fun own c=>own++DZ c own.length) []
 fields: ∀ i (h:i < p.changes.length),Bz p.changes[i]=0
 refs: ∀ i (h:i < p.changes.length),Ey p.changes[i] (YY p.changes i)=0
theorem Gl {p:Pat} (h:(Bo p).2=0):Vs p:=by
 unfold Bo at h
 have:Cv p.changes []=((Bo p).1,0):=by
  unfold Bo
  split at h
  ·simp at h
  rename_i h1
  rw[if_neg h1]
  split at h
  ·simp at h
  rename_i h1
  rw[if_neg h1]
  split at h
  ·simp at h
  rename_i h1
  rw[if_neg h1]
  split at h
  ·rename_i h1;exact absurd h h1
  rename_i h1
  rw[if_neg h1]
  split at h
  ·simp at h
  rename_i h1
  rw[if_neg h1]
  split at h
  ·simp at h
  rename_i h1
  rw[if_neg h1]
  exact Prod.ext rfl h
 obtain⟨h1,h2⟩:=Rq this
 exact⟨h1,fun i hi=>(h2 i hi).1,fun i hi=>(h2 i hi).2⟩
theorem jQ {p:Pat} (h:Vs p) (i:Nat):(YY p.changes i).length≤N5 p:=by
 unfold N5 YY
 rw[h.made]
 have e:p.changes=p.changes.take i++p.changes.drop i:=(C7 i _).symm
 conv=>rhs;rw[e,CH]
 exact YX _ _
theorem Vs.uses {p:Pat} (h:Vs p) {c:Chg} (hc:c∈p.changes):OC c (PB (N5 p)):=by
 obtain⟨i,hi,rfl⟩:=Ad.1 hc
 exact(Su (h.refs i hi)).mono fun x hx=>⟨hx.1,fun e=>by have:=hx.2 e;have:=jQ h i;omega⟩
def Jt (s:List Sto) (x:Ident):Prop:=x.patch≠Dig.zero→ ∃ z∈s,z.id=x.patch∧0≤x.n∧x.n < N5 z.patch
theorem Jb {o:Option Atm} {f:Atm→Bool} (h:EG o f=0):o.isSome=true:=by
 unfold EG at h
 split at h
 ·omega
 ·rename_i h1
  cases ho:o.isSome with
  |true=>rfl
  |false=>exact absurd ho h1
theorem Mn {s:List Sto} (v:Bc s) {x:Ident} (h:(HT s x).isSome=true):Jt s x:=fun hz=>by
 unfold HT at h
 split at h
 ·simp at h
 rename_i h1
 unfold Ht at h1 h
 cases hg:getS s x.patch with
 |none=>
  rw[hg]at h1
  exfalso
  apply h1
  right
  have:(Iq Pat.zero).1= []:=by unfold Iq;rw[if_pos (by decide+kernel)]
  rw[NG,this]
  simp only[Af]
  omega
 |some p=>
  rw[hg,Br]at h1
  obtain⟨z,hz,e1,e2⟩:=Ke hg
  refine⟨z,hz,e1,by omega,?_⟩
  subst e2
  have:(Iq z.patch).1.length=N5 z.patch:=by
   unfold Iq N5
   rw[if_neg (by simp[(v.id z hz).1])]
   simp
  omega
theorem YB {s:List Sto} (v:Bc s) {x f:Ident} {d:Dig} (h:GL s x f d=0) (hf:Jt s f):Jt s x:=fun hz=>by
 unfold GL at h
 split at h
 ·rename_i h1
  rcases h1 with h1|h1
  ·unfold EH at h1;simp at h1;exact absurd h1 hz
  ·subst h1;exact hf hz
 ·exact Mn v (Jb h) hz
theorem aL {s:List Sto} (v:Bc s) {c:Chg} {d:Dig} (h:KU s c d=0):OC c (Jt s):=by
 unfold KU at h
 split at h
 ·rename_i h0;exact absurd h h0
 rename_i hF
 split at h
 ·rename_i h0;exact absurd h h0
 rename_i hP
 split at h
 ·rename_i h0;exact absurd h h0
 rename_i hA
 split at h
 ·rename_i h0;exact absurd h h0
 rename_i hB
 have hF:=CY.1 hF
 have hP:=CY.1 hP
 have hA:=CY.1 hA
 have hB:=CY.1 hB
 have hO:=Cc h
 have xF:Jt s c.file:=fun hz=>by
  unfold Jd at hF
  rw[if_pos (by unfold EH;simp[hz])]at hF
  exact Mn v (Jb hF) hz
 refine⟨fun _ _=>xF,fun _ _ hz=>?_,fun _=>YB v hA xF,fun _=>YB v hB xF,fun y hy hz=>?_⟩
 ·unfold Lu at hP
  rw[if_pos (by unfold EH;simp[hz])]at hP
  exact Mn v (Jb hP) hz
 ·have:=hO y hy
  unfold Ky at this
  rw[if_neg (by unfold EH;simp[hz])]at this
  exact Mn v (Jb this) hz
theorem Bc.uses {s:List Sto} (v:Bc s) {x:Sto} (hx:x∈s) {c:Chg} (hc:c∈x.patch.changes):OC c fun y=>PB (N5 x.patch) y∧Jt s y:=by
 have hp:=Gl (IM (v.id x hx).1).1
 refine(hp.uses hc).and (aL v (d:=x.id) ?_)
 exact Cc (v.refs x hx) c hc
end Go.Proofs
namespace Go.Q
open Go
structure Mta where
 author:Str
 message:Str
 time:Int
 deriving DecidableEq
def Mta.zero:Mta:=⟨[],[],0⟩
def Eu (c:Mta):List PV:= [.str c.author]++([.str c.message]++([.raw (.int .i64 c.time)]))
@[simp] theorem jl (c:Mta):(Eu c).length=3:=by unfold Eu;simp
instance :NR Eu 3:=⟨jl⟩
instance (c:Mta):E3 (Eu c):=by unfold Eu;infer_instance
instance (c:Mta):GI (.agg (Eu c)) Eu c:=⟨Dm.agg _⟩
instance kC (c:Mta):Km (Eu c) 0 [.str c.author]:=by unfold Eu;exact Dk
instance jF (c:Mta) (x:Str):FB (Eu c) 0 [.str x] (Eu { c with author:=x }):=by unfold Eu;exact DE (by simp)
instance fz (c:Mta):Km (Eu c) 1 [.str c.message]:=by unfold Eu;exact Al (n:=1) (off:=0) (by simp) (Dk)
instance nt (c:Mta):Km (Eu c) 2 [.raw (.int .i64 c.time)]:=by unfold Eu;exact Al (n:=1) (off:=1) (by simp) (Al (n:=1) (off:=0) (by simp) (MF))
structure Mvd where
 old:Dig
 lo:Int
 hi:Int
 patch:Dig
 dst:Int
 deriving DecidableEq
def wU (c:Mvd):List PV:=(eDig c.old)++([.raw (.int .i64 c.lo)]++([.raw (.int .i64 c.hi)]++((eDig c.patch)++([.raw (.int .i64 c.dst)]))))
@[simp] theorem vy (c:Mvd):(wU c).length=67:=by unfold wU;simp
end Go.Q
