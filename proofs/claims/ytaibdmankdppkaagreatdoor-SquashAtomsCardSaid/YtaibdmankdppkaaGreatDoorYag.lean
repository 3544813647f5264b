/- The small logic: what a statement's inputs are: from the data that a row speaks of to forms. Library, no statement of its own. -/
import Derived.Test.YtaibdmankdppkaaGreatDoorYaf
import Derived.ProofKit
import Derived.SizedLaws
import Derived.OpenShut
import Derived.Test.YtaibdmankdppkaaGreatDoorProg
import Derived.Test.YtaibdmankdppkaaGreatDoorYad
import Derived.Test.YtaibdmankdppkaaGreatDoorRows
import Derived.LaidMore
import Derived.Stop.Joined
import Derived.Test.YtaibdmankdppkaaGreatDoorCards
import Derived.Test.YtaibdmankdppkaaGreatDoorTie
import Derived.Test.YtaibdmankdppkaaGreatDoorYae
set_option linter.unusedSimpArgs false
set_option linter.unusedVariables false
namespace Go.Q
open Go
theorem gm {w:World} {b o s:Nat}:w.cell? ⟨b,o,some s⟩=none:=by
 unfold World.cell?
 split<;>simp
def Dr (P:Program) (t:Nat) (F:List PV→Prop):Prop:=
 ∀ (H:Type) (enc:TypeId × Value→H) (w:World) (g:Gh),(∀ b o v,w.cell? ⟨b,o,none⟩=some v→g.H b o=some v)→ ∀ (base:Nat) (held:Bool) (fuel:Nat) (cs:List Value) (x:DataW H × List MemPlace),
   DataW.trod enc P w base (fun _=>true) held fuel t cs=some x→(∀ n∈x.1.weights P t,n≤reachBytes)→ ∃ xs,F xs∧EB g cs xs
theorem Dr.to {P:Program} {t:Nat} {F G:List PV→Prop} (h:Dr P t F) (hg: ∀ xs,F xs→G xs):Dr P t G:=fun H enc w g hc base held fuel cs x ht hw=>by
 obtain⟨xs,h1,h2⟩:=h H enc w g hc base held fuel cs x ht hw
 exact⟨xs,hg xs h1,h2⟩
theorem fj {P:Program} {t:Nat} {k:IntKind} (ht:P.underlying t=some (.int k)):Dr P t (fun xs=> ∃ n,(Lit.int k n).wf=true∧xs= [.raw (.int k n)]):=fun H enc w g hc base held fuel cs x h hw=>by
 obtain⟨n,rfl,rfl,h1⟩:=DataW.trod_int ht h
 exact⟨_,⟨n,h1,rfl⟩,.cons (.raw _) (.nil g)⟩
theorem ba {P:Program} {t:Nat} (ht:P.underlying t=some .bool):Dr P t (fun xs=> ∃ b,xs= [.raw (.bool b)]):=fun H enc w g hc base held fuel cs x h hw=>by
 obtain⟨b,rfl,rfl⟩:=DataW.trod_bool ht h
 exact⟨_,⟨b,rfl⟩,.cons (.raw _) (.nil g)⟩
theorem fi {P:Program} {t:Nat} (ht:P.underlying t=some .string):Dr P t (fun xs=> ∃ s,xs= [.str s]):=fun H enc w g hc base held fuel cs x h hw=>by
 obtain⟨s,rfl,rfl,h1⟩:=DataW.trod_string ht h
 have h2:s.data.toList.length≤maxN:=by
  have:=hw s.data.toList.length (by simp[DataW.weights])
  have h3:=reachBytes_lt
  unfold maxN;omega
 refine⟨_,⟨s.data.toList,rfl⟩,.cons ?_ (.nil g)⟩
 have:=VR.str (g:=g) h2
 simpa using this
theorem Q8 {H:Type} {P:Program} {e:Nat}: ∀ {l:List (DataW H)} {d:DataW H},d∈l→ ∀ n∈d.weights P e,n∈DataW.weightsAll P e l
 |x::l,d,hd,n,hn=>by
  simp only[DataW.weightsAll,Aj]
  rcases AI.1 hd with rfl|hd
  ·exact .inl hn
  ·exact .inr (Q8 hd n hn)
theorem ZC {P:Program} {t e sz by_:Nat} {F:List PV→Prop} (ht:P.underlying t=some (.slice e)) (hc:P.cellsOf e=sz) (hb:P.bytesOf e=by_) (h0:0 < sz) (hsb:sz≤by_) (hF: ∀ ys,F ys→ys.length=sz) (h:Dr P e F):
  Dr P t (fun xs=> ∃ yss:List (List PV),(∀ ys∈yss,F ys)∧xs= [.slice yss .ro]):=fun H enc w g hg base held fuel cs x hx hw=>by
 rcases DataW.trod_slice ht hx with ⟨rfl,rfl⟩|⟨a,len,cap,elems,rest,n,rfl,rfl,rfl,h1,h2,h3,h4,h5,h6,h7⟩
 ·exact⟨_,⟨[],by simp,rfl⟩,.cons .nilR (.nil g)⟩
 subst hc
 have hwe: ∀ y∈elems,∀ n∈y.1.weights P e,n≤reachBytes:=fun y hy n hn=>hw n (by
  simp only[DataW.weights,ht,AI,Aj]
  exact .inr (.inl (Q8 (List.mem_map_of_mem hy) n hn)))
 have hbytes:len*by_≤reachBytes:=by
  have:=hw ((elems.length+rest.length)*P.bytesOf e) (by simp[DataW.weights,ht])
  rw[hb,h4]at this
  exact CZ (B3 _ (by omega)) this
 obtain⟨hrl,hr⟩:=h6 rfl
 obtain⟨b,off,spot⟩:=a
 have cellspot: ∀ i cs',i=0→w.cells? base (Addr.add ⟨b,off,spot⟩ (i*P.cellsOf e)) (P.cellsOf e)=some cs'→spot=none:=fun i cs' hi hcs=>by
  subst hi
  obtain⟨_,hl,hc⟩:=World.cells?_some hcs
  have:=hc 0 h0
  rw[AO (by omega)]at this
  have e0:Addr.add (Addr.add ⟨b,off,spot⟩ (0*P.cellsOf e)) 0=⟨b,off,spot⟩:=by simp[Addr.add]
  rw[e0]at this
  cases spot with
  |none=>rfl
  |some s=>rw[gm]at this;cases this
 have hspot:spot=none∨(len=0∧cap=0):=by
  by_cases hl:len=0
  ·by_cases hcp:cap=0
   ·exact .inr ⟨hl,hcp⟩
   ·left
    have:=hr 0 (by omega)
    have hlt:0 < rest.length:=by omega
    rw[AO hlt,Dw]at this
    obtain⟨cs',hcs,_⟩:=this
    exact cellspot _ cs' (by omega) hcs
  ·left
   have:=h5 0 (by omega)
   have hlt:0 < elems.length:=by omega
   rw[AO hlt,Dw]at this
   obtain⟨cs',hcs,_⟩:=this
   exact cellspot _ cs' (by omega) hcs
 rcases hspot with rfl|⟨rfl,rfl⟩
 ·have key: ∀ m,m≤len→ ∃ (us:List Value) (yss:List (List PV)),yss.length=m∧us.length=m*P.cellsOf e∧(∀ ys∈yss,F ys)∧EB g us yss.flatten∧ ∀ j (hj:j < us.length),w.cell? ⟨b,off+j,none⟩=some us[j]:=by
   intro m
   induction m with
   |zero=>intro _;exact⟨[],[],rfl,by simp,by simp,.nil g,fun j hj=>absurd hj (by simp)⟩
   |succ m ih=>
    intro hm
    obtain⟨us,yss,k1,k2,k3,k4,k5⟩:=ih (by omega)
    have hlt:m < elems.length:=by omega
    have:=h5 m (by omega)
    rw[AO hlt,Dw]at this
    obtain⟨cs',hcs,hy⟩:=this
    obtain⟨_,hl,hcc⟩:=World.cells?_some hcs
    obtain⟨ys,f1,f2⟩:=h H enc w g hg base held n cs' _ hy (hwe _ (AF hlt))
    refine⟨us++cs',yss++ [ys],by simp[k1],by rw[AA,k2,hl,C7];omega,fun z hz=>?_,?_,fun j hj=>?_⟩
    ·rcases Aj.1 hz with hz|hz
     ·exact k3 z hz
     ·rw[An.1 hz];exact f1
    ·rw[CJ]
     have:EB g cs' [ys].flatten:=by simpa using f2
     exact k4.append this
    ·by_cases hju:j < us.length
     ·rw[BC hju];exact k5 j hju
     ·rw[Bk (by omega)]
      have hj2:j - us.length < cs'.length:=by rw[AA]at hj;omega
      have:=hcc (j - us.length) (by omega)
      rw[AO hj2]at this
      have e2:off+j=off+m*P.cellsOf e+(j - us.length):=by rw[←k2];omega
      rw[←this,e2,Dp,Dp]
  obtain⟨us,yss,k1,k2,k3,k4,k5⟩:=key len (Ah _)
  refine⟨_,⟨yss,k3,rfl⟩,.cons ?_ (.nil g)⟩
  have hr2:=reachBytes_lt
  have hb1:len*P.cellsOf e≤len*by_:=Jz _ hsb
  have hb2:len≤len*P.cellsOf e:=Nat.le_mul_of_pos_right _ h0
  have:=VR.of_cells (g:=g) (xs:=yss) (t:= .ro) (sz:=P.cellsOf e) (b:=b) (off:=off) (cap:=cap) (fun y hy=>hF y (k3 y hy)) (by omega) (by rw[k1];unfold maxN;omega) k4 (fun j hj=>hg _ _ _ (k5 j hj)) (by simp) (by simp)
  rw[k1]at this
  exact this
 ·exact⟨_,⟨[],by simp,rfl⟩,.cons .nilR (.nil g)⟩
def RJ:TypeDesc→Option (List (Nat × Nat))
 | .struct fs=>some (fs.toList.map fun f=>(f.type,f.offset))
 |_=>none
inductive aQ (P:Program):List (Nat × Nat)→List (List PV→Prop)→Nat→Nat→Prop
 |nil (n:Nat):aQ P [] [] n n
 |cons {t o n:Nat} {r:List (Nat × Nat)} {F:List PV→Prop} {Fs:List (List PV→Prop)} (sz:Nat) (hs:P.cellsOf t=sz) (h:Dr P t F) (k:aQ P r Fs (o+sz) n):aQ P ((t,o)::r) (F::Fs) o n
inductive mX:List (List PV→Prop)→List (List PV)→Prop
 |nil:mX [] []
 |cons {F:List PV→Prop} {Fs:List (List PV→Prop)} {y:List PV} {ys:List (List PV)} (h:F y) (k:mX Fs ys):mX (F::Fs) (y::ys)
theorem Qc {P:Program} {H:Type} {enc:TypeId × Value→H} {w:World} {g:Gh} (hg: ∀ b o v,w.cell? ⟨b,o,none⟩=some v→g.H b o=some v) {base fuel:Nat} {held:Bool} {cs:List Value}:
  ∀ {r:List (Nat × Nat)} {Fs:List (List PV→Prop)} {o n:Nat},aQ P r Fs o n→cs.length=n→
    (∀ (i t o:Nat),r[i]? =some (t,o)→ ∃ x,DataW.trod enc P w base (fun _=>true) held fuel t ((cs.drop o).take (P.cellsOf t))=some x∧ ∀ n∈x.1.weights P t,n≤reachBytes)→ ∃ yss,mX Fs yss∧EB g (cs.drop o) yss.flatten
 |_,_,_,_,.nil n,hn,_=>⟨[],.nil,by rw[DH (by omega)];exact .nil g⟩
 |_,_,_,_,.cons (t:=t) (o:=o) sz hs h k,hn,hx=>by
  obtain⟨x,h1,h2⟩:=hx 0 t o rfl
  obtain⟨ys,f1,f2⟩:=h H enc w g hg base held fuel _ x h1 h2
  obtain⟨yss,k1,k2⟩:=Qc hg k hn (fun i t o hi=>hx (i+1) t o (by simpa using hi))
  refine⟨ys::yss,.cons f1 k1,?_⟩
  rw[hs]at f2
  have:=f2.append k2
  rw[←LY,Bm]at this
  simpa using this
theorem HR {P:Program} {t n:Nat} {r:List (Nat × Nat)} {Fs:List (List PV→Prop)} (hr:(P.underlying t).bind RJ=some r) (hn:P.cellsOf t=n) (h:aQ P r Fs 0 n):Dr P t (fun xs=> ∃ yss,mX Fs yss∧xs=yss.flatten):=fun H enc w g hg base held fuel cs x hx hw=>by
 obtain⟨td,h1,h2⟩:=Dw.1 hr
 obtain⟨fs,rfl⟩: ∃ fs,td= .struct fs:=by
  cases td<;>simp[RJ]at h2
  exact⟨_,rfl⟩
 simp only[RJ,J3]at h2
 obtain⟨xs,m,rfl,rfl,k1,k2,k3⟩:=DataW.trod_struct h1 hx
 obtain⟨yss,j1,j2⟩:=Qc (enc:=enc) (w:=w) (base:=base) (held:=held) (fuel:=m) hg (cs:=cs) h (by rw[k1,hn]) (fun i t' o hi=>by
  rw[←h2,EW,Bn]at hi
  obtain⟨f,hf,e⟩:=hi
  obtain⟨e1,e2⟩:=Prod.mk.inj e
  subst e1 e2
  have hf':fs[i]? =some f:=by simpa using hf
  have hlt:i < xs.length:=by
   rw[k2]
   exact(BF.1 hf').1
  refine⟨xs[i],by rw[k3 i f hf',AO hlt],fun n hn=>hw n ?_⟩
  simp only[DataW.weights,h1]
  exact DataW.weights_mem_each (j:=i) (t:=f.type) (d:=xs[i].1) (by simp[hf']) (by simp[hlt]) n hn)
 exact⟨_,⟨yss,j1,rfl⟩,by simpa using j2⟩
theorem UO {α:Type} {f:α→List PV}: ∀ {yss:List (List PV)},(∀ ys∈yss,∃ a,ys=f a)→ ∃ l:List α,yss=l.map f
 | [],_=>⟨[],rfl⟩
 |y::yss,h=>by
  obtain⟨a,ha⟩:=h y AG
  obtain⟨l,hl⟩:=UO (yss:=yss) (fun z hz=>h z (AH _ hz))
  exact⟨a::l,by rw[ha,hl];rfl⟩
theorem Dr.list {P:Program} {t e sz by_:Nat} {α:Type} {f:α→List PV} (h:Dr P e (fun xs=> ∃ a,xs=f a)) (hf: ∀ a,(f a).length=sz) (ht:P.underlying t=some (.slice e)) (hc:P.cellsOf e=sz) (hb:P.bytesOf e=by_) (h0:0 < sz) (hsb:sz≤by_):Dr P t (fun xs=> ∃ l:List α,xs= [.slice (l.map f) .ro]):=
 Dr.to (ZC ht hc hb h0 hsb (fun ys ⟨a,ha⟩=>by rw[ha];exact hf a) h) fun xs ⟨yss,h1,h2⟩=>by
  obtain⟨l,rfl⟩:=UO h1
  exact⟨l,h2⟩
theorem fk {P:Program} {t e:Nat} (ht:P.underlying t=some (.array 32 e)) (he:P.underlying e=some (.int .u8)) (hc:P.cellsOf t=32) (hce:P.cellsOf e=1):Dr P t (fun xs=> ∃ d,xs=eDig d):=fun H enc w g hg base held fuel cs x hx hw=>by
 obtain⟨xs,m,rfl,rfl,k1,k2,k3⟩:=DataW.trod_array ht hx
 rw[hc]at k1
 have each: ∀ i (hi:i < cs.length),∃ b:UInt8,cs[i]= .int .u8 b.toNat:=fun i hi=>by
  have:=k3 i (by omega)
  rw[AO (by omega),hce,IH]at this
  obtain⟨n,e1,_,hwf⟩:=DataW.trod_int he this
  have e2:(cs.drop i).take 1= [cs[i]]:=by
   rw[CH hi];rfl
  rw[e2]at e1
  simp only[OQ,and_true]at e1
  simp[Lit.wf,IntKind.min,IntKind.max,IntKind.signed,IntKind.bits]at hwf
  refine⟨n.toNat.toUInt8,?_⟩
  rw[e1]
  congr 1
  simp
  omega
 have: ∀ l:List Value,(∀ v∈l,∃ b:UInt8,v= .int .u8 b.toNat)→ ∃ bs:List UInt8,l=bs.map u8:=by
  intro l
  induction l with
  |nil=>intro _;exact⟨[],rfl⟩
  |cons v l ih=>
   intro h
   obtain⟨b,rfl⟩:=h v AG
   obtain⟨bs,rfl⟩:=ih (fun v hv=>h v (AH _ hv))
   exact⟨b::bs,rfl⟩
 obtain⟨bs,rfl⟩:=this cs (fun v hv=>by
  obtain⟨i,hi,rfl⟩:=AZ.1 hv
  exact each i hi)
 refine⟨_,⟨⟨bs,by simpa using k1⟩,rfl⟩,?_⟩
 refine⟨by simp[eDig],fun i h1 h2=>?_⟩
 simp[eDig,eU8]
 exact .raw _
def cC (w:World):Gh:=⟨fun b o=>w.cell? ⟨b,o,none⟩,fun b=>if b=globAt then some (.row pow10Tab)else none⟩
theorem pO {w:World} (h: ∃ T p,w.heap[globAt]? =some (.cells pow10Tab.toArray T p)):Dt w (cC w) []:=
 ⟨fun _ _ _ h=>h,fun b z hz=>(by
  simp only[cC]at hz
  split at hz
  ·rename_i e;subst e;cases hz;exact h
  ·cases hz),by simp,List.nodup_nil,⟨by simp[cC]⟩⟩
theorem Ec.below {w w':World} {g g':Gh} (h:Ec [] w g w' g'):Go.RowKit.Below w.heap.size w w':=⟨h.os,h.tape,h.output.1,h.size,fun k hk=>h.keep k hk (by simp)⟩
end Go.Q
namespace Go.Proofs
open Go Go.Q
def zv:PV→Value
 | .raw v=>v
 | .str _=> .string ⟨#[]⟩
 |_=> .slice none 0 0
instance :mH Tryz.prog:=⟨by kernel_rfl⟩
instance :EZ Tryz.prog 3 1 8:=EZ.of (by kernel_rfl)
instance :DR Tryz.prog 3:=DR.of (by kernel_rfl)
instance :NH Tryz.prog 3 .i64:=⟨by kernel_rfl⟩
instance :EZ Tryz.prog 4 1 1:=EZ.of (by kernel_rfl)
instance :DR Tryz.prog 4:=DR.of (by kernel_rfl)
instance :sQ Tryz.prog 4:=⟨by kernel_rfl⟩
instance :EZ Tryz.prog 5 1 1:=EZ.of (by kernel_rfl)
instance :DR Tryz.prog 5:=DR.of (by kernel_rfl)
instance :NH Tryz.prog 5 .u8:=⟨by kernel_rfl⟩
instance :EZ Tryz.prog 9 1 16:=EZ.of (by kernel_rfl)
instance :DR Tryz.prog 9:=DR.of (by kernel_rfl)
instance :SA Tryz.prog 9:=⟨by kernel_rfl⟩
instance :MO Tryz.prog 22 59:=⟨by kernel_rfl⟩
instance :DR Tryz.prog 23:=DR.of (by kernel_rfl)
instance :MO Tryz.prog 23 59:=⟨by kernel_rfl⟩
instance :EZ Tryz.prog 24 1 24:=EZ.of (by kernel_rfl)
instance :DR Tryz.prog 24:=DR.of (by kernel_rfl)
instance :MO Tryz.prog 24 31:=⟨by kernel_rfl⟩
instance :GV Tryz.prog 24 32 32:=GV.of (by kernel_rfl)
instance :EZ Tryz.prog 26 3 40:=EZ.of (by kernel_rfl)
instance :FF Tryz.prog 26 3:=FF.of (by kernel_rfl)
instance :Cq Tryz.prog 26:=Cq.of (by kernel_rfl)
instance :Ba Tryz.prog 26 0 0 1:=Ba.of (by kernel_rfl)
instance :CX Tryz.prog 26 0 0:=CX.of (by kernel_rfl)
instance :CX Tryz.prog 26 1 1:=CX.of (by kernel_rfl)
instance :CX Tryz.prog 26 2 2:=CX.of (by kernel_rfl)
instance :EZ Tryz.prog 31 32 32:=EZ.of (by kernel_rfl)
instance :FF Tryz.prog 31 32:=FF.of (by kernel_rfl)
instance :VA Tryz.prog 31 32 5:=⟨by kernel_rfl⟩
instance :Cp Tryz.prog 31 (eDig Dig.zero):=Cp.of (us:=(eDig Dig.zero).map zv) (by kernel_rfl) (by kernel_rfl)
instance :V7 Tryz.prog 31:=V7.of (E:=5) (by kernel_rfl) (by kernel_rfl) (by kernel_rfl) (by kernel_rfl)
instance :EZ Tryz.prog 38 1 24:=EZ.of (by kernel_rfl)
instance :DR Tryz.prog 38:=DR.of (by kernel_rfl)
instance :MO Tryz.prog 38 73:=⟨by kernel_rfl⟩
instance :GV Tryz.prog 38 139 264:=GV.of (by kernel_rfl)
instance :EZ Tryz.prog 40 5 88:=EZ.of (by kernel_rfl)
instance :FF Tryz.prog 40 5:=FF.of (by kernel_rfl)
instance :Cq Tryz.prog 40:=Cq.of (by kernel_rfl)
instance :Cp Tryz.prog 40 (Bz Pat.zero):=Cp.of (us:=(Bz Pat.zero).map zv) (by kernel_rfl) (by kernel_rfl)
instance :Ba Tryz.prog 40 0 0 1:=Ba.of (by kernel_rfl)
instance :CX Tryz.prog 40 0 0:=CX.of (by kernel_rfl)
instance :Ba Tryz.prog 40 1 1 1:=Ba.of (by kernel_rfl)
instance :CX Tryz.prog 40 1 1:=CX.of (by kernel_rfl)
instance :Ba Tryz.prog 40 2 2 1:=Ba.of (by kernel_rfl)
instance :CX Tryz.prog 40 2 2:=CX.of (by kernel_rfl)
instance :CX Tryz.prog 40 3 3:=CX.of (by kernel_rfl)
instance :Ba Tryz.prog 40 4 4 1:=Ba.of (by kernel_rfl)
instance :CX Tryz.prog 40 4 4:=CX.of (by kernel_rfl)
instance :EZ Tryz.prog 45 1 24:=EZ.of (by kernel_rfl)
instance :DR Tryz.prog 45:=DR.of (by kernel_rfl)
instance :MO Tryz.prog 45 3:=⟨by kernel_rfl⟩
instance :GV Tryz.prog 45 1 8:=GV.of (by kernel_rfl)
instance :MO Tryz.prog 49 45:=⟨by kernel_rfl⟩
instance :GV Tryz.prog 49 1 24:=GV.of (by kernel_rfl)
instance :MO Tryz.prog 50 26:=⟨by kernel_rfl⟩
instance :GV Tryz.prog 50 3 40:=GV.of (by kernel_rfl)
instance :EZ Tryz.prog 59 37 120:=EZ.of (by kernel_rfl)
instance :FF Tryz.prog 59 37:=FF.of (by kernel_rfl)
instance :Cq Tryz.prog 59:=Cq.of (by kernel_rfl)
instance :Cp Tryz.prog 59 (eSto Sto.zero):=Cp.of (us:=(eSto Sto.zero).map zv) (by kernel_rfl) (by kernel_rfl)
instance :Ba Tryz.prog 59 0 0 32:=Ba.of (by kernel_rfl)
instance :CX Tryz.prog 59 0 0:=CX.of (by kernel_rfl)
instance :Ba Tryz.prog 59 1 32 5:=Ba.of (by kernel_rfl)
instance :CX Tryz.prog 59 1 32:=CX.of (by kernel_rfl)
instance :EZ Tryz.prog 65 33 40:=EZ.of (by kernel_rfl)
instance :FF Tryz.prog 65 33:=FF.of (by kernel_rfl)
instance :Cq Tryz.prog 65:=Cq.of (by kernel_rfl)
instance :Cp Tryz.prog 65 (eIdent Ident.zero):=Cp.of (us:=(eIdent Ident.zero).map zv) (by kernel_rfl) (by kernel_rfl)
instance :Ba Tryz.prog 65 0 0 32:=Ba.of (by kernel_rfl)
instance :CX Tryz.prog 65 0 0:=CX.of (by kernel_rfl)
instance :Ba Tryz.prog 65 1 32 1:=Ba.of (by kernel_rfl)
instance :CX Tryz.prog 65 1 32:=CX.of (by kernel_rfl)
instance :LV Tryz.prog 65:=LV.of (D:=31) (I:=3) (E:=5) (by kernel_rfl) (by kernel_rfl) (by kernel_rfl) (by kernel_rfl) (by kernel_rfl) (by kernel_rfl) (by kernel_rfl) (by kernel_rfl) (by kernel_rfl)
instance :EZ Tryz.prog 68 1 24:=EZ.of (by kernel_rfl)
instance :DR Tryz.prog 68:=DR.of (by kernel_rfl)
instance :MO Tryz.prog 68 125:=⟨by kernel_rfl⟩
instance :GV Tryz.prog 68 172 296:=GV.of (by kernel_rfl)
instance :EZ Tryz.prog 70 1 24:=EZ.of (by kernel_rfl)
instance :DR Tryz.prog 70:=DR.of (by kernel_rfl)
instance :MO Tryz.prog 70 9:=⟨by kernel_rfl⟩
instance :GV Tryz.prog 70 1 16:=GV.of (by kernel_rfl)
instance :EZ Tryz.prog 71 1 24:=EZ.of (by kernel_rfl)
instance :DR Tryz.prog 71:=DR.of (by kernel_rfl)
instance :MO Tryz.prog 71 65:=⟨by kernel_rfl⟩
instance :GV Tryz.prog 71 33 40:=GV.of (by kernel_rfl)
instance :EZ Tryz.prog 73 139 264:=EZ.of (by kernel_rfl)
instance :FF Tryz.prog 73 139:=FF.of (by kernel_rfl)
instance :Cq Tryz.prog 73:=Cq.of (by kernel_rfl)
instance :Cp Tryz.prog 73 (eChg Chg.zero):=Cp.of (us:=(eChg Chg.zero).map zv) (by kernel_rfl) (by kernel_rfl)
instance :Ba Tryz.prog 73 0 0 1:=Ba.of (by kernel_rfl)
instance :CX Tryz.prog 73 0 0:=CX.of (by kernel_rfl)
instance :Ba Tryz.prog 73 1 1 33:=Ba.of (by kernel_rfl)
instance :CX Tryz.prog 73 1 1:=CX.of (by kernel_rfl)
instance :Ba Tryz.prog 73 2 34 1:=Ba.of (by kernel_rfl)
instance :CX Tryz.prog 73 2 34:=CX.of (by kernel_rfl)
instance :CX Tryz.prog 73 3 35:=CX.of (by kernel_rfl)
instance :CX Tryz.prog 73 4 68:=CX.of (by kernel_rfl)
instance :CX Tryz.prog 73 5 69:=CX.of (by kernel_rfl)
instance :CX Tryz.prog 73 6 70:=CX.of (by kernel_rfl)
instance :Ba Tryz.prog 73 7 71 33:=Ba.of (by kernel_rfl)
instance :CX Tryz.prog 73 7 71:=CX.of (by kernel_rfl)
instance :Ba Tryz.prog 73 8 104 33:=Ba.of (by kernel_rfl)
instance :CX Tryz.prog 73 8 104:=CX.of (by kernel_rfl)
instance :Ba Tryz.prog 73 9 137 1:=Ba.of (by kernel_rfl)
instance :CX Tryz.prog 73 9 137:=CX.of (by kernel_rfl)
instance :CX Tryz.prog 73 10 138:=CX.of (by kernel_rfl)
instance :EZ Tryz.prog 90 1 24:=EZ.of (by kernel_rfl)
instance :DR Tryz.prog 90:=DR.of (by kernel_rfl)
instance :MO Tryz.prog 90 94:=⟨by kernel_rfl⟩
instance :GV Tryz.prog 90 34 48:=GV.of (by kernel_rfl)
instance :DR Tryz.prog 92:=DR.of (by kernel_rfl)
instance :EZ Tryz.prog 94 34 48:=EZ.of (by kernel_rfl)
instance :FF Tryz.prog 94 34:=FF.of (by kernel_rfl)
instance :Cq Tryz.prog 94:=Cq.of (by kernel_rfl)
instance :Ba Tryz.prog 94 0 0 33:=Ba.of (by kernel_rfl)
instance :CX Tryz.prog 94 0 0:=CX.of (by kernel_rfl)
instance :Ba Tryz.prog 94 1 33 1:=Ba.of (by kernel_rfl)
instance :CX Tryz.prog 94 1 33:=CX.of (by kernel_rfl)
instance :DR Tryz.prog 100:=DR.of (by kernel_rfl)
instance :Cq Tryz.prog 104:=Cq.of (by kernel_rfl)
instance :Ba Tryz.prog 104 0 0 5:=Ba.of (by kernel_rfl)
instance :CX Tryz.prog 104 0 0:=CX.of (by kernel_rfl)
instance :Ba Tryz.prog 104 1 5 1:=Ba.of (by kernel_rfl)
instance :CX Tryz.prog 104 1 5:=CX.of (by kernel_rfl)
instance :CX Tryz.prog 104 2 6:=CX.of (by kernel_rfl)
instance :CX Tryz.prog 104 3 7:=CX.of (by kernel_rfl)
instance :CX Tryz.prog 104 4 8:=CX.of (by kernel_rfl)
instance :EZ Tryz.prog 119 1 8:=EZ.of (by kernel_rfl)
instance :DR Tryz.prog 119:=DR.of (by kernel_rfl)
instance :EZ Tryz.prog 121 1 8:=EZ.of (by kernel_rfl)
instance :DR Tryz.prog 121:=DR.of (by kernel_rfl)
instance :EZ Tryz.prog 125 172 296:=EZ.of (by kernel_rfl)
instance :FF Tryz.prog 125 172:=FF.of (by kernel_rfl)
instance :Cq Tryz.prog 125:=Cq.of (by kernel_rfl)
instance :Cp Tryz.prog 125 (eAtm Atm.zero):=Cp.of (us:=(eAtm Atm.zero).map zv) (by kernel_rfl) (by kernel_rfl)
instance :Ba Tryz.prog 125 0 0 33:=Ba.of (by kernel_rfl)
instance :CX Tryz.prog 125 0 0:=CX.of (by kernel_rfl)
instance :Ba Tryz.prog 125 1 33 1:=Ba.of (by kernel_rfl)
instance :CX Tryz.prog 125 1 33:=CX.of (by kernel_rfl)
instance :Ba Tryz.prog 125 2 34 33:=Ba.of (by kernel_rfl)
instance :CX Tryz.prog 125 2 34:=CX.of (by kernel_rfl)
instance :Ba Tryz.prog 125 3 67 1:=Ba.of (by kernel_rfl)
instance :CX Tryz.prog 125 3 67:=CX.of (by kernel_rfl)
instance :Ba Tryz.prog 125 4 68 33:=Ba.of (by kernel_rfl)
instance :CX Tryz.prog 125 4 68:=CX.of (by kernel_rfl)
instance :Ba Tryz.prog 125 5 101 1:=Ba.of (by kernel_rfl)
instance :CX Tryz.prog 125 5 101:=CX.of (by kernel_rfl)
instance :Ba Tryz.prog 125 6 102 1:=Ba.of (by kernel_rfl)
instance :CX Tryz.prog 125 6 102:=CX.of (by kernel_rfl)
instance :Ba Tryz.prog 125 7 103 1:=Ba.of (by kernel_rfl)
instance :CX Tryz.prog 125 7 103:=CX.of (by kernel_rfl)
instance :Ba Tryz.prog 125 8 104 1:=Ba.of (by kernel_rfl)
instance :CX Tryz.prog 125 8 104:=CX.of (by kernel_rfl)
instance :Ba Tryz.prog 125 9 105 33:=Ba.of (by kernel_rfl)
instance :CX Tryz.prog 125 9 105:=CX.of (by kernel_rfl)
instance :Ba Tryz.prog 125 10 138 33:=Ba.of (by kernel_rfl)
instance :CX Tryz.prog 125 10 138:=CX.of (by kernel_rfl)
instance :Ba Tryz.prog 125 11 171 1:=Ba.of (by kernel_rfl)
instance :CX Tryz.prog 125 11 171:=CX.of (by kernel_rfl)
instance :EZ Tryz.prog 140 1 8:=EZ.of (by kernel_rfl)
instance :DR Tryz.prog 140:=DR.of (by kernel_rfl)
instance :NH Tryz.prog 157 .u64:=⟨by kernel_rfl⟩
instance :EZ Tryz.prog 159 1 24:=EZ.of (by kernel_rfl)
instance :DR Tryz.prog 159:=DR.of (by kernel_rfl)
instance :MO Tryz.prog 159 5:=⟨by kernel_rfl⟩
instance :mI Tryz.prog 159:=⟨5,by kernel_rfl,by kernel_rfl⟩
instance :GV Tryz.prog 159 1 1:=GV.of (by kernel_rfl)
instance :DR Tryz.prog 168:=DR.of (by kernel_rfl)
instance :Cq Tryz.prog 170:=Cq.of (by kernel_rfl)
instance :Ba Tryz.prog 170 0 0 1:=Ba.of (by kernel_rfl)
instance :CX Tryz.prog 170 0 0:=CX.of (by kernel_rfl)
instance :Ba Tryz.prog 170 1 1 1:=Ba.of (by kernel_rfl)
instance :CX Tryz.prog 170 1 1:=CX.of (by kernel_rfl)
instance :EZ Tryz.prog 171 1 24:=EZ.of (by kernel_rfl)
instance :DR Tryz.prog 171:=DR.of (by kernel_rfl)
instance :MO Tryz.prog 171 174:=⟨by kernel_rfl⟩
instance :GV Tryz.prog 171 34 48:=GV.of (by kernel_rfl)
instance :EZ Tryz.prog 174 34 48:=EZ.of (by kernel_rfl)
instance :FF Tryz.prog 174 34:=FF.of (by kernel_rfl)
instance :Cq Tryz.prog 174:=Cq.of (by kernel_rfl)
instance :Ba Tryz.prog 174 0 0 33:=Ba.of (by kernel_rfl)
instance :CX Tryz.prog 174 0 0:=CX.of (by kernel_rfl)
instance :Ba Tryz.prog 174 1 33 1:=Ba.of (by kernel_rfl)
instance :CX Tryz.prog 174 1 33:=CX.of (by kernel_rfl)
instance :EZ Tryz.prog 179 1 8:=EZ.of (by kernel_rfl)
instance :DR Tryz.prog 179:=DR.of (by kernel_rfl)
instance :EZ Tryz.prog 194 1 24:=EZ.of (by kernel_rfl)
instance :DR Tryz.prog 194:=DR.of (by kernel_rfl)
instance :MO Tryz.prog 194 196:=⟨by kernel_rfl⟩
instance :GV Tryz.prog 194 3 48:=GV.of (by kernel_rfl)
instance :EZ Tryz.prog 196 3 48:=EZ.of (by kernel_rfl)
instance :FF Tryz.prog 196 3:=FF.of (by kernel_rfl)
instance :Cq Tryz.prog 196:=Cq.of (by kernel_rfl)
instance :Cp Tryz.prog 196 (eSx Sx.zero):=Cp.of (us:=(eSx Sx.zero).map zv) (by kernel_rfl) (by kernel_rfl)
instance :Ba Tryz.prog 196 0 0 1:=Ba.of (by kernel_rfl)
instance :CX Tryz.prog 196 0 0:=CX.of (by kernel_rfl)
instance :Ba Tryz.prog 196 1 1 1:=Ba.of (by kernel_rfl)
instance :CX Tryz.prog 196 1 1:=CX.of (by kernel_rfl)
instance :Ba Tryz.prog 196 2 2 1:=Ba.of (by kernel_rfl)
instance :CX Tryz.prog 196 2 2:=CX.of (by kernel_rfl)
instance :EZ Tryz.prog 212 1 4:=EZ.of (by kernel_rfl)
instance :DR Tryz.prog 212:=DR.of (by kernel_rfl)
instance :NH Tryz.prog 212 .u32:=⟨by kernel_rfl⟩
instance :NH Tryz.prog 214 .u64:=⟨by kernel_rfl⟩
instance :EZ Tryz.prog 216 8 32:=EZ.of (by kernel_rfl)
instance :FF Tryz.prog 216 8:=FF.of (by kernel_rfl)
instance :VA Tryz.prog 216 8 212:=⟨by kernel_rfl⟩
instance :Cp Tryz.prog 216 (eW (List.replicate 8 0)):=Cp.of (us:=(eW (List.replicate 8 0)).map zv) (by kernel_rfl) (by kernel_rfl)
instance :EZ Tryz.prog 229 1 8:=EZ.of (by kernel_rfl)
instance :DR Tryz.prog 229:=DR.of (by kernel_rfl)
instance :EZ Tryz.prog 253 64 256:=EZ.of (by kernel_rfl)
instance :FF Tryz.prog 253 64:=FF.of (by kernel_rfl)
instance :VA Tryz.prog 253 64 212:=⟨by kernel_rfl⟩
instance :Cp Tryz.prog 253 (eW (List.replicate 64 0)):=Cp.of (us:=(eW (List.replicate 64 0)).map zv) (by kernel_rfl) (by kernel_rfl)
instance :EZ Tryz.prog 261 1 8:=EZ.of (by kernel_rfl)
instance :DR Tryz.prog 261:=DR.of (by kernel_rfl)
instance :CX Tryz.prog 263 0 0:=CX.of (by kernel_rfl)
instance :CX Tryz.prog 263 1 1:=CX.of (by kernel_rfl)
instance :Cq Tryz.prog 293:=Cq.of (by kernel_rfl)
instance :CX Tryz.prog 293 0 0:=CX.of (by kernel_rfl)
instance :CX Tryz.prog 293 1 1:=CX.of (by kernel_rfl)
instance :Az Tryz.prog 9:=⟨fun vs w=>AK Tryz.func9 rfl (by decide) vs w⟩
instance :Az Tryz.prog 10:=⟨fun vs w=>AK Tryz.func10 rfl (by decide) vs w⟩
instance :Az Tryz.prog 11:=⟨fun vs w=>AK Tryz.func11 rfl (by decide) vs w⟩
instance :Az Tryz.prog 12:=⟨fun vs w=>AK Tryz.func12 rfl (by decide) vs w⟩
instance :Az Tryz.prog 15:=⟨fun vs w=>AK Tryz.func15 rfl (by decide) vs w⟩
instance :Az Tryz.prog 17:=⟨fun vs w=>AK Tryz.func17 rfl (by decide) vs w⟩
instance :Az Tryz.prog 19:=⟨fun vs w=>AK Tryz.func19 rfl (by decide) vs w⟩
instance :Az Tryz.prog 20:=⟨fun vs w=>AK Tryz.func20 rfl (by decide) vs w⟩
instance :Az Tryz.prog 21:=⟨fun vs w=>AK Tryz.func21 rfl (by decide) vs w⟩
instance :Az Tryz.prog 26:=⟨fun vs w=>AK Tryz.func26 rfl (by decide) vs w⟩
instance :Az Tryz.prog 27:=⟨fun vs w=>AK Tryz.func27 rfl (by decide) vs w⟩
instance :Az Tryz.prog 28:=⟨fun vs w=>AK Tryz.func28 rfl (by decide) vs w⟩
instance :Az Tryz.prog 29:=⟨fun vs w=>AK Tryz.func29 rfl (by decide) vs w⟩
instance :Az Tryz.prog 30:=⟨fun vs w=>AK Tryz.func30 rfl (by decide) vs w⟩
instance :Az Tryz.prog 31:=⟨fun vs w=>AK Tryz.func31 rfl (by decide) vs w⟩
instance :Az Tryz.prog 32:=⟨fun vs w=>AK Tryz.func32 rfl (by decide) vs w⟩
instance :Az Tryz.prog 33:=⟨fun vs w=>AK Tryz.func33 rfl (by decide) vs w⟩
instance :Az Tryz.prog 34:=⟨fun vs w=>AK Tryz.func34 rfl (by decide) vs w⟩
instance :Az Tryz.prog 35:=⟨fun vs w=>AK Tryz.func35 rfl (by decide) vs w⟩
instance :Az Tryz.prog 36:=⟨fun vs w=>AK Tryz.func36 rfl (by decide) vs w⟩
instance :Az Tryz.prog 37:=⟨fun vs w=>AK Tryz.func37 rfl (by decide) vs w⟩
instance :Az Tryz.prog 38:=⟨fun vs w=>AK Tryz.func38 rfl (by decide) vs w⟩
instance :Az Tryz.prog 39:=⟨fun vs w=>AK Tryz.func39 rfl (by decide) vs w⟩
instance :Az Tryz.prog 40:=⟨fun vs w=>AK Tryz.func40 rfl (by decide) vs w⟩
instance :Az Tryz.prog 45:=⟨fun vs w=>AK Tryz.func45 rfl (by decide) vs w⟩
instance :Az Tryz.prog 46:=⟨fun vs w=>AK Tryz.func46 rfl (by decide) vs w⟩
instance :Az Tryz.prog 47:=⟨fun vs w=>AK Tryz.func47 rfl (by decide) vs w⟩
instance :Az Tryz.prog 48:=⟨fun vs w=>AK Tryz.func48 rfl (by decide) vs w⟩
instance :Az Tryz.prog 49:=⟨fun vs w=>AK Tryz.func49 rfl (by decide) vs w⟩
instance :Az Tryz.prog 51:=⟨fun vs w=>AK Tryz.func51 rfl (by decide) vs w⟩
instance :Az Tryz.prog 52:=⟨fun vs w=>AK Tryz.func52 rfl (by decide) vs w⟩
instance :Az Tryz.prog 55:=⟨fun vs w=>AK Tryz.func55 rfl (by decide) vs w⟩
instance :Az Tryz.prog 56:=⟨fun vs w=>AK Tryz.func56 rfl (by decide) vs w⟩
instance :Az Tryz.prog 57:=⟨fun vs w=>AK Tryz.func57 rfl (by decide) vs w⟩
instance :Az Tryz.prog 58:=⟨fun vs w=>AK Tryz.func58 rfl (by decide) vs w⟩
instance :Az Tryz.prog 59:=⟨fun vs w=>AK Tryz.func59 rfl (by decide) vs w⟩
instance :Az Tryz.prog 60:=⟨fun vs w=>AK Tryz.func60 rfl (by decide) vs w⟩
instance :Az Tryz.prog 61:=⟨fun vs w=>AK Tryz.func61 rfl (by decide) vs w⟩
instance :Az Tryz.prog 62:=⟨fun vs w=>AK Tryz.func62 rfl (by decide) vs w⟩
instance :Az Tryz.prog 63:=⟨fun vs w=>AK Tryz.func63 rfl (by decide) vs w⟩
instance :Az Tryz.prog 64:=⟨fun vs w=>AK Tryz.func64 rfl (by decide) vs w⟩
instance :Az Tryz.prog 65:=⟨fun vs w=>AK Tryz.func65 rfl (by decide) vs w⟩
instance :Az Tryz.prog 66:=⟨fun vs w=>AK Tryz.func66 rfl (by decide) vs w⟩
instance :Az Tryz.prog 69:=⟨fun vs w=>AK Tryz.func69 rfl (by decide) vs w⟩
instance :Az Tryz.prog 72:=⟨fun vs w=>AK Tryz.func72 rfl (by decide) vs w⟩
instance :Az Tryz.prog 73:=⟨fun vs w=>AK Tryz.func73 rfl (by decide) vs w⟩
instance :Az Tryz.prog 74:=⟨fun vs w=>AK Tryz.func74 rfl (by decide) vs w⟩
instance :Az Tryz.prog 75:=⟨fun vs w=>AK Tryz.func75 rfl (by decide) vs w⟩
instance :Az Tryz.prog 76:=⟨fun vs w=>AK Tryz.func76 rfl (by decide) vs w⟩
instance :Az Tryz.prog 77:=⟨fun vs w=>AK Tryz.func77 rfl (by decide) vs w⟩
instance :Az Tryz.prog 78:=⟨fun vs w=>AK Tryz.func78 rfl (by decide) vs w⟩
instance :Az Tryz.prog 79:=⟨fun vs w=>AK Tryz.func79 rfl (by decide) vs w⟩
instance :Az Tryz.prog 80:=⟨fun vs w=>AK Tryz.func80 rfl (by decide) vs w⟩
instance :Az Tryz.prog 81:=⟨fun vs w=>AK Tryz.func81 rfl (by decide) vs w⟩
instance :Az Tryz.prog 82:=⟨fun vs w=>AK Tryz.func82 rfl (by decide) vs w⟩
instance :Az Tryz.prog 83:=⟨fun vs w=>AK Tryz.func83 rfl (by decide) vs w⟩
instance :Az Tryz.prog 84:=⟨fun vs w=>AK Tryz.func84 rfl (by decide) vs w⟩
instance :Az Tryz.prog 85:=⟨fun vs w=>AK Tryz.func85 rfl (by decide) vs w⟩
instance :Az Tryz.prog 86:=⟨fun vs w=>AK Tryz.func86 rfl (by decide) vs w⟩
instance :Az Tryz.prog 87:=⟨fun vs w=>AK Tryz.func87 rfl (by decide) vs w⟩
instance :Az Tryz.prog 88:=⟨fun vs w=>AK Tryz.func88 rfl (by decide) vs w⟩
instance :Az Tryz.prog 89:=⟨fun vs w=>AK Tryz.func89 rfl (by decide) vs w⟩
instance :Az Tryz.prog 90:=⟨fun vs w=>AK Tryz.func90 rfl (by decide) vs w⟩
instance :Az Tryz.prog 91:=⟨fun vs w=>AK Tryz.func91 rfl (by decide) vs w⟩
instance :Az Tryz.prog 92:=⟨fun vs w=>AK Tryz.func92 rfl (by decide) vs w⟩
instance :Az Tryz.prog 93:=⟨fun vs w=>AK Tryz.func93 rfl (by decide) vs w⟩
instance :Az Tryz.prog 94:=⟨fun vs w=>AK Tryz.func94 rfl (by decide) vs w⟩
instance :Az Tryz.prog 95:=⟨fun vs w=>AK Tryz.func95 rfl (by decide) vs w⟩
instance :Az Tryz.prog 96:=⟨fun vs w=>AK Tryz.func96 rfl (by decide) vs w⟩
instance :Az Tryz.prog 97:=⟨fun vs w=>AK Tryz.func97 rfl (by decide) vs w⟩
instance :Az Tryz.prog 98:=⟨fun vs w=>AK Tryz.func98 rfl (by decide) vs w⟩
instance :Az Tryz.prog 99:=⟨fun vs w=>AK Tryz.func99 rfl (by decide) vs w⟩
instance :Az Tryz.prog 100:=⟨fun vs w=>AK Tryz.func100 rfl (by decide) vs w⟩
instance :Az Tryz.prog 101:=⟨fun vs w=>AK Tryz.func101 rfl (by decide) vs w⟩
instance :Az Tryz.prog 102:=⟨fun vs w=>AK Tryz.func102 rfl (by decide) vs w⟩
instance :Az Tryz.prog 103:=⟨fun vs w=>AK Tryz.func103 rfl (by decide) vs w⟩
instance :Az Tryz.prog 104:=⟨fun vs w=>AK Tryz.func104 rfl (by decide) vs w⟩
instance :Az Tryz.prog 107:=⟨fun vs w=>AK Tryz.func107 rfl (by decide) vs w⟩
instance :Az Tryz.prog 108:=⟨fun vs w=>AK Tryz.func108 rfl (by decide) vs w⟩
instance :Az Tryz.prog 109:=⟨fun vs w=>AK Tryz.func109 rfl (by decide) vs w⟩
instance :Az Tryz.prog 113:=⟨fun vs w=>AK Tryz.func113 rfl (by decide) vs w⟩
instance :Az Tryz.prog 114:=⟨fun vs w=>AK Tryz.func114 rfl (by decide) vs w⟩
instance :Az Tryz.prog 115:=⟨fun vs w=>AK Tryz.func115 rfl (by decide) vs w⟩
instance :Az Tryz.prog 116:=⟨fun vs w=>AK Tryz.func116 rfl (by decide) vs w⟩
instance :Az Tryz.prog 117:=⟨fun vs w=>AK Tryz.func117 rfl (by decide) vs w⟩
instance :Az Tryz.prog 118:=⟨fun vs w=>AK Tryz.func118 rfl (by decide) vs w⟩
instance :Az Tryz.prog 119:=⟨fun vs w=>AK Tryz.func119 rfl (by decide) vs w⟩
instance :Az Tryz.prog 120:=⟨fun vs w=>AK Tryz.func120 rfl (by decide) vs w⟩
instance :Az Tryz.prog 121:=⟨fun vs w=>AK Tryz.func121 rfl (by decide) vs w⟩
instance :Az Tryz.prog 122:=⟨fun vs w=>AK Tryz.func122 rfl (by decide) vs w⟩
instance :Az Tryz.prog 123:=⟨fun vs w=>AK Tryz.func123 rfl (by decide) vs w⟩
instance :Az Tryz.prog 126:=⟨fun vs w=>AK Tryz.func126 rfl (by decide) vs w⟩
instance :Az Tryz.prog 127:=⟨fun vs w=>AK Tryz.func127 rfl (by decide) vs w⟩
instance :Az Tryz.prog 128:=⟨fun vs w=>AK Tryz.func128 rfl (by decide) vs w⟩
instance :Az Tryz.prog 129:=⟨fun vs w=>AK Tryz.func129 rfl (by decide) vs w⟩
instance :Az Tryz.prog 132:=⟨fun vs w=>AK Tryz.func132 rfl (by decide) vs w⟩
instance :Az Tryz.prog 135:=⟨fun vs w=>AK Tryz.func135 rfl (by decide) vs w⟩
instance :Az Tryz.prog 136:=⟨fun vs w=>AK Tryz.func136 rfl (by decide) vs w⟩
instance :Az Tryz.prog 137:=⟨fun vs w=>AK Tryz.func137 rfl (by decide) vs w⟩
instance :Az Tryz.prog 138:=⟨fun vs w=>AK Tryz.func138 rfl (by decide) vs w⟩
instance :Az Tryz.prog 139:=⟨fun vs w=>AK Tryz.func139 rfl (by decide) vs w⟩
instance :Az Tryz.prog 140:=⟨fun vs w=>AK Tryz.func140 rfl (by decide) vs w⟩
instance :Az Tryz.prog 141:=⟨fun vs w=>AK Tryz.func141 rfl (by decide) vs w⟩
instance :Az Tryz.prog 142:=⟨fun vs w=>AK Tryz.func142 rfl (by decide) vs w⟩
instance :Az Tryz.prog 143:=⟨fun vs w=>AK Tryz.func143 rfl (by decide) vs w⟩
instance :Az Tryz.prog 144:=⟨fun vs w=>AK Tryz.func144 rfl (by decide) vs w⟩
instance :Az Tryz.prog 145:=⟨fun vs w=>AK Tryz.func145 rfl (by decide) vs w⟩
instance :Az Tryz.prog 146:=⟨fun vs w=>AK Tryz.func146 rfl (by decide) vs w⟩
instance :Az Tryz.prog 147:=⟨fun vs w=>AK Tryz.func147 rfl (by decide) vs w⟩
instance :Az Tryz.prog 148:=⟨fun vs w=>AK Tryz.func148 rfl (by decide) vs w⟩
instance :Az Tryz.prog 149:=⟨fun vs w=>AK Tryz.func149 rfl (by decide) vs w⟩
instance :Az Tryz.prog 150:=⟨fun vs w=>AK Tryz.func150 rfl (by decide) vs w⟩
instance :Az Tryz.prog 151:=⟨fun vs w=>AK Tryz.func151 rfl (by decide) vs w⟩
instance :Az Tryz.prog 152:=⟨fun vs w=>AK Tryz.func152 rfl (by decide) vs w⟩
instance :Az Tryz.prog 153:=⟨fun vs w=>AK Tryz.func153 rfl (by decide) vs w⟩
instance :Az Tryz.prog 154:=⟨fun vs w=>AK Tryz.func154 rfl (by decide) vs w⟩
instance :Az Tryz.prog 155:=⟨fun vs w=>AK Tryz.func155 rfl (by decide) vs w⟩
instance :Az Tryz.prog 158:=⟨fun vs w=>AK Tryz.func158 rfl (by decide) vs w⟩
instance :Az Tryz.prog 159:=⟨fun vs w=>AK Tryz.func159 rfl (by decide) vs w⟩
instance :Az Tryz.prog 160:=⟨fun vs w=>AK Tryz.func160 rfl (by decide) vs w⟩
instance :Az Tryz.prog 161:=⟨fun vs w=>AK Tryz.func161 rfl (by decide) vs w⟩
instance :Az Tryz.prog 162:=⟨fun vs w=>AK Tryz.func162 rfl (by decide) vs w⟩
instance :Az Tryz.prog 163:=⟨fun vs w=>AK Tryz.func163 rfl (by decide) vs w⟩
instance :Az Tryz.prog 164:=⟨fun vs w=>AK Tryz.func164 rfl (by decide) vs w⟩
instance :Az Tryz.prog 165:=⟨fun vs w=>AK Tryz.func165 rfl (by decide) vs w⟩
instance :Az Tryz.prog 166:=⟨fun vs w=>AK Tryz.func166 rfl (by decide) vs w⟩
instance :Az Tryz.prog 167:=⟨fun vs w=>AK Tryz.func167 rfl (by decide) vs w⟩
instance :Az Tryz.prog 168:=⟨fun vs w=>AK Tryz.func168 rfl (by decide) vs w⟩
instance :Az Tryz.prog 169:=⟨fun vs w=>AK Tryz.func169 rfl (by decide) vs w⟩
instance :Az Tryz.prog 181:=⟨fun vs w=>AK Tryz.func181 rfl (by decide) vs w⟩
instance :Az Tryz.prog 182:=⟨fun vs w=>AK Tryz.func182 rfl (by decide) vs w⟩
instance :Az Tryz.prog 183:=⟨fun vs w=>AK Tryz.func183 rfl (by decide) vs w⟩
instance :Az Tryz.prog 184:=⟨fun vs w=>AK Tryz.func184 rfl (by decide) vs w⟩
instance :Az Tryz.prog 185:=⟨fun vs w=>AK Tryz.func185 rfl (by decide) vs w⟩
instance :Az Tryz.prog 186:=⟨fun vs w=>AK Tryz.func186 rfl (by decide) vs w⟩
instance :Az Tryz.prog 187:=⟨fun vs w=>AK Tryz.func187 rfl (by decide) vs w⟩
instance :Az Tryz.prog 188:=⟨fun vs w=>AK Tryz.func188 rfl (by decide) vs w⟩
instance :Az Tryz.prog 189:=⟨fun vs w=>AK Tryz.func189 rfl (by decide) vs w⟩
instance :Az Tryz.prog 190:=⟨fun vs w=>AK Tryz.func190 rfl (by decide) vs w⟩
instance :Az Tryz.prog 191:=⟨fun vs w=>AK Tryz.func191 rfl (by decide) vs w⟩
instance :Az Tryz.prog 192:=⟨fun vs w=>AK Tryz.func192 rfl (by decide) vs w⟩
instance :Az Tryz.prog 193:=⟨fun vs w=>AK Tryz.func193 rfl (by decide) vs w⟩
instance :Az Tryz.prog 194:=⟨fun vs w=>AK Tryz.func194 rfl (by decide) vs w⟩
instance :Az Tryz.prog 195:=⟨fun vs w=>AK Tryz.func195 rfl (by decide) vs w⟩
instance :Az Tryz.prog 196:=⟨fun vs w=>AK Tryz.func196 rfl (by decide) vs w⟩
instance :Az Tryz.prog 197:=⟨fun vs w=>AK Tryz.func197 rfl (by decide) vs w⟩
instance :Az Tryz.prog 198:=⟨fun vs w=>AK Tryz.func198 rfl (by decide) vs w⟩
instance :Az Tryz.prog 199:=⟨fun vs w=>AK Tryz.func199 rfl (by decide) vs w⟩
instance :Az Tryz.prog 200:=⟨fun vs w=>AK Tryz.func200 rfl (by decide) vs w⟩
instance :Az Tryz.prog 201:=⟨fun vs w=>AK Tryz.func201 rfl (by decide) vs w⟩
instance :Az Tryz.prog 202:=⟨fun vs w=>AK Tryz.func202 rfl (by decide) vs w⟩
instance :Az Tryz.prog 203:=⟨fun vs w=>AK Tryz.func203 rfl (by decide) vs w⟩
instance :Az Tryz.prog 204:=⟨fun vs w=>AK Tryz.func204 rfl (by decide) vs w⟩
instance :Az Tryz.prog 205:=⟨fun vs w=>AK Tryz.func205 rfl (by decide) vs w⟩
instance :Az Tryz.prog 206:=⟨fun vs w=>AK Tryz.func206 rfl (by decide) vs w⟩
instance :Az Tryz.prog 207:=⟨fun vs w=>AK Tryz.func207 rfl (by decide) vs w⟩
instance :Az Tryz.prog 208:=⟨fun vs w=>AK Tryz.func208 rfl (by decide) vs w⟩
instance :Az Tryz.prog 209:=⟨fun vs w=>AK Tryz.func209 rfl (by decide) vs w⟩
instance :Az Tryz.prog 210:=⟨fun vs w=>AK Tryz.func210 rfl (by decide) vs w⟩
instance :Az Tryz.prog 211:=⟨fun vs w=>AK Tryz.func211 rfl (by decide) vs w⟩
instance :Az Tryz.prog 212:=⟨fun vs w=>AK Tryz.func212 rfl (by decide) vs w⟩
instance :Az Tryz.prog 215:=⟨fun vs w=>AK Tryz.func215 rfl (by decide) vs w⟩
instance :Az Tryz.prog 216:=⟨fun vs w=>AK Tryz.func216 rfl (by decide) vs w⟩
instance :Az Tryz.prog 217:=⟨fun vs w=>AK Tryz.func217 rfl (by decide) vs w⟩
instance :Az Tryz.prog 218:=⟨fun vs w=>AK Tryz.func218 rfl (by decide) vs w⟩
instance :Az Tryz.prog 219:=⟨fun vs w=>AK Tryz.func219 rfl (by decide) vs w⟩
instance :Az Tryz.prog 220:=⟨fun vs w=>AK Tryz.func220 rfl (by decide) vs w⟩
instance :Az Tryz.prog 221:=⟨fun vs w=>AK Tryz.func221 rfl (by decide) vs w⟩
instance :Az Tryz.prog 222:=⟨fun vs w=>AK Tryz.func222 rfl (by decide) vs w⟩
instance :Az Tryz.prog 223:=⟨fun vs w=>AK Tryz.func223 rfl (by decide) vs w⟩
instance :Az Tryz.prog 229:=⟨fun vs w=>AK Tryz.func229 rfl (by decide) vs w⟩
instance :Az Tryz.prog 230:=⟨fun vs w=>AK Tryz.func230 rfl (by decide) vs w⟩
instance :Az Tryz.prog 231:=⟨fun vs w=>AK Tryz.func231 rfl (by decide) vs w⟩
instance :Az Tryz.prog 232:=⟨fun vs w=>AK Tryz.func232 rfl (by decide) vs w⟩
instance :Az Tryz.prog 233:=⟨fun vs w=>AK Tryz.func233 rfl (by decide) vs w⟩
instance :Az Tryz.prog 234:=⟨fun vs w=>AK Tryz.func234 rfl (by decide) vs w⟩
instance :Az Tryz.prog 235:=⟨fun vs w=>AK Tryz.func235 rfl (by decide) vs w⟩
instance :Az Tryz.prog 236:=⟨fun vs w=>AK Tryz.func236 rfl (by decide) vs w⟩
instance :Az Tryz.prog 237:=⟨fun vs w=>AK Tryz.func237 rfl (by decide) vs w⟩
instance :Az Tryz.prog 238:=⟨fun vs w=>AK Tryz.func238 rfl (by decide) vs w⟩
instance :Az Tryz.prog 239:=⟨fun vs w=>AK Tryz.func239 rfl (by decide) vs w⟩
instance :Az Tryz.prog 240:=⟨fun vs w=>AK Tryz.func240 rfl (by decide) vs w⟩
instance :Az Tryz.prog 241:=⟨fun vs w=>AK Tryz.func241 rfl (by decide) vs w⟩
instance :Az Tryz.prog 242:=⟨fun vs w=>AK Tryz.func242 rfl (by decide) vs w⟩
instance :Az Tryz.prog 243:=⟨fun vs w=>AK Tryz.func243 rfl (by decide) vs w⟩
instance :Az Tryz.prog 244:=⟨fun vs w=>AK Tryz.func244 rfl (by decide) vs w⟩
instance :Az Tryz.prog 245:=⟨fun vs w=>AK Tryz.func245 rfl (by decide) vs w⟩
instance :Az Tryz.prog 246:=⟨fun vs w=>AK Tryz.func246 rfl (by decide) vs w⟩
instance :Az Tryz.prog 247:=⟨fun vs w=>AK Tryz.func247 rfl (by decide) vs w⟩
instance :Az Tryz.prog 248:=⟨fun vs w=>AK Tryz.func248 rfl (by decide) vs w⟩
instance :Az Tryz.prog 249:=⟨fun vs w=>AK Tryz.func249 rfl (by decide) vs w⟩
instance :Az Tryz.prog 250:=⟨fun vs w=>AK Tryz.func250 rfl (by decide) vs w⟩
instance :Az Tryz.prog 251:=⟨fun vs w=>AK Tryz.func251 rfl (by decide) vs w⟩
instance :Az Tryz.prog 252:=⟨fun vs w=>AK Tryz.func252 rfl (by decide) vs w⟩
instance :Az Tryz.prog 253:=⟨fun vs w=>AK Tryz.func253 rfl (by decide) vs w⟩
instance :Az Tryz.prog 254:=⟨fun vs w=>AK Tryz.func254 rfl (by decide) vs w⟩
instance :Az Tryz.prog 255:=⟨fun vs w=>AK Tryz.func255 rfl (by decide) vs w⟩
instance :Az Tryz.prog 256:=⟨fun vs w=>AK Tryz.func256 rfl (by decide) vs w⟩
instance :Az Tryz.prog 257:=⟨fun vs w=>AK Tryz.func257 rfl (by decide) vs w⟩
instance :Az Tryz.prog 258:=⟨fun vs w=>AK Tryz.func258 rfl (by decide) vs w⟩
instance :Az Tryz.prog 259:=⟨fun vs w=>AK Tryz.func259 rfl (by decide) vs w⟩
instance :Az Tryz.prog 260:=⟨fun vs w=>AK Tryz.func260 rfl (by decide) vs w⟩
instance :Az Tryz.prog 261:=⟨fun vs w=>AK Tryz.func261 rfl (by decide) vs w⟩
instance :Az Tryz.prog 262:=⟨fun vs w=>AK Tryz.func262 rfl (by decide) vs w⟩
instance :Az Tryz.prog 263:=⟨fun vs w=>AK Tryz.func263 rfl (by decide) vs w⟩
instance :Az Tryz.prog 273:=⟨fun vs w=>AK Tryz.func273 rfl (by decide) vs w⟩
instance :Az Tryz.prog 274:=⟨fun vs w=>AK Tryz.func274 rfl (by decide) vs w⟩
instance :Az Tryz.prog 275:=⟨fun vs w=>AK Tryz.func275 rfl (by decide) vs w⟩
instance :Az Tryz.prog 276:=⟨fun vs w=>AK Tryz.func276 rfl (by decide) vs w⟩
instance :Az Tryz.prog 277:=⟨fun vs w=>AK Tryz.func277 rfl (by decide) vs w⟩
instance :Az Tryz.prog 278:=⟨fun vs w=>AK Tryz.func278 rfl (by decide) vs w⟩
instance :Az Tryz.prog 279:=⟨fun vs w=>AK Tryz.func279 rfl (by decide) vs w⟩
instance :Az Tryz.prog 280:=⟨fun vs w=>AK Tryz.func280 rfl (by decide) vs w⟩
instance :Az Tryz.prog 281:=⟨fun vs w=>AK Tryz.func281 rfl (by decide) vs w⟩
instance :Az Tryz.prog 282:=⟨fun vs w=>AK Tryz.func282 rfl (by decide) vs w⟩
instance :Az Tryz.prog 284:=⟨fun vs w=>AK Tryz.func284 rfl (by decide) vs w⟩
instance :Az Tryz.prog 285:=⟨fun vs w=>AK Tryz.func285 rfl (by decide) vs w⟩
instance :Az Tryz.prog 286:=⟨fun vs w=>AK Tryz.func286 rfl (by decide) vs w⟩
instance :Az Tryz.prog 287:=⟨fun vs w=>AK Tryz.func287 rfl (by decide) vs w⟩
instance :Az Tryz.prog 288:=⟨fun vs w=>AK Tryz.func288 rfl (by decide) vs w⟩
instance :Az Tryz.prog 289:=⟨fun vs w=>AK Tryz.func289 rfl (by decide) vs w⟩
instance :Az Tryz.prog 290:=⟨fun vs w=>AK Tryz.func290 rfl (by decide) vs w⟩
instance :Az Tryz.prog 291:=⟨fun vs w=>AK Tryz.func291 rfl (by decide) vs w⟩
instance :Az Tryz.prog 292:=⟨fun vs w=>AK Tryz.func292 rfl (by decide) vs w⟩
instance :Az Tryz.prog 293:=⟨fun vs w=>AK Tryz.func293 rfl (by decide) vs w⟩
instance :Az Tryz.prog 294:=⟨fun vs w=>AK Tryz.func294 rfl (by decide) vs w⟩
instance :Az Tryz.prog 298:=⟨fun vs w=>AK Tryz.func298 rfl (by decide) vs w⟩
instance :Az Tryz.prog 299:=⟨fun vs w=>AK Tryz.func299 rfl (by decide) vs w⟩
instance :Az Tryz.prog 300:=⟨fun vs w=>AK Tryz.func300 rfl (by decide) vs w⟩
instance :Az Tryz.prog 303:=⟨fun vs w=>AK Tryz.func303 rfl (by decide) vs w⟩
instance :Az Tryz.prog 305:=⟨fun vs w=>AK Tryz.func305 rfl (by decide) vs w⟩
theorem ble {a b:Nat} (h:Nat.ble a b=true):a≤b:=Gg h
theorem Tr:Dr Tryz.prog 3 (fun xs=> ∃ n,(Lit.int .i64 n).wf=true∧xs= [.raw (.int .i64 n)]):=fj (by kernel_rfl)
theorem tz:Dr Tryz.prog 4 (fun xs=> ∃ b,xs=eB b):=ba (by kernel_rfl)
theorem Tq:Dr Tryz.prog 9 (fun xs=> ∃ s,xs=eS s):=fi (by kernel_rfl)
theorem dh:Dr Tryz.prog 31 (fun xs=> ∃ d,xs=eDig d):=fk (e:=5) (by kernel_rfl) (by kernel_rfl) (by kernel_rfl) (by kernel_rfl)
theorem kY:Dr Tryz.prog 65 (fun xs=> ∃ x,xs=eIdent x):=
 Dr.to (HR (n:=33) (r:= [(31,0),(3,32)]) (by kernel_rfl) (by kernel_rfl) (.cons 32 (by kernel_rfl) dh (.cons 1 (by kernel_rfl) Tr (.nil _))))
  fun xs ⟨_,.cons ⟨d,e0⟩ (.cons ⟨n,_,e1⟩ .nil),e⟩=>⟨⟨d,n⟩,by subst e0 e1 e;simp[eIdent]⟩
theorem tv:Dr Tryz.prog 70 (fun xs=> ∃ l:List Str,xs= [.slice (l.map eS) .ro]):=Dr.list Tq (fun _=>rfl) (by kernel_rfl) (by kernel_rfl) rfl (by decide) (ble (by kernel_rfl))
theorem xU:Dr Tryz.prog 71 (fun xs=> ∃ l:List Ident,xs= [.slice (l.map eIdent) .ro]):=Dr.list (sz:=33) kY (fun _=>by simp) (by kernel_rfl) (by kernel_rfl) rfl (by decide) (ble (by kernel_rfl))
theorem kZ:Dr Tryz.prog 24 (fun xs=> ∃ l:List Dig,xs= [.slice (l.map eDig) .ro]):=Dr.list (sz:=32) dh (fun _=>by simp) (by kernel_rfl) (by kernel_rfl) rfl (by decide) (ble (by kernel_rfl))
theorem yk:Dr Tryz.prog 161 (fun xs=> ∃ l:List Bool,xs= [.slice (l.map eB) .ro]):=Dr.list tz (fun _=>rfl) (by kernel_rfl) (by kernel_rfl) rfl (by decide) (ble (by kernel_rfl))
theorem xV:Dr Tryz.prog 73 (fun xs=> ∃ c,xs=eChg c):=
 Dr.to (HR (n:=139) (r:= [(3,0),(65,1),(3,34),(65,35),(9,68),(3,69),(9,70),(65,71),(65,104),(70,137),(71,138)]) (by kernel_rfl) (by kernel_rfl)
  (.cons 1 (by kernel_rfl) Tr (.cons 33 (by kernel_rfl) kY (.cons 1 (by kernel_rfl) Tr (.cons 33 (by kernel_rfl) kY (.cons 1 (by kernel_rfl) Tq (.cons 1 (by kernel_rfl) Tr (.cons 1 (by kernel_rfl) Tq (.cons 33 (by kernel_rfl) kY (.cons 33 (by kernel_rfl) kY (.cons 1 (by kernel_rfl) tv (.cons 1 (by kernel_rfl) xU (.nil _)))))))))))))
  fun xs ⟨yss,h,e⟩=>by
   rcases h with _|⟨⟨a0,_,e0⟩,h⟩
   rcases h with _|⟨⟨a1,e1⟩,h⟩
   rcases h with _|⟨⟨a2,_,e2⟩,h⟩
   rcases h with _|⟨⟨a3,e3⟩,h⟩
   rcases h with _|⟨⟨a4,e4⟩,h⟩
   rcases h with _|⟨⟨a5,_,e5⟩,h⟩
   rcases h with _|⟨⟨a6,e6⟩,h⟩
   rcases h with _|⟨⟨a7,e7⟩,h⟩
   rcases h with _|⟨⟨a8,e8⟩,h⟩
   rcases h with _|⟨⟨a9,e9⟩,h⟩
   rcases h with _|⟨⟨a10,e10⟩,h⟩
   cases h
   exact⟨⟨a0,a1,a2,a3,a4,a5,a6,a7,a8,a9,a10⟩,by subst e0 e1 e2 e3 e4 e5 e6 e7 e8 e9 e10 e;simp[eChg,eS]⟩
theorem tx:Dr Tryz.prog 38 (fun xs=> ∃ l:List Chg,xs= [.slice (l.map eChg) .ro]):=Dr.list (sz:=139) xV (fun _=>by simp) (by kernel_rfl) (by kernel_rfl) rfl (by decide) (ble (by kernel_rfl))
theorem xT:Dr Tryz.prog 40 (fun xs=> ∃ c,xs=Bz c):=
 Dr.to (HR (n:=5) (r:= [(9,0),(9,1),(3,2),(24,3),(38,4)]) (by kernel_rfl) (by kernel_rfl)
  (.cons 1 (by kernel_rfl) Tq (.cons 1 (by kernel_rfl) Tq (.cons 1 (by kernel_rfl) Tr (.cons 1 (by kernel_rfl) kZ (.cons 1 (by kernel_rfl) tx (.nil _)))))))
  fun xs ⟨_,.cons ⟨a0,e0⟩ (.cons ⟨a1,e1⟩ (.cons ⟨a2,_,e2⟩ (.cons ⟨a3,e3⟩ (.cons ⟨a4,e4⟩ .nil)))),e⟩=>⟨⟨a0,a1,a2,a3,a4⟩,by subst e0 e1 e2 e3 e4 e;simp[Bz,eS]⟩
theorem xQ:Dr Tryz.prog 59 (fun xs=> ∃ c,xs=eSto c):=
 Dr.to (HR (n:=37) (r:= [(31,0),(40,32)]) (by kernel_rfl) (by kernel_rfl) (.cons 32 (by kernel_rfl) dh (.cons 5 (by kernel_rfl) xT (.nil _))))
  fun xs ⟨_,.cons ⟨a0,e0⟩ (.cons ⟨a1,e1⟩ .nil),e⟩=>⟨⟨a0,a1⟩,by subst e0 e1 e;simp[eSto]⟩
theorem xR:Dr Tryz.prog 23 (fun xs=> ∃ l:List Sto,xs= [.slice (l.map eSto) .ro]):=Dr.list (sz:=37) xQ (fun _=>by simp) (by kernel_rfl) (by kernel_rfl) rfl (by decide) (ble (by kernel_rfl))
set_option maxRecDepth 20000 in
theorem WC {t e:Nat} {W:World} {base:Nat} {v:Value} {g:Gh} {x:PV} (ht:Tryz.prog.underlying t=some (.slice e)) (hv:Value.okWide Tryz.prog W .any base t v) (h:EB g v.cells.toList [x]):VR g v x:=by
 have:v.cells= #[v]:=by
  unfold Value.okWide at hv
  rw[ht]at hv
  simp only[Cell.okWide,ht]at hv
  cases v<;>simp[Cell.ok,ht]at hv<;>rfl
 rw[this]at h
 exact h.uncons.1
set_option maxRecDepth 20000 in
theorem XR {W:World} (h:laidMetH Tryz.prog [("math/bits.deBruijn32tab",YtaibdmankdppkaaGreatDoor.Rows.laid_math_bits_deBruijn32tab),("math/bits.deBruijn64tab",YtaibdmankdppkaaGreatDoor.Rows.laid_math_bits_deBruijn64tab),("internal/strconv.uint64pow10",YtaibdmankdppkaaGreatDoor.Rows.laid_internal_strconv_uint64pow10)] W):
  ∃ T p,W.heap[globAt]? =some (.cells pow10Tab.toArray T p):=by
 rw[MakeChecks.laidMetH_plain _ _ _ (by kernel_rfl)]at h
 obtain⟨ps,⟨_,_,_,_,_,_,_,_,_,_,⟨_,_,_,_,_,_,_,_,_,_,⟨g2,t2,cs2,f2,p2,q2,hg2,ht2,hv2,hd2,_,_⟩,_⟩,_⟩,_,_⟩:=h
 have e1:Tryz.prog.globalNamed "internal/strconv.uint64pow10" =some globAt:=by kernel_rfl
 obtain rfl:=CN (e1.symm.trans hg2)
 have e2:(Tryz.prog.globals[globAt]?).map (·.type)=some 315:=by kernel_rfl
 obtain rfl:=CN (e2.symm.trans ht2)
 obtain⟨xs,m,rfl,hx,k1,k2,k3⟩:=DataW.trod_array (n:=20) (e:=214) (by kernel_rfl) hd2
 have hce:Tryz.prog.cellsOf 214=1:=by kernel_rfl
 have hct:Tryz.prog.cellsOf 315=20:=by kernel_rfl
 have hlaid:(YtaibdmankdppkaaGreatDoor.Rows.laid_internal_strconv_uint64pow10:DataW Unit)= .agg ((List.range 20).map fun i=> .lit (.int .u64 (10 ^ i))):=rfl
 rw[hct]at k1
 have hxs:xs.map (·.1)=(List.range 20).map fun i=> .lit (.int .u64 (10 ^ i)):=by
  have h1:=(Prod.mk.inj hx).1
  rw[hlaid]at h1
  exact(DataW.agg.inj h1).symm
 have key:cs2.toList=pow10Tab:=by
  refine EA (by rw[k1];rfl) fun i h1 h2=>?_
  have hi:i < 20:=by omega
  have h3:=k3 i hi
  have hix:i < xs.length:=by omega
  rw[AO hix,hce,IH]at h3
  obtain⟨n,f1,f2,_⟩:=DataW.trod_int (k:= .u64) (by kernel_rfl) h3
  have f3:(cs2.toList.drop i).take 1= [cs2.toList[i]]:=by
   rw[CH h1];rfl
  rw[f3]at f1
  simp only[OQ,and_true]at f1
  have f4:(xs.map (·.1))[i]'(by simpa using hix)= .lit (.int .u64 n):=by simp[f2]
  have f5:(xs.map (·.1))[i]'(by simpa using hix)= .lit (.int .u64 (10 ^ i)):=by
   have:=Kp hxs (i:=i) (by simpa using hix)
   rw[this];simp
  rw[f4]at f5
  have f6:=(Lit.int.inj (DataW.lit.inj f5)).2
  rw[f1,f6]
  simp[pow10Tab]
 simp only[World.var?,hg2,GW]at hv2
 split at hv2
 ·rename_i cs T p hh
  cases hv2
  refine⟨T,p,?_⟩
  rw[hh,←key]
 ·cases hv2
def dt:List (String × DataW Unit):= [("math/bits.deBruijn32tab",YtaibdmankdppkaaGreatDoor.Rows.laid_math_bits_deBruijn32tab),("math/bits.deBruijn64tab",YtaibdmankdppkaaGreatDoor.Rows.laid_math_bits_deBruijn64tab),("internal/strconv.uint64pow10",YtaibdmankdppkaaGreatDoor.Rows.laid_internal_strconv_uint64pow10)]
theorem own:ownKnob Tryz.prog.godebug=none:=by kernel_rfl
theorem lZ (os:Os) (args:Array Value):laidMetH Tryz.prog dt ((World.doorLaid Tryz.prog 400 os).forCall (fun _ _=>0) ⟨#[],args,[]⟩).memory:=
 laidMetH_of_parts3 (fuel:=8) (laidMet_of_run' 8 (by kernel_rfl) (by kernel_rfl)) (by kernel_rfl) (by kernel_rfl)
theorem Zy (os:Os) (args:Array Value):((World.doorLaid Tryz.prog 400 os).forCall (fun _ _=>0) ⟨#[],args,[]⟩).Shaped Tryz.checked.prog:=World.shaped_of_RefB (by kernel_rfl) (by kernel_rfl)
end Go.Proofs
namespace Go.Proofs
open Go Go.Q Go.ChangeShapes Go.WideShapes Go.ChangeAt Go.WideMaps Go.WideElems Go.RowKit
theorem sj {W':World} {f:Func} (hr:f.resultTypes= #[4]) {H:Type} {enc:TypeId × Value→H} (b:Nat) (sp:Nat→Bool) (hd:Bool):DataW.TrodAll enc Tryz.prog W' b sp hd f.resultTypes.toList ((Value.bool true).resultList f.resultTypes.size) [.lit (.bool true)] []:=by
 rw[hr]
 exact trodAll_mk1 (shut_bool (by kernel_rfl) _)
set_option maxRecDepth 20000 in
theorem qS {t:Nat} {W:World} {base:Nat} {v:Value} {g:Gh} {cs:List PV} (ht:(match Tryz.prog.underlying t with|some (.struct _)|some (.array _ _)=>true|_=>false)=true) (hv:Value.okWide Tryz.prog W .any base t v) (h:EB g v.cells.toList cs):VR g v (.agg cs):=by
 unfold Value.okWide at hv
 split at hv
 ·obtain⟨vs,rfl,_⟩:=hv
  have:VR g (.agg vs.toList.toArray) (.agg cs):=EB.agg h
  simpa using this
 ·obtain⟨vs,rfl,_⟩:=hv
  have:VR g (.agg vs.toList.toArray) (.agg cs):=EB.agg h
  simpa using this
 ·rename_i h1 h2
  split at ht
  ·rename_i fs hu;exact absurd hu (h1 fs)
  ·rename_i n e hu;exact absurd hu (h2 n e)
  ·cases ht
set_option maxRecDepth 20000 in
theorem yE {t:Nat} {W:World} {base:Nat} {v:Value} {g:Gh} {b:Bool} (ht:Tryz.prog.underlying t=some .bool) (hv:Value.okWide Tryz.prog W .any base t v) (h:EB g v.cells.toList (eB b)):VR g v (.raw (.bool b)):=by
 have:v.cells= #[v]:=by
  unfold Value.okWide at hv
  rw[ht]at hv
  simp only[Cell.okWide,ht]at hv
  cases v<;>simp[Cell.ok,ht]at hv<;>rfl
 rw[this]at h
 exact h.uncons.1
end Go.Proofs
namespace Go.Q
open Go
def kIdent (x:Ident):PV:= .agg (eIdent x)
theorem gl {P:Program} {K:Nat} (hT: ∃ E i,P.underlying K=some (.array 32 E)∧P.underlying E=some (.int .u8)∧P.info? E=some i∧i.size=1) (b:Bool) (n:Nat) (k:Dig) (w:World):(Instr.checkKey b (n+2) K (.agg (k.bs.map u8).toArray)).run P w= .ok () w:=by
 obtain⟨E,i,h1,h2,h3,h4⟩:=hT
 rw[Instr.checkKey]
 simp only[Sem.run_bind,run_underlying h1,Result.andThen_ok]
 simp only[Std.Legacy.Range.forIn_eq_forIn_range',Std.Legacy.Range.size,iK,Nat.add_one_sub_one,Nat.div_one]
 have each: ∀ j∈List.range' 0 32,j < 32:=fun j hj=>by simpa using hj
 generalize List.range' 0 32=is at each
 induction is with
 |nil=>simp
 |cons j is ih=>
  have hj:=each j (by simp)
  have hlt:j < k.bs.length:=by rw[k.len];exact hj
  have p0:(sizeOf E).run P w= .ok 1 w:=by unfold sizeOf typeInfo;simp[h3,h4]
  have p1:(part E (k.bs.map u8).toArray (j*1)).run P w= .ok (u8 k.bs[j]) w:=Gl (Lk h2) (by simp[hlt]) w
  have p2:(Instr.checkKey b (n+1) E (u8 k.bs[j])).run P w= .ok () w:=by rw[Instr.checkKey];simp[run_underlying h2,u8]
  simp only[List.forIn_cons,Sem.run_bind,p0,Result.andThen_ok,p1,p2,Sem.run_pure]
  exact ih (fun y hy=>each y (by simp[hy]))
theorem UJ {P:Program} {K:Nat} [hT:LV P K] (k:Ident) (w:World): ∀ (es:List MapEntry) (l:List Ident) (n:Nat),es.length=l.length→
  (∀ i (h:i < es.length) (h':i < l.length),es[i].key= .agg (l[i].patch.bs.map u8++ [Value.int .i64 l[i].n]).toArray)→
  (Instr.findAsking K (.agg (k.patch.bs.map u8++ [Value.int .i64 k.n]).toArray) es n).run P w= .ok ((Gy k l).bind fun i=>(es[i]?).map fun e=>(n+i,e.val)) w
 | [],[],n,_,_=>by simp[Instr.findAsking,Gy]
 | [],_::_,_,h,_=>by simp at h
 |_::_,[],_,h,_=>by simp at h
 |e::es,a::l,n,h,hk=>by
  have h0:=hk 0 (by simp) (by simp)
  simp only[BJ]at h0
  unfold Instr.findAsking
  simp only[Sem.run_bind,Op.equal,h0,Op.maxDepth,Jt 9997,Result.andThen_ok]
  by_cases e1:k=a
  ·subst e1
   simp[Gy]
  ·have d1:decide (k=a)=false:=by simp[e1]
   simp only[d1,BT,if_false]
   rw[UJ k w es l (n+1) (by simpa using h) (fun i h1 h2=>by have:=hk (i+1) (by simpa using h1) (by simpa using h2);simpa using this)]
   simp only[Gy,e1,if_false]
   rw[Ps]
   congr 1
   cases Gy k l with
   |none=>rfl
   |some j=>simp only[GW];congr 1;funext e;rw[E7,Jn 1]
theorem ZS {P:Program} {K:Nat} [hT:LV P K]:aO P K kIdent where
 check:=fun b g v k w hv=>by
  obtain⟨D,I,h1,h2,⟨i,h3,h3'⟩,h4⟩:=hT.str
  rw[Gb hv,show(10000:Nat)=9999+1 from rfl,Instr.checkKey]
  simp only[Sem.run_bind,run_underlying hT.und,Result.andThen_ok,h1]
  have hagg:iJ P D 32:=by obtain⟨E,j,e1,_⟩:=h4;exact⟨.inr ⟨32,E,e1⟩,i,h3,h3'⟩
  have pD:(part D (k.patch.bs.map u8++ [Value.int .i64 k.n]).toArray 0).run P w= .ok (.agg (k.patch.bs.map u8).toArray) w:=by
   obtain⟨q1,q2⟩:=Ot hagg w
   unfold part
   simp only[Sem.run_bind,q1,Result.andThen_ok,if_true,q2,Sem.run_pure]
   congr 2
   simp[k.patch.len]
  have pI:(part I (k.patch.bs.map u8++ [Value.int .i64 k.n]).toArray 32).run P w= .ok (.int .i64 k.n) w:=Gl (Lk h2) (by simp[k.patch.len]) w
  have c1:(Instr.checkKey b 9999 D (.agg (k.patch.bs.map u8).toArray)).run P w= .ok () w:=gl h4 b 9997 k.patch w
  have c2:(Instr.checkKey b 9999 I (.int .i64 k.n)).run P w= .ok () w:=by rw[show(9999:Nat)=9998+1 from rfl,Instr.checkKey];simp[run_underlying h2]
  simp[pD,pI,c1,c2]
 find:=fun g v k es l w hv hl hk=>by
  rw[Gb hv,run_findKey_eq w (by rw[hT.und]),UJ k w es l 0 hl (fun i h h'=>Gb (hk i h h'))]
  simp
 same:=fun g u v k hu hv=>by
  rw[Gb hu,Gb hv,show(10000:Nat)=9999+1 from rfl,Instr.sameBits]
  have:=Mg k.patch.bs
  simp[List.zip_append,Instr.sameBits]at this ⊢
  exact this
instance {P:Program} {K:Nat} [LV P K]:SB P K kIdent:=⟨ZS⟩
instance (x:Ident):NJ (.agg (eIdent x)) kIdent x:=⟨.refl _⟩
end Go.Q
namespace Go.Proofs
open Go Go.Q
attribute [local irreducible] ER AV BA Fc
instance vG (a b:Dig):CB Tryz.prog 87 [.agg (eDig a),.agg (eDig b)] (.raw (.int .i64 (Ep a b))):=⟨by
 refine Au Tryz.func87 Tryz.ntmps87 rfl (rs:= [.tmp 4]) rfl rfl fun hb LF=>?_
 refine DQ fun p=>?_
 refine Fh fun q=>?_
 refine Ad (σ:=Nat) (fun k=>k≤32∧ ∀ i,i < k→a.at i=b.at i) (fun k=>32 - k) (fun k=> [(2,.raw (.pointer (some ⟨p,0,none⟩))),(3,.raw (.pointer (some ⟨q,0,none⟩))),(5,.raw (.int .i64 k))]) (fun _=> .box q 31 (eDig b):: .box p 31 (eDig a)::LF) 0 ⟨by simp,by simp⟩ ⟨rfl,rfl,rfl⟩ (.refl _) ?_
 rintro k ⟨hk,he⟩
 refine AX ?_
 refine A6 (fun hc=>?_) (fun hc=>?_)
 ·refine AX ?_
  refine A6 (fun h1=>?_) (fun h1=>?_)
  ·refine AX ?_
   refine B2 (.of_eq ?_)
   have h2:a.at k < b.at k:=by rw[UInt8.lt_iff_toNat_lt];omega
   rw[eY (by omega) he (fun e=>by rw[e]at h2;exact UInt8.lt_irrefl _ h2),if_pos h2]
  ·refine AX ?_
   refine A6 (fun h2=>?_) (fun h2=>?_)
   ·refine AX ?_
    refine B2 (.of_eq ?_)
    have h3: ¬a.at k < b.at k:=by rw[UInt8.lt_iff_toNat_lt];omega
    rw[eY (by omega) he (fun e=>by rw[e]at h2;omega),if_neg h3]
   ·refine AX ?_
    refine⟨k+1,⟨by omega,fun i hi=>?_⟩,by dsimp only;omega,⟨rfl,rfl,rfl⟩,.refl _⟩
    rcases B9 i k with h'|h'
    ·exact he i h'
    ·have:i=k:=by omega
     subst this
     exact UInt8.toNat.inj (by omega)
 ·refine AX ?_
  refine B2 (.of_eq ?_)
  rw[ML.2 (Dig.ext_at fun i hi=>he i (by omega))]⟩
instance yU (a:Dig):CB Tryz.prog 132 [.agg (eDig a)] (.raw (.bool (decide (a=Dig.zero)))):=⟨by
 refine Au Tryz.func132 Tryz.ntmps132 rfl (rs:= [.tmp 2]) rfl rfl fun hb LF=>?_
 refine DQ fun p=>?_
 exact⟨trivial,_,[],.cons (.tmp 2) .nil,.cons _ (.refl _),.refl _,rfl⟩⟩
end Go.Proofs
