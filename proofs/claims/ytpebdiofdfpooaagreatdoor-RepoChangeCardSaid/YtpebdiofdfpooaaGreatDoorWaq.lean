/- The small logic: what a statement's inputs are: from the data that a row speaks of to forms. Library, no statement of its own. -/
import Derived.Test.YtpebdiofdfpooaaGreatDoorWam
import Derived.ProofKit
import Derived.SizedLaws
import Derived.OpenShut
import Derived.Test.YtpebdiofdfpooaaGreatDoorWap
import Derived.Test.YtpebdiofdfpooaaGreatDoorWan
import Derived.Test.YtpebdiofdfpooaaGreatDoorWal
import Derived.Test.YtpebdiofdfpooaaGreatDoorWao
set_option linter.unusedSimpArgs false
set_option linter.unusedVariables false
set_option maxHeartbeats 8000000
namespace Go.Q
open Go
theorem ei {w:World} {b o s:Nat}:w.cell? ⟨b,o,some s⟩=none:=by
 unfold World.cell?
 split<;>simp
def DZ (P:Program) (t:Nat) (F:List PV→Prop):Prop:=
 ∀ (H:Type) (enc:TypeId × Value→H) (w:World) (g:Gh),(∀ b o v,w.cell? ⟨b,o,none⟩=some v→g.H b o=some v)→ ∀ (base:Nat) (held:Bool) (fuel:Nat) (cs:List Value) (x:DataW H × List MemPlace),
   DataW.trod enc P w base (fun _=>true) held fuel t cs=some x→(∀ n∈x.1.weights P t,n≤reachBytes)→ ∃ xs,F xs∧E5 g cs xs
theorem DZ.to {P:Program} {t:Nat} {F G:List PV→Prop} (h:DZ P t F) (hg: ∀ xs,F xs→G xs):DZ P t G:=fun H enc w g hc base held fuel cs x ht hw=>by
 obtain⟨xs,h1,h2⟩:=h H enc w g hc base held fuel cs x ht hw
 exact⟨xs,hg xs h1,h2⟩
theorem du {P:Program} {t:Nat} {k:IntKind} (ht:P.underlying t=some (.int k)):DZ P t (fun xs=> ∃ n,(Lit.int k n).wf=true∧xs= [.raw (.int k n)]):=fun H enc w g hc base held fuel cs x h hw=>by
 obtain⟨n,rfl,rfl,h1⟩:=DataW.trod_int ht h
 exact⟨_,⟨n,h1,rfl⟩,.cons (.raw _) (.nil g)⟩
theorem Zz {P:Program} {t:Nat} (ht:P.underlying t=some .bool):DZ P t (fun xs=> ∃ b,xs= [.raw (.bool b)]):=fun H enc w g hc base held fuel cs x h hw=>by
 obtain⟨b,rfl,rfl⟩:=DataW.trod_bool ht h
 exact⟨_,⟨b,rfl⟩,.cons (.raw _) (.nil g)⟩
theorem dt {P:Program} {t:Nat} (ht:P.underlying t=some .string):DZ P t (fun xs=> ∃ s,xs= [.str s]):=fun H enc w g hc base held fuel cs x h hw=>by
 obtain⟨s,rfl,rfl,h1⟩:=DataW.trod_string ht h
 have h2:s.data.toList.length≤maxN:=by
  have:=hw s.data.toList.length (by simp[DataW.weights])
  have h3:=reachBytes_lt
  unfold maxN;omega
 refine⟨_,⟨s.data.toList,rfl⟩,.cons ?_ (.nil g)⟩
 have:=VR.str (g:=g) h2
 simpa using this
theorem PB {H:Type} {P:Program} {e:Nat}: ∀ {l:List (DataW H)} {d:DataW H},d∈l→ ∀ n∈d.weights P e,n∈DataW.weightsAll P e l
 |x::l,d,hd,n,hn=>by
  simp only[DataW.weightsAll,Ay]
  rcases AI.1 hd with rfl|hd
  ·exact .inl hn
  ·exact .inr (PB hd n hn)
theorem YG {P:Program} {t e sz by_:Nat} {F:List PV→Prop} (ht:P.underlying t=some (.slice e)) (hc:P.cellsOf e=sz) (hb:P.bytesOf e=by_) (h0:0 < sz) (hsb:sz≤by_) (hF: ∀ ys,F ys→ys.length=sz) (h:DZ P e F):
  DZ P t (fun xs=> ∃ yss:List (List PV),(∀ ys∈yss,F ys)∧xs= [.slice yss .ro]):=fun H enc w g hg base held fuel cs x hx hw=>by
 rcases DataW.trod_slice ht hx with ⟨rfl,rfl⟩|⟨a,len,cap,elems,rest,n,rfl,rfl,rfl,h1,h2,h3,h4,h5,h6,h7⟩
 ·exact⟨_,⟨[],by simp,rfl⟩,.cons .nilR (.nil g)⟩
 subst hc
 have hwe: ∀ y∈elems,∀ n∈y.1.weights P e,n≤reachBytes:=fun y hy n hn=>hw n (by
  simp only[DataW.weights,ht,AI,Ay]
  exact .inr (.inl (PB (List.mem_map_of_mem hy) n hn)))
 have hbytes:len*by_≤reachBytes:=by
  have:=hw ((elems.length+rest.length)*P.bytesOf e) (by simp[DataW.weights,ht])
  rw[hb,h4]at this
  exact Cd (Au _ (by omega)) this
 obtain⟨hrl,hr⟩:=h6 rfl
 obtain⟨b,off,spot⟩:=a
 have cellspot: ∀ i cs',i=0→w.cells? base (Addr.add ⟨b,off,spot⟩ (i*P.cellsOf e)) (P.cellsOf e)=some cs'→spot=none:=fun i cs' hi hcs=>by
  subst hi
  obtain⟨_,hl,hc⟩:=World.cells?_some hcs
  have:=hc 0 h0
  rw[AZ (by omega)]at this
  have e0:Addr.add (Addr.add ⟨b,off,spot⟩ (0*P.cellsOf e)) 0=⟨b,off,spot⟩:=by simp[Addr.add]
  rw[e0]at this
  cases spot with
  |none=>rfl
  |some s=>rw[ei]at this;cases this
 have hspot:spot=none∨(len=0∧cap=0):=by
  by_cases hl:len=0
  ·by_cases hcp:cap=0
   ·exact .inr ⟨hl,hcp⟩
   ·left
    have:=hr 0 (by omega)
    have hlt:0 < rest.length:=by omega
    rw[AZ hlt,Ed]at this
    obtain⟨cs',hcs,_⟩:=this
    exact cellspot _ cs' (by omega) hcs
  ·left
   have:=h5 0 (by omega)
   have hlt:0 < elems.length:=by omega
   rw[AZ hlt,Ed]at this
   obtain⟨cs',hcs,_⟩:=this
   exact cellspot _ cs' (by omega) hcs
 rcases hspot with rfl|⟨rfl,rfl⟩
 ·have key: ∀ m,m≤len→ ∃ (us:List Value) (yss:List (List PV)),yss.length=m∧us.length=m*P.cellsOf e∧(∀ ys∈yss,F ys)∧E5 g us yss.flatten∧ ∀ j (hj:j < us.length),w.cell? ⟨b,off+j,none⟩=some us[j]:=by
   intro m
   induction m with
   |zero=>intro _;exact⟨[],[],rfl,by simp,by simp,.nil g,fun j hj=>absurd hj (by simp)⟩
   |succ m ih=>
    intro hm
    obtain⟨us,yss,k1,k2,k3,k4,k5⟩:=ih (by omega)
    have hlt:m < elems.length:=by omega
    have:=h5 m (by omega)
    rw[AZ hlt,Ed]at this
    obtain⟨cs',hcs,hy⟩:=this
    obtain⟨_,hl,hcc⟩:=World.cells?_some hcs
    obtain⟨ys,f1,f2⟩:=h H enc w g hg base held n cs' _ hy (hwe _ (AO hlt))
    refine⟨us++cs',yss++ [ys],by simp[k1],by rw[A7,k2,hl,Bq];omega,fun z hz=>?_,?_,fun j hj=>?_⟩
    ·rcases Ay.1 hz with hz|hz
     ·exact k3 z hz
     ·rw[B9.1 hz];exact f1
    ·rw[C7]
     have:E5 g cs' [ys].flatten:=by simpa using f2
     exact k4.append this
    ·by_cases hju:j < us.length
     ·rw[Bf hju];exact k5 j hju
     ·rw[C6 (by omega)]
      have hj2:j - us.length < cs'.length:=by rw[A7]at hj;omega
      have:=hcc (j - us.length) (by omega)
      rw[AZ hj2]at this
      have e2:off+j=off+m*P.cellsOf e+(j - us.length):=by rw[←k2];omega
      rw[←this,e2,DQ,DQ]
  obtain⟨us,yss,k1,k2,k3,k4,k5⟩:=key len (B4 _)
  refine⟨_,⟨yss,k3,rfl⟩,.cons ?_ (.nil g)⟩
  have hr2:=reachBytes_lt
  have hb1:len*P.cellsOf e≤len*by_:=HG _ hsb
  have hb2:len≤len*P.cellsOf e:=Nat.le_mul_of_pos_right _ h0
  have:=VR.of_cells (g:=g) (xs:=yss) (t:= .ro) (sz:=P.cellsOf e) (b:=b) (off:=off) (cap:=cap) (fun y hy=>hF y (k3 y hy)) (by omega) (by rw[k1];unfold maxN;omega) k4 (fun j hj=>hg _ _ _ (k5 j hj)) (by simp) (by simp)
  rw[k1]at this
  exact this
 ·exact⟨_,⟨[],by simp,rfl⟩,.cons .nilR (.nil g)⟩
def QQ:TypeDesc→Option (List (Nat × Nat))
 | .struct fs=>some (fs.toList.map fun f=>(f.type,f.offset))
 |_=>none
inductive ZB (P:Program):List (Nat × Nat)→List (List PV→Prop)→Nat→Nat→Prop
 |nil (n:Nat):ZB P [] [] n n
 |cons {t o n:Nat} {r:List (Nat × Nat)} {F:List PV→Prop} {Fs:List (List PV→Prop)} (sz:Nat) (hs:P.cellsOf t=sz) (h:DZ P t F) (k:ZB P r Fs (o+sz) n):ZB P ((t,o)::r) (F::Fs) o n
inductive kV:List (List PV→Prop)→List (List PV)→Prop
 |nil:kV [] []
 |cons {F:List PV→Prop} {Fs:List (List PV→Prop)} {y:List PV} {ys:List (List PV)} (h:F y) (k:kV Fs ys):kV (F::Fs) (y::ys)
theorem Pg {P:Program} {H:Type} {enc:TypeId × Value→H} {w:World} {g:Gh} (hg: ∀ b o v,w.cell? ⟨b,o,none⟩=some v→g.H b o=some v) {base fuel:Nat} {held:Bool} {cs:List Value}:
  ∀ {r:List (Nat × Nat)} {Fs:List (List PV→Prop)} {o n:Nat},ZB P r Fs o n→cs.length=n→
    (∀ (i t o:Nat),r[i]? =some (t,o)→ ∃ x,DataW.trod enc P w base (fun _=>true) held fuel t ((cs.drop o).take (P.cellsOf t))=some x∧ ∀ n∈x.1.weights P t,n≤reachBytes)→ ∃ yss,kV Fs yss∧E5 g (cs.drop o) yss.flatten
 |_,_,_,_,.nil n,hn,_=>⟨[],.nil,by rw[CY (by omega)];exact .nil g⟩
 |_,_,_,_,.cons (t:=t) (o:=o) sz hs h k,hn,hx=>by
  obtain⟨x,h1,h2⟩:=hx 0 t o rfl
  obtain⟨ys,f1,f2⟩:=h H enc w g hg base held fuel _ x h1 h2
  obtain⟨yss,k1,k2⟩:=Pg hg k hn (fun i t o hi=>hx (i+1) t o (by simpa using hi))
  refine⟨ys::yss,.cons f1 k1,?_⟩
  rw[hs]at f2
  have:=f2.append k2
  rw[←L8,CB]at this
  simpa using this
theorem Fa {P:Program} {t n:Nat} {r:List (Nat × Nat)} {Fs:List (List PV→Prop)} (hr:(P.underlying t).bind QQ=some r) (hn:P.cellsOf t=n) (h:ZB P r Fs 0 n):DZ P t (fun xs=> ∃ yss,kV Fs yss∧xs=yss.flatten):=fun H enc w g hg base held fuel cs x hx hw=>by
 obtain⟨td,h1,h2⟩:=Ed.1 hr
 obtain⟨fs,rfl⟩: ∃ fs,td= .struct fs:=by
  cases td<;>simp[QQ]at h2
  exact⟨_,rfl⟩
 simp only[QQ,Fh]at h2
 obtain⟨xs,m,rfl,rfl,k1,k2,k3⟩:=DataW.trod_struct h1 hx
 obtain⟨yss,j1,j2⟩:=Pg (enc:=enc) (w:=w) (base:=base) (held:=held) (fuel:=m) hg (cs:=cs) h (by rw[k1,hn]) (fun i t' o hi=>by
  rw[←h2,Gw,Bk]at hi
  obtain⟨f,hf,e⟩:=hi
  obtain⟨e1,e2⟩:=Prod.mk.inj e
  subst e1 e2
  have hf':fs[i]? =some f:=by simpa using hf
  have hlt:i < xs.length:=by
   rw[k2]
   exact(BK.1 hf').1
  refine⟨xs[i],by rw[k3 i f hf',AZ hlt],fun n hn=>hw n ?_⟩
  simp only[DataW.weights,h1]
  exact DataW.weights_mem_each (j:=i) (t:=f.type) (d:=xs[i].1) (by simp[hf']) (by simp[hlt]) n hn)
 exact⟨_,⟨yss,j1,rfl⟩,by simpa using j2⟩
theorem TJ {α:Type} {f:α→List PV}: ∀ {yss:List (List PV)},(∀ ys∈yss,∃ a,ys=f a)→ ∃ l:List α,yss=l.map f
 | [],_=>⟨[],rfl⟩
 |y::yss,h=>by
  obtain⟨a,ha⟩:=h y AK
  obtain⟨l,hl⟩:=TJ (yss:=yss) (fun z hz=>h z (AD _ hz))
  exact⟨a::l,by rw[ha,hl];rfl⟩
theorem DZ.list {P:Program} {t e sz by_:Nat} {α:Type} {f:α→List PV} (h:DZ P e (fun xs=> ∃ a,xs=f a)) (hf: ∀ a,(f a).length=sz) (ht:P.underlying t=some (.slice e)) (hc:P.cellsOf e=sz) (hb:P.bytesOf e=by_) (h0:0 < sz) (hsb:sz≤by_):DZ P t (fun xs=> ∃ l:List α,xs= [.slice (l.map f) .ro]):=
 DZ.to (YG ht hc hb h0 hsb (fun ys ⟨a,ha⟩=>by rw[ha];exact hf a) h) fun xs ⟨yss,h1,h2⟩=>by
  obtain⟨l,rfl⟩:=TJ h1
  exact⟨l,h2⟩
theorem dv {P:Program} {t e:Nat} (ht:P.underlying t=some (.array 32 e)) (he:P.underlying e=some (.int .u8)) (hc:P.cellsOf t=32) (hce:P.cellsOf e=1):DZ P t (fun xs=> ∃ d,xs=eDig d):=fun H enc w g hg base held fuel cs x hx hw=>by
 obtain⟨xs,m,rfl,rfl,k1,k2,k3⟩:=DataW.trod_array ht hx
 rw[hc]at k1
 have each: ∀ i (hi:i < cs.length),∃ b:UInt8,cs[i]= .int .u8 b.toNat:=fun i hi=>by
  have:=k3 i (by omega)
  rw[AZ (by omega),hce,J9]at this
  obtain⟨n,e1,_,hwf⟩:=DataW.trod_int he this
  have e2:(cs.drop i).take 1= [cs[i]]:=by
   rw[Dk hi];rfl
  rw[e2]at e1
  simp only[Nc,and_true]at e1
  simp[Lit.wf,IntKind.min,IntKind.max,IntKind.signed,IntKind.bits]at hwf
  refine⟨n.toNat.toUInt8,?_⟩
  rw[e1]
  congr 1
  simp
  omega
 have: ∀ l:List Value,(∀ v∈l,∃ b:UInt8,v= .int .u8 b.toNat)→ ∃ bs:List UInt8,l=bs.map u8:=by
  intro l
  induction l with
  |nil=>intro _;exact⟨[],rfl⟩
  |cons v l ih=>
   intro h
   obtain⟨b,rfl⟩:=h v AK
   obtain⟨bs,rfl⟩:=ih (fun v hv=>h v (AD _ hv))
   exact⟨b::bs,rfl⟩
 obtain⟨bs,rfl⟩:=this cs (fun v hv=>by
  obtain⟨i,hi,rfl⟩:=Ak.1 hv
  exact each i hi)
 refine⟨_,⟨⟨bs,by simpa using k1⟩,rfl⟩,?_⟩
 refine⟨by simp[eDig],fun i h1 h2=>?_⟩
 simp[eDig,eU8]
 exact .raw _
def Qv (w:World):Gh:=⟨fun b o=>w.cell? ⟨b,o,none⟩,fun b=>if b=globAt then some (.row pow10Tab)else none⟩
theorem W9 {w:World} (h: ∃ T p,w.heap[globAt]? =some (.cells pow10Tab.toArray T p)):DM w (Qv w) []:=
 ⟨fun _ _ _ h=>h,fun b z hz=>(by
  simp only[Qv]at hz
  split at hz
  ·rename_i e;subst e;cases hz;exact h
  ·cases hz),by simp,List.nodup_nil,⟨by simp[Qv]⟩⟩
section
variable {P:Program} {N:Nat} {Q:PPost} {all:Array Oper} {K:Env→List Res→Prop}
theorem iY {bar:Nat→Bool} {j:Nat} {oi oj:Oper} {x:PV} (hj:all[j]? =some oj) (hap:oi.apart all oj=true) {K:Env→List Res→Prop} {ρ:Env} {L:List Res}
  (hy: ∀ L,YQ P all oi ρ L x) (h:Y9 P N all bar j K (updo ρ oi.dst x) L):Y9 P N all bar j (fun ρ' L'=>(∀ L,YQ P all oi ρ' L x)∧K (updo ρ' oi.dst x) L') ρ L:=by
 obtain⟨h1,h2,h3⟩:=Oper.apart_spec hap
 unfold Y9 at*
 simp only[hj]at*
 obtain⟨hd,h⟩:=h
 have cj: ∀ s,s∈oj.looksAt all→updo ρ oi.dst x s=ρ s:=fun s hs=>Ng fun d hd e=>h1 d hd (e ▸ hs)
 have ci: ∀ u,∀ L,YQ P all oi (updo ρ oj.dst u) L x:=fun u L=>(hy L).congr fun s hs=>(Ng fun d hd e=>h3 d hd (e ▸ hs)).symm
 refine⟨hd,?_⟩
 rcases h with ⟨u,hu,hk⟩|⟨hb,hg,ho⟩
 ·refine .inl ⟨u,hu.congr cj,ci u,?_⟩
  rw[QM ρ u x (fun d hd e=>h2 d e hd)];exact hk
 ·refine .inr ⟨hb,hg.congr cj,(FW.congr (RJ cj) ho).mono fun u L' hk=>⟨ci u,?_⟩⟩
  rw[QM ρ u x (fun d hd e=>h2 d e hd)];exact hk
theorem YD {bar:Nat→Bool} {i:Nat} {oi:Oper} {x:PV} (hi:all[i]? =some oi) (hdi: ∀ d,oi.dst=some d→d < N):
  ∀ (fuel:Nat) (listed:Array Bool) (ρ:Env) (L:List Res),J8 all listed→
    (∀ j oj,all[j]? =some oj→j≠i→listed.getD j true=false→(∀ e∈oj.after,Region.binds .any e=true→e.on≠i)→oi.apart all oj=true)→
    i∈Region.ready .any all listed→(∀ L,YQ P all oi ρ L x)→
    GJ P N all bar K fuel (listed.setIfInBounds i true) (updo ρ oi.dst x) L→GJ P N all bar K (fuel+1) listed ρ L:=by
 intro fuel
 have IE: ∀ (listed:Array Bool) (ρ:Env) (L:List Res) (n:Nat),YQ P all oi ρ L x→GJ P N all bar K n (listed.setIfInBounds i true) (updo ρ oi.dst x) L→
   Y9 P N all bar i (GJ P N all bar K n (listed.setIfInBounds i true)) ρ L:=fun listed ρ L n hy H=>by
  unfold Y9;simp only[hi];exact⟨hdi,.inl ⟨x,hy,H⟩⟩
 induction fuel with
 |zero=>
  intro listed ρ L hc _ hr hy H
  refine⟨fun h=>(by rw[h]at hr;cases hr),fun j hj=>?_⟩
  by_cases hji:j=i
  ·subst hji;exact IE _ _ _ _ (hy L) H
  ·have:=ready_mono hj hji
   rw[H.1]at this
   cases this
 |succ fuel ih=>
  intro listed ρ L hc hfree hr hy H
  refine⟨fun h=>(by rw[h]at hr;cases hr),fun j hj=>?_⟩
  by_cases hji:j=i
  ·subst hji;exact IE _ _ _ _ (hy L) H
  ·have h1:=H.2 j (ready_mono hj hji)
   obtain⟨hjun,oj,hoj,hall⟩:=mem_ready.1 hj
   have hiun:=(mem_ready.1 hr).1
   have hnot: ∀ e∈oj.after,Region.binds .any e=true→e.on≠i:=fun e he hb heq=>by
    have h1:=hall e he hb
    rw[heq]at h1
    rcases BC i listed.size with h'|h'
    ·simp[h']at hiun h1;rw[hiun]at h1;cases h1
    ·simp[Bl h']at h1
   have h2:=iY hoj (hfree j oj hoj hji hjun hnot) hy h1
   have hfree': ∀ k ok,all[k]? =some ok→k≠i→(listed.setIfInBounds j true).getD k true=false→
     (∀ e∈ok.after,Region.binds .any e=true→e.on≠i)→oi.apart all ok=true:=fun k ok hk hki hun hno=>by
    refine hfree k ok hk hki ?_ hno
    by_cases hjk:j=k
    ·subst hjk;exact hjun
    ·rw[getD_set_ne true hjk]at hun;exact hun
   refine Y8 (fun ρ' L' h3=>?_) h2
   obtain⟨h4,h5⟩:=h3
   refine ih (listed.setIfInBounds j true) ρ' L' (hc.set hj) hfree' (ready_mono hr (Ne.symm hji)) h4 ?_
   rw[vZ _ _ hji]
   exact h5
def Fb (all:Array Oper) (listed:Array Bool):Bool:=listed.size==all.size&&(List.range all.size).all fun j=>match all[j]? with
 |some oj=>!listed.getD j false||oj.after.all fun e=>!Region.binds .any e||listed.getD e.on false
 |none=>true
theorem Wx {listed:Array Bool} (h:Fb all listed=true):J8 all listed:=by
 simp only[Fb,Bx,beq_iff_eq,B5,DS]at h
 obtain⟨h1,h2⟩:=h
 refine⟨h1,fun j oj hj hl e he hb=>?_⟩
 have:=h2 j (BK.1 hj).1
 simp only[hj,hl,ZM,IB,E8]at this
 have:=this e he
 simpa [hb]using this
theorem EY {bar:Nat→Bool} {fuel:Nat} {listed:Array Bool} {ρ:Env} {L:List Res} (i:Nat) {d:Nat} {op:Op} {ty:TypeId} {pos:String} {af:Array Edge} {x:PV} (h0:all[i]? =some ⟨some d,op,ty,pos,af,none⟩)
  (hB:(Fb all listed&&Region.free .any all listed i&&(Region.ready .any all listed).contains i)=true) (hd:Nat.blt d N=true)
  (hq: ∀ L,fC P ⟨some d,op,ty,pos,af,none⟩ ρ L x) (k:GJ P N all bar K fuel (listed.setIfInBounds i true) (CT ρ d x) L):GJ P N all bar K (fuel+1) listed ρ L:=by
 simp only[Bx]at hB
 obtain⟨⟨h1,h2⟩,h3⟩:=hB
 exact YD (x:=x) h0 (QF hd) fuel listed ρ L (Wx h1) (Region.free_spec h0 h2) (by simpa using h3) (fun L=> .inr ⟨by unfold QE;trivial,hq L⟩) k
theorem Db {id:Nat} {l:List Oper} {ρ:Env} {L:List Res} (bs:List Nat) [hm:fB P] (hG:KK l.toArray N=true)
  (h:GJ P N l.toArray (fun k=>bs.contains k) (Q .normal) l.length (Array.replicate l.length false) ρ L):EB P N (.region id l.toArray true) Q ρ L:=fun ro base a w g hst=>by
 refine wpIn_region_any hm.out ?_
 have hi:=hst.inv
 have hst0:Ej (Ao L) w g { w with drawn:=w.drawn+1 } g:=⟨rfl,rfl,⟨rfl,QG _⟩,B4 _,fun _ _ _=>rfl,.refl g,fun _ _ _=>⟨fun _=>rfl,rfl⟩⟩
 have hi':DM { w with drawn:=w.drawn+1 } g L:=⟨hi.sat,fun b z hz=>(hi.satM b z hz).congr rfl,fun r hr=>by have:=hi.res r hr;cases r<;>first|exact this|(rename_i t _ _;cases t<;>exact this),hi.nodup,hi.glob⟩
 have k:=Ko (ro:=ro) (base:=base) (Q:=Q) (w₀:=w) (g₀:=g) (L₀:=L) (fun _ _ h=>h) hG _ _ ρ L a _ g hst.agr hi' hst0 (.refl _ _) h
 simpa using k
end
theorem FI {P:Program} {N:Nat} {o:Oper} {ρ:Env} {d:Nat} {x:PV} {L:List Res} (hd:o.dst=some d) (hg:o.guard=none) (h:AW P N #[] (fun ρ' L'=>ρ' d=x∧L'=L) [false] [o] ρ L):fC P o ρ L x:=by
 obtain⟨_,h⟩:=h
 rcases h with ⟨hno,_⟩|⟨_,⟨y,hq,h1,_⟩|⟨hf,_⟩⟩
 ·unfold kS at hno
  rw[hg]at hno
  exact hno.elim
 ·rw[hd]at h1
  have:y=x:=by
   rw[←h1]
   show y=CT ρ d y d
   rw[C4]
  rw[←this];exact hq
 ·cases hf
theorem Af {P:Program} {N:Nat} {all:Array Oper} {K:Env→List Res→Prop} {bar:Nat→Bool} (fuel:Nat) {listed:Array Bool} {ρ:Env} {L:List Res} (i:Nat) {o:Oper}
  (k:AW P N all (fun ρ L=>GJ P N all bar K fuel (listed.setIfInBounds i true) ρ L) [bar i] [o] ρ L) (hr:Region.ready .any all listed= [i]:=by decide+kernel) (ho:all[i]? =some o:=by exact rfl):
  GJ P N all bar K (fuel+1) listed ρ L:=C3 [i] hr (by simp) fun j hj=>by
 simp only[AI,Ar,or_false]at hj
 subst hj
 exact⟨o,ho,k⟩
theorem Ai {P:Program} {N:Nat} {all:Array Oper} {K:Env→List Res→Prop} {bar:Nat→Bool} {fuel:Nat} {listed:Array Bool} {ρ:Env} {L:List Res} (i:Nat) {d:Nat} {op:Op} {ty:TypeId} {pos:String} {af:Array Edge} {x:PV}
  (k:GJ P N all bar K fuel (listed.setIfInBounds i true) (CT ρ d x) L) (h0:all[i]? =some ⟨some d,op,ty,pos,af,none⟩:=by exact rfl)
  (hB:(Fb all listed&&Region.free .any all listed i&&(Region.ready .any all listed).contains i)=true:=by decide+kernel) (hd:Nat.blt d N=true:=by exact rfl)
  (hq: ∀ L,AW P N #[] (fun ρ' L'=>ρ' d=x∧L'=L) [false] [⟨some d,op,ty,pos,af,none⟩] ρ L:=by
   intro _
   refine wo ?_
   refine AE ?_
   exact⟨C4 _ _ _,rfl⟩):GJ P N all bar K (fuel+1) listed ρ L:=
 EY i h0 hB hd (fun L=>FI rfl rfl (hq L)) k
end Go.Q
namespace Go.Proofs
open Go Go.Q
attribute [local irreducible] EB AW GJ B2 FW
instance wJ (x:Ident) (d:Dig):Bj Tryz.prog 275 [.agg (eIdent x),.pt (eDig d) 0] (.agg (eIdent (Dm x d))):=⟨by
 refine Aj Tryz.func275 Tryz.ntmps275 rfl (rs:= [.cell 3 98]) rfl rfl fun hb LF=>?_
 refine X8 fun b2=>?_
 refine BN fun b3=>?_
 refine wf ?_
 refine Aw (fun hp=>?_) (fun hp=>?_)
 ·have h0:x.patch=Dig.zero:=by simpa using hp
  refine wf ?_
  refine A1 (fun h=>?_) (fun h=>?_)
  ·refine wf ?_
   refine FK rfl (.of_eq ?_)
   rw[Dm,if_pos ⟨h0,h⟩]
  ·refine wf ?_
   refine FK rfl (.of_eq ?_)
   rw[Dm,if_neg (fun h'=>h h'.2)]
 ·have h0: ¬x.patch=Dig.zero:=by simpa using hp
  refine wf ?_
  refine FK rfl (.of_eq ?_)
  rw[Dm,if_neg (fun h'=>h0 h'.1)]⟩
def fK (d:Dig) (a:Atm):Atm:={ a with id:=Dm a.id d }
def nJ (d:Dig) (a:Atm):Atm:=if a.kind≠7 then { a with file:=Dm a.file d }else a
def nI (d:Dig) (a:Atm):Atm:=if a.kind=2 then { a with parent:=Dm a.parent d }else a
def nH (d:Dig) (a:Atm):Atm:=if a.kind=6 then { a with src:=Dm a.src d,dst:=Dm a.dst d }else a
def tF (d:Dig) (a:Atm):Atm:={ a with over:=sortI (a.over.map fun y=>Dm y d) }
def fP (d:Dig) (a:Atm):Atm:=tF d (nH d (nI d (nJ d (fK d a))))
def J7 (p:Pat):List Atm × Int:=if(Kh p).2.2≠0 then([],(Kh p).2.2)else if(EW p).2≠0 then([],(EW p).2)else((Kh p).1.map (fP (EW p).1),0)
theorem Yt (p:Pat) (hs:EA p=false):Bj Tryz.prog 232 [.agg (Cc p)] (.tuple [.slice ((J7 p).1.map eAtm) .ro,.raw (.int .i64 (J7 p).2)]):=⟨by
 have i0:B0 (EA p=false):=⟨hs⟩
 refine Aj Tryz.func232 Tryz.ntmps232 rfl (rs:= [.tmp 2,.tmp 3]) rfl rfl fun hb LF=>?_
 repeat(refine DU ?_)
 refine CD (by kernel_rfl) ?_
 refine wo ?_
 refine AE ?_
 repeat(refine DU ?_)
 refine CD (by kernel_rfl) ?_
 refine Xc (by rfl) (hl:=(by infer_instance)) ?_
 refine Bn (xs:= [.tmp 15]) [] LF (f:=181) (cs:= []) (Bu _) rfl rfl (.refl _) _ (Yn p hs) fun r L' ⟨x,y,e,hor⟩=>?_
 subst e
 refine wf ?_
 refine wf ?_
 rcases hor with ⟨hne,rfl⟩|⟨he0,v,rfl,hrow,hll⟩
 ·refine AN (fun h=>?_) (fun h=>absurd h hne)
  refine wf ?_
  refine Ei ?_
  rw[J7,if_pos hne]
  exact .tuple2 (.ros rfl) (.refl _)
 refine AN (fun h=>absurd he0 h) (fun h=>?_)
 refine wf ?_
 refine BN fun b7=>?_
 refine wo ?_
 refine AE ?_
 refine Ag 7 ?_
 refine wf ?_
 refine AN (fun h2=>?_) (fun h2=>?_)
 ·refine MA (fun i=> .inl rfl) (Dj L' LF) ?_
  refine wf ?_
  refine Ei ?_
  rw[J7,if_neg (by simp[he0]),if_pos h2]
  exact .tuple2 (.ros rfl) (.refl _)
 have e1:J7 p=((Kh p).1.map (fP (EW p).1),0):=by rw[J7,if_neg (by simp[he0]),if_neg (by simpa using h2)]
 rw[e1]
 have hov: ∀ a∈(Kh p).1,a.over.length≤40:=fun a ha=>by
  unfold Kh at ha
  split at ha
  ·cases ha
  ·split at ha
   ·cases ha
   ·exact(OT hs).2 a ha
 generalize (Kh p).1=l at hrow hll hov ⊢
 generalize (EW p).1=g
 obtain⟨⟨o,cc,ev⟩,_⟩:=hrow.slice
 rw[AF]at ev
 subst ev
 refine wf ?_
 refine FO rfl ?_
 refine wf ?_
 refine AV (σ:=Nat × List Res) (fun k=>k.1≤l.length∧E7 180 172 (.slice o l.length cc) (((l.take k.1).map (fP g)++l.drop k.1).map eAtm) k.2) (fun k=>l.length - k.1) (fun k=> [(4,.raw (.slice o l.length cc)),(8,.clo 275 [.pt (eDig g) 0]),(32,.raw (.slice o l.length cc)),(33,.raw (.int .i64 l.length)),(34,.raw (.int .i64 k.1))]) (fun k=>k.2++LF) (0,_) ⟨by simp,by simpa using hrow⟩ ⟨rfl,rfl,rfl,rfl,rfl⟩ (.refl _) ?_
 rintro⟨k,R⟩ ⟨hk,hR⟩
 dsimp only at hk hR ⊢
 refine wf ?_
 refine A1 (fun hc=>?_) (fun hc=>?_)
 ·have hlt:k < l.length:=by omega
  obtain⟨xs,hxs⟩: ∃ xs,xs=((l.take k).map (fP g)++l.drop k).map eAtm:=⟨_,rfl⟩
  rw[←hxs]at hR
  have hlk:xs.length=l.length:=by rw[hxs];simp;omega
  have hel:xs[k]'(by omega)=eAtm l[k]:=by
   subst hxs
   rw[BT,C6 (by simp;omega),Gv]
   congr 2
   simp;omega
  obtain⟨r,rest,rfl,rfl,hn,hcl,hsz,hcc⟩:=hR.inv (by omega)
  have isub:VL (xs.flatten++rest) (0+k*172) 172 (eAtm l[k]):=by
   rw[←hel];exact Pz hsz (by omega)
  refine wf ?_
  refine Gn (k:=k) rfl rfl hlt ?_
  refine wf ?_
  refine BN fun b10=>?_
  refine wf ?_
  refine KE True [(4,.raw (.slice (some ⟨r,0,none⟩) l.length cc)),(8,.clo 275 [.pt (eDig g) 0]),(9,.raw (.int .i64 k)),(10,.raw (.pointer (some ⟨b10,0,none⟩))),(32,.raw (.slice (some ⟨r,0,none⟩) l.length cc)),(33,.raw (.int .i64 l.length)),(34,.raw (.int .i64 k))] (.box b10 180 (eAtm (nJ g (fK g l[k]))):: .box r 180 (xs.flatten++rest)::LF) ?_ fun _=>?_
  ·refine AN (fun h=>?_) (fun h=>?_)
   ·refine wf ?_
    rw[show nJ g (fK g l[k])= { fK g l[k]with file:=Dm l[k].file g } by rw[nJ,if_pos (show(fK g l[k]).kind≠7 from h)];rfl]
    exact⟨trivial,⟨rfl,rfl,rfl,rfl,rfl,rfl,rfl⟩,.refl _⟩
   ·refine wf ?_
    rw[show nJ g (fK g l[k])=fK g l[k] by rw[nJ,if_neg (show ¬(fK g l[k]).kind≠7 from fun h'=>h' h)]]
    exact⟨trivial,⟨rfl,rfl,rfl,rfl,rfl,rfl,rfl⟩,.refl _⟩
  have o2:(nJ g (fK g l[k])).over.length≤40:=by
   have h:=hov _ (AO hlt)
   unfold nJ;split<;>exact h
  generalize hg2:nJ g (fK g l[k])=a2 at o2 ⊢
  refine wf ?_
  refine KE True [(4,.raw (.slice (some ⟨r,0,none⟩) l.length cc)),(8,.clo 275 [.pt (eDig g) 0]),(9,.raw (.int .i64 k)),(10,.raw (.pointer (some ⟨b10,0,none⟩))),(32,.raw (.slice (some ⟨r,0,none⟩) l.length cc)),(33,.raw (.int .i64 l.length)),(34,.raw (.int .i64 k))] (.box b10 180 (eAtm (nI g a2)):: .box r 180 (xs.flatten++rest)::LF) ?_ fun _=>?_
  ·refine A1 (fun h=>?_) (fun h=>?_)
   ·refine wf ?_
    rw[show nI g a2= { a2 with parent:=Dm a2.parent g } by rw[nI,if_pos h]]
    exact⟨trivial,⟨rfl,rfl,rfl,rfl,rfl,rfl,rfl⟩,.refl _⟩
   ·refine wf ?_
    rw[show nI g a2=a2 by rw[nI,if_neg h]]
    exact⟨trivial,⟨rfl,rfl,rfl,rfl,rfl,rfl,rfl⟩,.refl _⟩
  have o3:(nI g a2).over.length≤40:=by unfold nI;split<;>exact o2
  generalize hg3:nI g a2=a3 at o3 ⊢
  refine wf ?_
  refine KE True [(4,.raw (.slice (some ⟨r,0,none⟩) l.length cc)),(8,.clo 275 [.pt (eDig g) 0]),(9,.raw (.int .i64 k)),(10,.raw (.pointer (some ⟨b10,0,none⟩))),(32,.raw (.slice (some ⟨r,0,none⟩) l.length cc)),(33,.raw (.int .i64 l.length)),(34,.raw (.int .i64 k))] (.box b10 180 (eAtm (nH g a3)):: .box r 180 (xs.flatten++rest)::LF) ?_ fun _=>?_
  ·refine A1 (fun h=>?_) (fun h=>?_)
   ·rw[show nH g a3= { a3 with src:=Dm a3.src g,dst:=Dm a3.dst g } by rw[nH,if_pos h]]
    refine wn ?_
    refine Db [2,6,9,11] (by decide+kernel) ?_
    refine EY 0 rfl (by decide+kernel) rfl (fun L'=>FI (N:=97) rfl rfl (by refine wo ?_;refine AE ?_;exact⟨C4 _ _ _,rfl⟩)) ?_
    refine EY 1 rfl (by decide+kernel) rfl (fun L'=>FI (N:=97) rfl rfl (by refine wo ?_;refine AE ?_;exact⟨C4 _ _ _,rfl⟩)) ?_
    refine EY 4 rfl (by decide+kernel) rfl (fun L'=>FI (N:=97) rfl rfl (by refine wo ?_;refine AE ?_;exact⟨C4 _ _ _,rfl⟩)) ?_
    refine EY 5 rfl (by decide+kernel) rfl (fun L'=>FI (N:=97) rfl rfl (by refine wo ?_;refine AE ?_;exact⟨C4 _ _ _,rfl⟩)) ?_
    refine C3 (fuel:=7) [2,6] (by decide+kernel) (by simp) fun i hi=>?_
    simp only[AI,Ar,or_false]at hi
    rcases hi with rfl|rfl
    ·refine⟨_,rfl,?_⟩
     refine wf ?_
     refine EY 3 rfl (by decide+kernel) rfl (fun L'=>FI (N:=97) rfl rfl (by refine wo ?_;refine AE ?_;exact⟨C4 _ _ _,rfl⟩)) ?_
     refine C3 (fuel:=5) [6] (by decide+kernel) (by simp) fun i hi=>?_
     simp only[AI,Ar,or_false]at hi
     subst hi
     refine⟨_,rfl,?_⟩
     refine wf ?_
     refine EY 7 rfl (by decide+kernel) rfl (fun L'=>FI (N:=97) rfl rfl (by refine wo ?_;refine AE ?_;exact⟨C4 _ _ _,rfl⟩)) ?_
     refine EY 8 rfl (by decide+kernel) rfl (fun L'=>FI (N:=97) rfl rfl (by refine wo ?_;refine AE ?_;exact⟨C4 _ _ _,rfl⟩)) ?_
     refine C3 (fuel:=2) [9] (by decide+kernel) (by simp) fun i hi=>?_
     simp only[AI,Ar,or_false]at hi
     subst hi
     refine⟨_,rfl,?_⟩
     refine wf ?_
     refine EY 10 rfl (by decide+kernel) rfl (fun L'=>FI (N:=97) rfl rfl (by refine wo ?_;refine AE ?_;exact⟨C4 _ _ _,rfl⟩)) ?_
     refine C3 (fuel:=0) [11] (by decide+kernel) (by simp) fun i hi=>?_
     simp only[AI,Ar,or_false]at hi
     subst hi
     refine⟨_,rfl,?_⟩
     refine wf ?_
     refine C5 (by decide+kernel) ?_
     refine wf ?_
     exact⟨trivial,⟨rfl,rfl,rfl,rfl,rfl,rfl,rfl⟩,.refl _⟩
    ·refine⟨_,rfl,?_⟩
     refine wf ?_
     refine C3 (fuel:=6) [2] (by decide+kernel) (by simp) fun i hi=>?_
     simp only[AI,Ar,or_false]at hi
     subst hi
     refine⟨_,rfl,?_⟩
     refine wf ?_
     refine EY 3 rfl (by decide+kernel) rfl (fun L'=>FI (N:=97) rfl rfl (by refine wo ?_;refine AE ?_;exact⟨C4 _ _ _,rfl⟩)) ?_
     refine EY 7 rfl (by decide+kernel) rfl (fun L'=>FI (N:=97) rfl rfl (by refine wo ?_;refine AE ?_;exact⟨C4 _ _ _,rfl⟩)) ?_
     refine EY 8 rfl (by decide+kernel) rfl (fun L'=>FI (N:=97) rfl rfl (by refine wo ?_;refine AE ?_;exact⟨C4 _ _ _,rfl⟩)) ?_
     refine C3 (fuel:=2) [9] (by decide+kernel) (by simp) fun i hi=>?_
     simp only[AI,Ar,or_false]at hi
     subst hi
     refine⟨_,rfl,?_⟩
     refine wf ?_
     refine EY 10 rfl (by decide+kernel) rfl (fun L'=>FI (N:=97) rfl rfl (by refine wo ?_;refine AE ?_;exact⟨C4 _ _ _,rfl⟩)) ?_
     refine C3 (fuel:=0) [11] (by decide+kernel) (by simp) fun i hi=>?_
     simp only[AI,Ar,or_false]at hi
     subst hi
     refine⟨_,rfl,?_⟩
     refine wf ?_
     refine C5 (by decide+kernel) ?_
     refine wf ?_
     exact⟨trivial,⟨rfl,rfl,rfl,rfl,rfl,rfl,rfl⟩,.refl _⟩
   ·refine wf ?_
    rw[show nH g a3=a3 by rw[nH,if_neg h]]
    exact⟨trivial,⟨rfl,rfl,rfl,rfl,rfl,rfl,rfl⟩,.refl _⟩
  have o4:(nH g a3).over.length≤40:=by unfold nH;split<;>exact o3
  generalize hg4:nH g a3=a4 at o4 ⊢
  repeat(refine DU ?_)
  refine CD (by kernel_rfl) ?_
  refine JJ ?_
  refine AE ?_
  rw[show Env.ev _ (Operand.const (Value.slice none 0 0))= .raw (.slice none 0 0) from rfl]
  refine wf ?_
  refine AV (σ:=Nat × Value × List Res) (fun j=>j.1≤a4.over.length∧sI j.2.1 ((a4.over.take j.1).map fun y=>Dm y g) j.2.2) (fun j=>a4.over.length - j.1) (fun j=> [(4,.raw (.slice (some ⟨r,0,none⟩) l.length cc)),(8,.clo 275 [.pt (eDig g) 0]),(9,.raw (.int .i64 k)),(10,.raw (.pointer (some ⟨b10,0,none⟩))),(11,.raw j.2.1),(32,.raw (.slice (some ⟨r,0,none⟩) l.length cc)),(33,.raw (.int .i64 l.length)),(34,.raw (.int .i64 k)),(74,.slice (a4.over.map eIdent) .ro),(75,.raw (.int .i64 a4.over.length)),(76,.raw (.int .i64 j.1))]) (fun j=>j.2.2++(.box b10 180 (eAtm a4):: .box r 180 (xs.flatten++rest)::LF)) (0,.slice none 0 0,[]) ⟨by simp,.nil none (by simp)⟩ ⟨rfl,rfl,rfl,rfl,rfl,rfl,rfl,rfl,rfl,rfl,rfl⟩ (.refl _) ?_
  rintro⟨j,v2,R2⟩ ⟨hj,hI⟩
  dsimp only at hj hI ⊢
  refine wf ?_
  refine A1 (fun hc2=>?_) (fun hc2=>?_)
  ·have hjl:j < a4.over.length:=by omega
   refine wz fun b13=>?_
   refine Ag 13 ?_
   refine wf ?_
   refine PO (f:=eIdent) (m:= [Dm a4.over[j] g]) (R:=R2) (LF:= .box b10 180 (eAtm a4):: .box r 180 (xs.flatten++rest)::LF) (fun R'=>R'++(.box b10 180 (eAtm a4):: .box r 180 (xs.flatten++rest)::LF)) rfl rfl hI (.refl _) (fun R'=> .refl _) (by simp only[AF,AG,AH,Aa];omega) (by simp only[AF,AG,AH,Aa];omega) fun v3 R3 h3=>?_
   refine wf ?_
   refine wf ?_
   refine⟨(j+1,v3,R3),⟨by dsimp only;omega,?_⟩,by dsimp only;omega,⟨rfl,rfl,rfl,rfl,rfl,rfl,rfl,rfl,rfl,rfl,rfl⟩,.refl _⟩
   dsimp only
   rw[A6 hjl,Az]
   exact h3
  ·rw[AA (by omega)]at hI
   refine wf ?_
   refine Bn (xs:= [.tmp 87,.func 264]) R2 (.box b10 180 (eAtm a4):: .box r 180 (xs.flatten++rest)::LF) (f:=276) (cs:= []) (Bu _) rfl rfl (.refl _) _ (fq _ _ R2 hI (by simp only[AF];omega)) fun r' L3 ⟨v3,e3,h3⟩=>?_
   subst e3
   refine wo ?_
   refine AE ?_
   repeat(refine DU ?_)
   have hms:(sortI (a4.over.map fun y=>Dm y g)).length≤maxN∧(sortI (a4.over.map fun y=>Dm y g)).length*33≤maxN:=by
    have h1:maxN=140737488355328:=rfl
    have h2:(sortI (a4.over.map fun y=>Dm y g)).length=a4.over.length:=by rw[sortI,IZ,AF]
    omega
   refine HY (f:=eIdent) 11 h3 hms (.refl _) rfl ?_
   refine wf ?_
   have iput:Ek (xs.flatten++rest) (0+k*172) (eAtm { a4 with over:=sortI (a4.over.map fun y=>Dm y g) }) ((xs.set k (eAtm (tF g a4))).flatten++rest):=Q1 hsz (by omega) (by simp)
   refine Gn (k:=k) rfl rfl hlt ?_
   refine wf ?_
   have hset:xs.set k (eAtm (tF g a4))=((l.take (k+1)).map (fP g)++l.drop (k+1)).map eAtm:=by
    have hf:tF g a4=fP g l[k]:=by rw[fP,hg2,hg3,hg4]
    rw[hf,hxs]
    refine GK (by simp;omega) fun i k1 k2=>?_
    rw[List.getElem_set]
    split
    ·rename_i e
     subst e
     rw[BT,Bf (by simp;omega)]
     simp
    ·rename_i e
     rw[BT,BT]
     congr 1
     rcases BC i k with h'|h'
     ·rw[Bf (by simp;omega),Bf (by simp;omega)]
      simp
     ·rw[C6 (by simp;omega),C6 (by simp;omega)]
      simp only[Gv,AF,AG]
      congr 1
      omega
   have hnew: ∀ e∈xs.set k (eAtm (tF g a4)),e.length=172:=fun e he=>by
    rw[hset]at he
    obtain⟨a,_,rfl⟩:=AX.1 he
    simp
   refine⟨(k+1,[.box r 180 ((xs.set k (eAtm (tF g a4))).flatten++rest)]),⟨by dsimp only;omega,?_⟩,by dsimp only;omega,⟨rfl,rfl,rfl,rfl,rfl⟩,.cons _ (.refl _)⟩
   dsimp only
   rw[←hset]
   refine .row (by rw[CG,hlk]) hcl hnew ?_
   have h1:=Cp hnew
   have h2:=Cp hsz
   rw[CG]at h1
   omega
 ·have hkk:k=l.length:=by omega
  subst hkk
  rw[Cy,List.drop_length,B1]at hR
  have hmx:((l.map (fP g)).map eAtm).length≤maxN∧((l.map (fP g)).map eAtm).length*172≤maxN:=by
   have:maxN=140737488355328:=rfl
   simp only[AF];omega
  refine Gz 4 hR hmx (.refl _) rfl ?_
  refine wf ?_
  exact Ei (.tuple2 (.ros rfl) (.refl _))⟩
end Go.Proofs
namespace Go.Proofs
open Go Go.Q
attribute [local irreducible] EB AW B2 FW
instance tL (p:Pat) [hs:B0 (EA p=false)]:Bj Tryz.prog 196 [.agg (Cc p)] (.tuple [.slice ((J7 p).1.map eAtm) .ro,.raw (.int .i64 (J7 p).2)]):=⟨by
 have i1:Bj Tryz.prog 232 [.agg (Cc p)] (.tuple [.slice ((J7 p).1.map eAtm) .ro,.raw (.int .i64 (J7 p).2)]):=Yt p hs.out
 refine Aj Tryz.func196 Tryz.ntmps196 rfl (rs:= [.tmp 2,.tmp 3]) rfl rfl fun hb LF=>?_
 refine wf ?_
 exact Ei (.refl _)⟩
instance xB:Cu Tryz.prog 173 [.slice [] .ro,.raw (.map none)]:=Cu.of (us:= [PV.slice [] .ro,.raw (.map none)].map zv) (by kernel_rfl) (by kernel_rfl)
def Tu (s:List Sto) (m:Nat):List PV:= [.slice (s.map eSto) .ro,.raw (.map (some m))]
def GU (m:Nat) (known:List (Dig × List Atm)):List Res:= [.map m (Cq kDig (PD eAtm) known)]
theorem NG (s:List Sto) (t:CZ):B2 Tryz.prog 104 [.slice (s.map eSto) t] [] (fun r L'=> ∃ m,r= .pt (Tu s m) 0∧L'=GU m []):=by
 refine Bt Tryz.func104 rfl Tryz.ntmps104 (rs:= [.tmp 2]) rfl rfl fun hb LF=>?_
 refine wf ?_
 refine QT fun m=>?_
 refine wf ?_
 exact⟨trivial,_,GU m [],.cons (.tmp 2) .nil,.refl _,m,rfl,rfl⟩
theorem jO (s:List Sto) (d:Dig):(EK (fun x=>decide (x.id=d)) s < 0→getS s d=none)∧(∀ k:Nat,EK (fun x=>decide (x.id=d)) s=(k:Int)→ ∃ h:k < s.length,getS s d=some s[k].patch):=by
 have key: ∀ l:List Sto,(l.any (fun x=>decide (x.id=d))=false→getS l d=none)∧(l.any (fun x=>decide (x.id=d))=true→ ∃ h:l.findIdx (fun x=>decide (x.id=d)) < l.length,getS l d=some (l[l.findIdx fun x=>decide (x.id=d)]).patch):=fun l=>by
  induction l with
  |nil=>exact⟨fun _=>rfl,fun h=>by cases h⟩
  |cons x l ih=>
   by_cases hx:x.id=d
   ·refine⟨fun h=>by simp[hx]at h,fun _=>?_⟩
    have e:(x::l).findIdx (fun x=>decide (x.id=d))=0:=by simp[QI,hx]
    refine⟨by rw[e];simp,?_⟩
    simp only[e,B8]
    rw[getS,if_pos hx]
   ·have eg:getS (x::l) d=getS l d:=by rw[getS,if_neg hx]
    refine⟨fun h=>by rw[eg];exact ih.1 (by simpa [hx]using h),fun h=>?_⟩
    obtain⟨h1,h2⟩:=ih.2 (by simpa [hx]using h)
    have e:(x::l).findIdx (fun x=>decide (x.id=d))=l.findIdx (fun x=>decide (x.id=d))+1:=by simp[QI,hx]
    refine⟨by rw[e,AH];omega,?_⟩
    simp only[e,Ct]
    rw[eg,h2]
 obtain⟨k1,k2⟩:=key s
 refine⟨fun h=>k1 ?_,fun k h=>?_⟩
 ·unfold EK at h
  by_cases ha:s.any (fun x=>decide (x.id=d))=true
  ·rw[if_pos ha]at h;omega
  ·simpa using ha
 ·unfold EK at h
  by_cases ha:s.any (fun x=>decide (x.id=d))=true
  ·rw[if_pos ha]at h
   have hk:s.findIdx (fun x=>decide (x.id=d))=k:=by omega
   obtain⟨h1,h2⟩:=k2 ha
   subst hk
   exact⟨h1,h2⟩
  ·rw[if_neg ha]at h;omega
instance wI (x:Sto) (d:Dig):Bj Tryz.prog 160 [.agg (eSto x),.pt (eDig d) 0] (.raw (.bool (decide (x.id=d)))):=⟨by
 refine Aj Tryz.func160 Tryz.ntmps160 rfl (rs:= [.tmp 3]) rfl rfl fun hb LF=>?_
 refine wf ?_
 exact Al (.refl _)⟩
instance x8 (s:List Sto) (t:CZ) (d:Dig):Bj Tryz.prog 114 [.slice (s.map eSto) t,.agg (eDig d)] (.tuple [.agg (Cc ((getS s d).getD Pat.zero)),.raw (.bool (getS s d).isSome)]):=⟨by
 have i1: ∀ t,Bj Tryz.prog 111 [.slice (s.map eSto) t,.clo 160 [.pt (eDig d) 0]] (.raw (.int .i64 (EK (fun x=>decide (x.id=d)) s))):=fun t=>Uj _ _ _ s t
 obtain⟨g1,g2⟩:=jO s d
 refine Aj Tryz.func114 Tryz.ntmps114 rfl (rs:= [.cell 4 42,.tmp 5]) rfl rfl fun hb LF=>?_
 refine wf ?_
 refine BN fun b4=>?_
 refine wf ?_
 refine A1 (fun h=>?_) (fun h=>?_)
 ·rw[g1 h]
  rw[BZ,De]
  refine wf ?_
  exact CJ rfl (.refl _)
 ·obtain⟨k,hk⟩: ∃ k:Nat,EK (fun x=>decide (x.id=d)) s=(k:Int):=⟨(EK (fun x=>decide (x.id=d)) s).toNat,by omega⟩
  obtain⟨hlt,hg⟩:=g2 k hk
  rw[hk,hg,Ea,BO]
  refine wf ?_
  exact CJ rfl (.refl _)⟩
def coreA (a:Atm):Atm:={ a with over:= [] }
theorem OY: ∀ (l:List Chg) (own:List Atm),Mj own→Mj (DP l own).1
 | [],_,h=>h
 |c::l,own,h=>by
  unfold DP
  split
  ·exact fun i hi=>absurd hi (by simp)
  ·split
   ·exact fun i hi=>absurd hi (by simp)
   ·exact OY l _ (Oy c h)
theorem YV (p:Pat):Mj (Cv p).1:=by
 have h0:Mj ([]:List Atm):=fun i hi=>absurd hi (by simp)
 unfold Cv
 repeat' split
 all_goals first|exact h0|exact OY _ _ h0
theorem nG (d:Dig) {a:Atm} (h1:a.id.patch=Dig.zero) (h2:0≤a.id.n):coreA (fP d a)=coreA (Ua d a):=by
 have e:fK d a=Lu d a:=by
  unfold fK Lu Dm;rw[if_pos ⟨h1,h2⟩]
 rw[fP,Ua,e]
 rfl
theorem Zp (p:Pat):(Kh p).2.2=(EW p).2:=by
 rw[Vo,EW]
 by_cases h:(Cj p).2≠0
 ·rw[if_pos h]
 ·rw[if_neg h];simpa using h
theorem bk {p:Pat} (h:(Kh p).2.2=0):(Kh p).1=(Cv p).1∧(Cv p).2=0:=by
 unfold Kh at h ⊢
 by_cases g1:(Cv p).2≠0
 ·rw[if_pos g1]at h;exact absurd h g1
 by_cases g2:65536 < ((Mn p).length:Int)
 ·rw[if_neg g1,if_pos g2]at h;exact absurd h (by decide)
 rw[if_neg g1,if_neg g2]
 exact⟨rfl,by simpa using g1⟩
theorem an (p:Pat):(J7 p).1.map coreA=(Lz p).1.map coreA:=by
 unfold J7 Lz
 rw[Zp]
 by_cases h:(EW p).2≠0
 ·rw[if_pos h,if_pos h]
 ·rw[if_neg h,if_neg h,if_neg h]
  have h3:(Kh p).2.2=0:=by rw[Zp];simpa using h
  dsimp only
  rw[(bk h3).1,DK,DK]
  refine O2 fun a ha=>?_
  obtain⟨i,hi,rfl⟩:=Ak.1 ha
  have e:=YV p i hi
  exact nG _ (by rw[e]) (by rw[e];exact Int.natCast_nonneg _)
def JH (s:List Sto) (d:Dig):List Atm:=(J7 ((getS s d).getD Pat.zero)).1
def IV (s:List Sto) (x:Ident):Option Atm:=if x.n < 0∨((JH s x.patch).length:Int)≤x.n then none else(JH s x.patch)[x.n.toNat]?
theorem eu (s:List Sto) (x:Ident):(IV s x).map coreA=(Il s x).map coreA:=by
 have e:=an ((getS s x.patch).getD Pat.zero)
 have el:=congrArg List.length e
 rw[AF,AF]at el
 unfold IV Il JH JO
 rw[el]
 by_cases h:x.n < 0∨((Lz ((getS s x.patch).getD Pat.zero)).1.length:Int)≤x.n
 ·rw[if_pos h,if_pos h]
 ·rw[if_neg h,if_neg h,←Gw,←Gw,e]
theorem Zi {f:Atm→Bool} (hf: ∀ a,f a=f (coreA a)) {o p:Option Atm} (e:o.map coreA=p.map coreA):EU o f=EU p f:=by
 cases o with
 |none=>cases p with
  |none=>rfl
  |some b=>cases e
 |some a=>cases p with
  |none=>cases e
  |some b=>
   have e2:coreA a=coreA b:=by simpa using e
   unfold EU
   rw[BO,BO,hf a,hf b,e2];rfl
theorem Nk (s:List Sto) (x:Ident) {f:Atm→Bool} (hf: ∀ a,f a=f (coreA a)):EU (IV s x) f=EU (Il s x) f:=Zi hf (eu s x)
def OV (c:Chg) (g:Ident) (r:Rfc):Atm→Bool:=
 if r.f=190 then tE c.kind else if r.f=192 then mX else if r.f=193 then sb r.id c.file g else tn (fJ c.kind) g
theorem Si {l:List Rfc} {r x:Rfc} (h:r∈JQ l x):r∈l∨r=x:=by
 unfold JQ at h
 split at h
 ·exact .inl h
 ·simpa using h
theorem Qn {α:Type} {f:α→Rfc} {r:Rfc}: ∀ {o:List α} {l:List Rfc},r∈o.foldl (fun l x=>JQ l (f x)) l→r∈l∨ ∃ x∈o,r=f x
 | [],_,h=> .inl h
 |y::o,l,h=>by
  rw[ED]at h
  rcases Qn (o:=o) h with h|⟨x,hx,e⟩
  ·rcases Si h with h|h
   ·exact .inl h
   ·exact .inr ⟨y,by simp,h⟩
  ·exact .inr ⟨x,by simp[hx],e⟩
theorem eY (id:Dig) (c:Chg) (r:Rfc) (h:r∈JK id c):vT Tryz.prog r (OV c (DJ id c) r):=by
 unfold JK qc at h
 rcases Qn h with h|⟨x,_,rfl⟩
 ·unfold fG at h
  have key:r∈Zg c (X9 c)∨ ∃ x:Ident,r=NN (DJ id c) c x:=by
   split at h
   ·rcases Qn h with h|⟨x,_,e⟩
    ·exact .inl h
    ·exact .inr ⟨x,e⟩
   ·exact .inl h
  rcases key with h|⟨x,rfl⟩
  ·unfold Zg at h
   have key:r∈X9 c∨r=⟨c.parent,192,[]⟩:=by
    split at h
    ·exact Si h
    ·exact .inl h
   rcases key with h|rfl
   ·unfold X9 at h
    have key:r=⟨c.file,190,[.pt (BG c) 0]⟩:=by
     split at h
     ·rcases Si h with h|h
      ·cases h
      ·exact h
     ·cases h
    subst key
    exact⟨inferInstance,fun a=>(qO c a).out⟩
   ·exact⟨inferInstance,fun a=>(qN a).out⟩
  ·exact⟨(inferInstance:Av Tryz.prog 193),fun a=>(qM x (DJ id c) c a).out⟩
 ·exact⟨(inferInstance:Av Tryz.prog 195),fun a=>(qL (fJ c.kind) (DJ id c) a).out⟩
def HC (s:List Sto) (c:Chg) (g:Ident) (r:Rfc):Int:=EU (IV s r.id) (OV c g r)
def NT (s:List Sto) (id:Dig) (c:Chg):Int:=Aq (HC s c (DJ id c)) (JK id c)
def QO (s:List Sto) (p:Pat) (id:Dig):Int:=Aq (NT s id) p.changes
theorem Kv (f:Rfc→Int) (l:List Rfc) (r:Rfc):Aq f (JQ l r)=if Aq f l≠0 then Aq f l else if r.id.patch=Dig.zero then 0 else f r:=by
 unfold JQ
 by_cases h:r.id.patch=Dig.zero
 ·rw[if_pos h,if_pos h]
  by_cases h2:Aq f l=0
  ·rw[if_neg (by simp[h2]),h2]
  ·rw[if_pos h2]
 ·rw[if_neg h,if_neg h,Gb]
  have:Aq f [r]=f r:=by
   rw[Aq,Aq];split
   ·rename_i h;exact h.symm
   ·rfl
  rw[this]
theorem IR {α:Type} (f:Rfc→Int) (h:α→Rfc): ∀ (o:List α) (l:List Rfc),Aq f (o.foldl (fun l x=>JQ l (h x)) l)=if Aq f l≠0 then Aq f l else Aq (fun x=>if(h x).id.patch=Dig.zero then 0 else f (h x)) o
 | [],l=>by
   by_cases h2:Aq f l=0
   ·simp[h2,Aq]
   ·simp[h2]
 |x::o,l=>by
  rw[ED,IR f h o,Kv,Aq]
  generalize (if(h x).id.patch=Dig.zero then 0 else f (h x))=v
  by_cases h2:Aq f l=0<;>by_cases h3:v=0<;>simp[h2,h3]
theorem R8 {c:Chg} (hf:C0 c=0):(¬(2≤c.kind∧c.kind≤6)→c.file=Ident.zero)∧(c.kind≠2→c.parent=Ident.zero)∧(¬(c.kind=5∨c.kind=6)→c.after=Ident.zero∧c.before=Ident.zero):=by
 have h2:=Jt hf
 unfold Fw Ih at h2
 simp only[Bx,AJ]at h2
 obtain⟨⟨⟨⟨⟨⟨⟨⟨⟨h1,_⟩,h3⟩,_⟩,_⟩,_⟩,h7⟩,h8⟩,_⟩,_⟩:=h2
 refine⟨fun h=>?_,fun h=>?_,fun h=>⟨?_,?_⟩⟩
 ·rwa [if_neg h]at h1
 ·rwa [if_neg h]at h3
 ·rwa [if_neg h]at h7
 ·rwa [if_neg h]at h8
theorem jq (s:List Sto) (id:Dig) {c:Chg} {own:List Atm} (hf:C0 c=0) (hr:FT c own=0):NT s id c=Mg s c id:=by
 have hk:=JW hf
 obtain⟨z1,z2,z3⟩:=R8 hf
 have hn:2≤c.kind∧c.kind≤6→0≤c.file.n:=fun h=>by
  have h1:KB c own=0:=by
   by_cases h0:KB c own=0
   ·exact h0
   ·rw[FT,if_pos h0]at hr;exact absurd hr h0
  rw[KB,if_pos h,JL]at h1
  by_cases h2:Dn c.file own.length=false
  ·rw[if_pos h2]at h1;omega
  ·have h2:Dn c.file own.length=true:=by simpa using h2
   unfold Dn at h2
   split at h2<;>simp at h2<;>omega
 have hg:2≤c.kind∧c.kind≤6→DJ id c=H9 c.file id:=fun h=>by
  unfold DJ H9
  by_cases h1:c.file.patch=Dig.zero
  ·rw[if_pos h1,if_pos ⟨hn h,h1⟩]
  ·rw[if_neg h1,if_neg (fun h=>h1 h.2)]
 have e1:Aq (HC s c (DJ id c)) (X9 c)=Ji s c:=by
  unfold X9 Ji
  by_cases h:c.kind≠1∧c.kind≠7
  ·rw[if_pos h,Kv,if_neg (by simp[Aq])]
   unfold Gy
   by_cases h1:c.file.patch=Dig.zero
   ·rw[if_pos h1,if_neg (by simp[h1])]
   ·rw[if_neg h1,if_pos (by simp[h1]),HC,show OV c (DJ id c) ⟨c.file,190,[.pt (BG c) 0]⟩=tE c.kind from rfl,Nk s c.file (fun a=>rfl)]
    congr 1
    funext a
    unfold tE EE Ig
    by_cases h5:c.kind=5∨c.kind=6
    ·rcases h5 with h|h<;>simp[h]
    ·have: ¬c.kind=5∧ ¬c.kind=6:=⟨fun h=>h5 (.inl h),fun h=>h5 (.inr h)⟩
     by_cases h4:c.kind=4<;>simp[this,h4]
  ·rw[if_neg h,z1 (by omega)]
   simp[Aq,Gy,Ident.zero]
 have e2: ∀ l,Aq (HC s c (DJ id c)) (Zg c l)=if Aq (HC s c (DJ id c)) l≠0 then Aq (HC s c (DJ id c)) l else Mf s c:=fun l=>by
  unfold Zg Mf
  by_cases h:c.kind=2
  ·rw[if_pos h,Kv]
   unfold Gy
   by_cases h1:c.parent.patch=Dig.zero
   ·rw[if_pos h1,if_neg (by simp[h1]: ¬(!decide (c.parent.patch=Dig.zero))=true)]
   ·rw[if_neg h1,if_pos (by simp[h1]:(!decide (c.parent.patch=Dig.zero))=true),HC,show OV c (DJ id c) ⟨c.parent,192,[]⟩=mX from rfl,Nk s c.parent (fun a=>rfl)]
    rfl
  ·rw[if_neg h,z2 h,if_neg (by simp[Gy,Ident.zero]: ¬Gy Ident.zero=true)]
   split
   ·rfl
   ·rename_i h;simpa using h
 have e3:Ji s c=0→ ∀ l,Aq (HC s c (DJ id c)) (fG (DJ id c) c l)=if Aq (HC s c (DJ id c)) l≠0 then Aq (HC s c (DJ id c)) l else if HD s c.after c.file id≠0 then HD s c.after c.file id else HD s c.before c.file id:=fun hF l=>by
  unfold fG
  by_cases h:c.kind=5∨c.kind=6
  ·have hx: ∀ x:Ident,(if(NN (DJ id c) c x).id.patch=Dig.zero then 0 else HC s c (DJ id c) (NN (DJ id c) c x))=HD s x c.file id:=fun x=>by
    unfold HD Gy
    by_cases h1:x.patch=Dig.zero
    ·rw[if_pos (show(NN (DJ id c) c x).id.patch=Dig.zero from h1),if_pos (by simp[h1])]
    ·rw[if_neg (show ¬(NN (DJ id c) c x).id.patch=Dig.zero from h1),HC,show OV c (DJ id c) (NN (DJ id c) c x)=sb x c.file (DJ id c) from rfl,show(NN (DJ id c) c x).id=x from rfl,Nk s x (fun a=>rfl)]
     by_cases h2:x=c.file
     ·rw[if_pos (.inr h2)]
      subst h2
      rw[Ji,if_pos (by simp[Gy,h1]),EU]at hF
      by_cases h3:(Il s c.file).isSome=false
      ·rw[if_pos h3]at hF;omega
      ·rw[EU,if_neg h3,if_neg (by simp[sb])]
     ·rw[if_neg (by simp[h1,h2]),hg (by omega)]
      congr 1
      funext a
      simp[sb,JM,h2]
   rw[if_pos h,IR,Aq,Aq,Aq,hx,hx]
   by_cases q1:HD s c.after c.file id=0
   ·rw[if_pos q1,if_neg (by simp[q1]: ¬HD s c.after c.file id≠0)]
    by_cases q2:HD s c.before c.file id=0
    ·rw[if_pos q2,q2]
    ·rw[if_neg q2]
   ·rw[if_neg q1,if_pos q1]
  ·obtain⟨za,zb⟩:=z3 h
   have q:HD s Ident.zero c.file id=0:=by rw[HD,if_pos (.inl (by simp[Gy,Ident.zero]))]
   rw[if_neg h,za,zb,q]
   split
   ·rfl
   ·rename_i h;simpa using h
 have e4: ∀ l,Aq (HC s c (DJ id c)) (qc (DJ id c) c l c.over)=if Aq (HC s c (DJ id c)) l≠0 then Aq (HC s c (DJ id c)) l else Aq (OQ s c id) c.over:=fun l=>by
  unfold qc
  rw[IR]
  congr 1
  refine GB fun x hx=>?_
  have h15:c.kind≠1∧c.kind≠5:=⟨fun h=>(by rw[JV hf (.inl h)]at hx;simp at hx),fun h=>(by rw[JV hf (.inr h)]at hx;simp at hx)⟩
  unfold OQ Gy
  by_cases h1:x.patch=Dig.zero
  ·rw[if_pos (show(MB (DJ id c) c x).id.patch=Dig.zero from h1),if_pos (by simp[h1])]
  ·rw[if_neg (show ¬(MB (DJ id c) c x).id.patch=Dig.zero from h1),if_neg (by simp[h1]),HC,show OV c (DJ id c) (MB (DJ id c) c x)=tn (fJ c.kind) (DJ id c) from rfl,show(MB (DJ id c) c x).id=x from rfl,Nk s x (fun a=>rfl)]
   congr 1
   funext a
   unfold tn H8 SG fJ
   by_cases h7:c.kind=7
   ·simp[h7]
   ·have:c.kind=2∨c.kind=3∨c.kind=4∨c.kind=6:=by omega
    rw[if_pos this,if_neg h7,hg (by omega)]
 unfold NT JK Mg
 rw[e4]
 by_cases q0:Ji s c=0
 ·rw[e3 q0,e2,e1,q0]
  by_cases q1:Mf s c=0
  ·by_cases q2:HD s c.after c.file id=0
   ·by_cases q3:HD s c.before c.file id=0
    ·simp[q1,q2,q3]
    ·simp[q1,q2,q3]
   ·simp[q1,q2]
  ·simp[q1]
 ·have k2:Aq (HC s c (DJ id c)) (Zg c (X9 c))=Ji s c:=by rw[e2,e1,if_pos q0]
  have k3:Aq (HC s c (DJ id c)) (fG (DJ id c) c (Zg c (X9 c)))=Ji s c:=by
   unfold fG
   split
   ·rw[IR,k2,if_pos q0]
   ·exact k2
  rw[k3,if_pos q0,if_pos q0]
theorem TV: ∀ {l:List Chg} {own:List Atm},(DP l own).2=0→ ∀ c∈l,C0 c=0∧ ∃ own,FT c own=0
 | [],_,_,c,h=>by cases h
 |x::l,own,h,c,hc=>by
  unfold DP at h
  by_cases h1:C0 x≠0
  ·rw[if_pos h1]at h;exact absurd h h1
  by_cases h2:FT x own≠0
  ·rw[if_neg h1,if_pos h2]at h;exact absurd h h2
  rw[if_neg h1,if_neg h2]at h
  rcases AI.1 hc with rfl|hc
  ·exact⟨by simpa using h1,own,by simpa using h2⟩
  ·exact TV h c hc
theorem U0 {p:Pat} (h:(Cv p).2=0): ∀ c∈p.changes,C0 c=0∧ ∃ own,FT c own=0:=by
 have e:Ij p=0:=by
  by_cases h0:Ij p=0
  ·exact h0
  ·rw[Ht,if_pos h0]at h;exact absurd h h0
 rw[Ly e]at h
 exact TV h
theorem XG (s:List Sto) {p:Pat} (id:Dig) (h:(EW p).2=0):QO s p id=FP s p id:=by
 have h2:=(bk (p:=p) (by rw[Zp];exact h)).2
 refine GB fun c hc=>?_
 obtain⟨hf,own,hr⟩:=U0 h2 c hc
 exact jq s id hf hr
end Go.Proofs
namespace Go.Proofs
open Go Go.Q
theorem PF {n:Nat} (h:n < 256):(UInt8.ofNat n).toNat=n:=by
 rw[UInt8.toNat_ofNat'];omega
theorem Lx (n:Nat): ∀ c∈HV n,48≤c.toNat∧c.toNat≤57:=by
 induction n using Nat.strongRecOn with
 |_ n ih=>
  by_cases h:n < 10
  ·rw[Hj h]
   intro c hc
   rw[B9.1 hc,PF (by omega)]
   omega
  ·rw[LO h]
   intro c hc
   rcases Ay.1 hc with hc|hc
   ·exact ih (n / 10) (by omega) c hc
   ·rw[B9.1 hc,PF (by omega)]
    omega
theorem bl (n:Nat):HV n≠ []:=by
 by_cases h:n < 10
 ·rw[Hj h];simp
 ·rw[LO h];simp
def oA (l:Str):Nat:=l.foldl (fun a c=>10*a+(c.toNat - 48)) 0
theorem Ru (n:Nat):oA (HV n)=n:=by
 induction n using Nat.strongRecOn with
 |_ n ih=>
  by_cases h:n < 10
  ·rw[Hj h]
   show 10*0+((UInt8.ofNat (48+n)).toNat - 48)=n
   rw[PF (by omega)];omega
  ·rw[LO h]
   have e:=ih (n / 10) (by omega)
   unfold oA at e ⊢
   rw[DF,e]
   show 10*(n / 10)+((UInt8.ofNat (48+n % 10)).toNat - 48)=n
   rw[PF (by omega)];omega
theorem SR {n m:Nat} (h:HV n=HV m):n=m:=by rw[←Ru n,h,Ru]
theorem Ub (n:Nat) (l:Str) (r:Str): ¬45::l=HV n++r:=fun h=>by
 cases hd:HV n with
 |nil=>exact bl n hd
 |cons c t=>
  rw[hd,BM]at h
  injection h with h1 _
  have:=Lx n c (by rw[hd];simp)
  rw[←h1]at this
  exact absurd this.1 (by decide)
theorem db {n m:Int} (h:Ik n=Ik m):n=m:=by
 unfold Ik at h
 by_cases h1:n < 0
 ·by_cases h2:m < 0
  ·rw[if_pos h1,if_pos h2]at h
   injection h with _ h
   have:=SR h
   omega
  ·rw[if_pos h1,if_neg h2]at h
   exact absurd (by rw[h,B1]) (Ub m.toNat _ [])
 ·by_cases h2:m < 0
  ·rw[if_neg h1,if_pos h2]at h
   exact absurd (by rw[←h,B1]) (Ub n.toNat (HV (-m).toNat) [])
  ·rw[if_neg h1,if_neg h2]at h
   have:=SR h
   omega
theorem bK: ∀ {a b r s:Str},(∀ c∈a,c.toNat≤57)→(∀ c∈b,c.toNat≤57)→a++58::r=b++58::s→a=b∧r=s
 | [],[],r,s,_,_,h=>⟨rfl,by simpa using h⟩
 | [],y::b,r,s,_,hb,h=>by
   rw[BL,BM]at h
   injection h with h1 _
   have:=hb y (by simp)
   rw[←h1]at this
   exact absurd this (by decide)
 |x::a,[],r,s,ha,_,h=>by
  rw[BL,BM]at h
  injection h with h1 _
  have:=ha x (by simp)
  rw[h1]at this
  exact absurd this (by decide)
 |x::a,y::b,r,s,ha,hb,h=>by
  rw[BM,BM]at h
  injection h with h1 h2
  obtain⟨e1,e2⟩:=bK (fun c hc=>ha c (AD _ hc)) (fun c hc=>hb c (AD _ hc)) h2
  exact⟨by rw[h1,e1],e2⟩
theorem Nz: ∀ {d:Nat} {x:Sx},O4 d x→ ∃ c t,Dc d x=c::t∧c≠41∧(c=40↔x.isList=true)
 |0,_,h=>h.elim
 |d+1,x,_=>by
  cases hl:x.isList with
  |true=>exact⟨40,_,by rw[Dc,if_pos hl],by decide,by simp⟩
  |false=>
   have e:Dc (d+1) x=HV x.atom.length++58::x.atom:=by rw[Dc,if_neg (by simp[hl])]
   cases hd:HV x.atom.length with
   |nil=>exact absurd hd (bl _)
   |cons c t=>
    have hc:=Lx x.atom.length c (by rw[hd];simp)
    refine⟨c,t++58::x.atom,by rw[e,hd];rfl,?_,?_⟩
    ·rintro rfl;exact absurd hc.1 (by decide)
    ·constructor
     ·rintro rfl;exact absurd hc.1 (by decide)
     ·intro h';cases h'
theorem Yp {d:Nat} (ih: ∀ {x y:Sx} {r s:Str},O4 d x→O4 d y→Dc d x++r=Dc d y++s→x=y∧r=s): ∀ {l m:List Sx} {r s:Str},(∀ y∈l,O4 d y)→(∀ y∈m,O4 d y)→l.flatMap (Dc d)++41::r=m.flatMap (Dc d)++41::s→l=m∧r=s
 | [],[],r,s,_,_,h=>⟨rfl,by simpa using h⟩
 | [],y::m,r,s,_,hm,h=>by
   obtain⟨c,t,e,h41,_⟩:=Nz (hm y (by simp))
   rw[ka,BL,Cn,e,BM,BM]at h
   injection h with h1 _
   exact absurd h1.symm h41
 |x::l,[],r,s,hl,_,h=>by
  obtain⟨c,t,e,h41,_⟩:=Nz (hl x (by simp))
  rw[ka,BL,Cn,e,BM,BM]at h
  injection h with h1 _
  exact absurd h1 h41
 |x::l,y::m,r,s,hl,hm,h=>by
  rw[Cn,Cn,AL,AL]at h
  obtain⟨e1,e2⟩:=ih (hl x (by simp)) (hm y (by simp)) h
  obtain⟨e3,e4⟩:=Yp ih (fun z hz=>hl z (AD _ hz)) (fun z hz=>hm z (AD _ hz)) e2
  exact⟨by rw[e1,e3],e4⟩
theorem Yo: ∀ (d:Nat) {x y:Sx} {r s:Str},O4 d x→O4 d y→Dc d x++r=Dc d y++s→x=y∧r=s
 |0,_,_,_,_,h,_,_=>h.elim
 |d+1,x,y,r,s,hx,hy,h=>by
  obtain⟨c1,t1,e1,_,k1⟩:=Nz hx
  obtain⟨c2,t2,e2,_,k2⟩:=Nz hy
  have hc:c1=c2:=by
   rw[e1,e2,BM,BM]at h
   injection h
  subst hc
  have hkind:x.isList=y.isList:=by
   rw[IA];exact k1.symm.trans k2
  clear k1 k2 e1 e2
  obtain⟨b1,a1,l1⟩:=x
  obtain⟨b2,a2,l2⟩:=y
  change b1=b2 at hkind
  subst hkind
  rcases hx with ⟨h1,h2,h3⟩|⟨h1,h2,h3⟩
  ·rcases hy with ⟨_,g2,_⟩|⟨g1,_⟩
   ·change b1=false at h1
    change l1= []at h2
    change l2= []at g2
    subst h1 h2 g2
    have q1:Dc (d+1) (.mk false a1 [])=HV a1.length++58::a1:=rfl
    have q2:Dc (d+1) (.mk false a2 [])=HV a2.length++58::a2:=rfl
    rw[q1,q2,AL,AL,BM,BM]at h
    obtain⟨e1,e2⟩:=bK (fun c hc=>(Lx _ c hc).2) (fun c hc=>(Lx _ c hc).2) h
    obtain⟨e3,e4⟩:=List.append_inj e2 (SR e1)
    exact⟨by rw[e3],e4⟩
   ·change b1=false at h1
    change b1=true at g1
    rw[h1]at g1;cases g1
  ·rcases hy with ⟨g1,_⟩|⟨_,g2,g3⟩
   ·change b1=true at h1
    change b1=false at g1
    rw[h1]at g1;cases g1
   ·change b1=true at h1
    change a1= []at h2
    change a2= []at g2
    subst h1 h2 g2
    have q1:Dc (d+1) (.mk true [] l1)=40::(l1.flatMap (Dc d)++ [41]):=rfl
    have q2:Dc (d+1) (.mk true [] l2)=40::(l2.flatMap (Dc d)++ [41]):=rfl
    rw[q1,q2,BM,BM,AL,AL]at h
    injection h with _ h
    obtain⟨e1,e2⟩:=Yp (fun hx hy h=>Yo d hx hy h) h3 g3 h
    exact⟨congrArg (Sx.mk true []) e1,e2⟩
theorem KI {α β:Type} {f:α→β}: ∀ {l m:List α},(∀ x∈l,∀ y∈m,f x=f y→x=y)→l.map f=m.map f→l=m
 | [],[],_,_=>rfl
 | [],y::m,_,h=>by simp at h
 |x::l,[],_,h=>by simp at h
 |x::l,y::m,hf,h=>by
  rw[BH,BH]at h
  injection h with h1 h2
  rw[hf x (by simp) y (by simp) h1,KI (fun a ha b hb=>hf a (AD _ ha) b (AD _ hb)) h2]
theorem H7 {a b:Str} (h:Ch a=Ch b):a=b:=congrArg Sx.atom h
theorem K0 {l m:List Sx} (h:Du l=Du m):l=m:=congrArg Sx.list h
theorem Xj {a b:Dig} (h:Jn a=Jn b):a=b:=by
 unfold Jn at h
 by_cases h1:a=Dig.zero
 ·by_cases h2:b=Dig.zero
  ·rw[h1,h2]
  ·rw[if_pos h1,if_neg h2]at h
   have:=congrArg List.length (H7 h)
   rw[b.len]at this;simp at this
 ·by_cases h2:b=Dig.zero
  ·rw[if_neg h1,if_pos h2]at h
   have:=congrArg List.length (H7 h)
   rw[a.len]at this;simp at this
  ·rw[if_neg h1,if_neg h2]at h
   exact Dig.ext (H7 h)
def RH (n:Int):Prop:= -1099511627776≤n∧n≤1099511627776
theorem N2 {n m:Int} (hn:RH n) (hm:RH m) (h:Fo n=Fo m):n=m:=by
 unfold RH at hn hm
 unfold Fo Qd at h
 rw[if_neg (by omega),if_neg (by omega)]at h
 exact db (H7 h)
theorem Gx {x y:Ident} (hx:RH x.n) (hy:RH y.n) (h:Fl x=Fl y):x=y:=by
 have h:=K0 h
 injection h with h1 h2
 injection h2 with h2 _
 obtain⟨p,n⟩:=x
 obtain⟨q,m⟩:=y
 have e1:=Xj h1
 have e2:=N2 hx hy h2
 subst e1 e2;rfl
structure nX (c:Chg):Prop where
 fields:C0 c=0
 file:RH c.file.n
 parent:RH c.parent.n
 after:RH c.after.n
 before:RH c.before.n
 over: ∀ x∈c.over,RH x.n
 mode:c.kind=3→RH c.mode
 type:c.kind=1→RH c.type
theorem LH {l m:List Ident} (hl: ∀ x∈l,RH x.n) (hm: ∀ x∈m,RH x.n) (h:Ie l=Ie m):l=m:=
 KI (fun x hx y hy e=>Gx (hl x hx) (hm y hy) e) (K0 h)
theorem UU (c:Chg):(KX c).list=([Fo c.kind]++Jh c++Ho c)++Kb c:=rfl
theorem gv {c e:Chg} (hc:nX c) (he:nX e) (h:KX c=KX e):c=e:=by
 have k1:=JW hc.fields
 have k2:=JW he.fields
 have z1:=Jt hc.fields
 have z2:=Jt he.fields
 have h:=congrArg Sx.list h
 rw[UU,UU]at h
 have hk:c.kind=e.kind:=by
  have h1:=congrArg List.head? h
  simp only[U9,BM,List.head?_cons,Fh]at h1
  exact N2 (by unfold RH;omega) (by unfold RH;omega) h1
 obtain⟨ck,cfile,ctype,cparent,cname,cmode,cdata,cafter,cbefore,clines,cover⟩:=c
 obtain⟨ek,efile,etype,eparent,ename,emode,edata,eafter,ebefore,elines,eover⟩:=e
 change ck=ek at hk
 subst hk
 obtain⟨_,c1,c2,c3,c4,c5,c6,c7⟩:=hc
 obtain⟨_,e1,e2,e3,e4,e5,e6,e7⟩:=he
 simp only at k1 c1 c2 c3 c4 c5 c6 c7 e1 e2 e3 e4 e5 e6 e7
 unfold Fw Ih at z1 z2
 simp only[Bx,AJ]at z1 z2
 obtain⟨⟨⟨⟨⟨⟨⟨⟨⟨p1,p2⟩,p3⟩,p4⟩,p5⟩,p6⟩,p7⟩,p8⟩,p9⟩,p10⟩:=z1
 obtain⟨⟨⟨⟨⟨⟨⟨⟨⟨q1,q2⟩,q3⟩,q4⟩,q5⟩,q6⟩,q7⟩,q8⟩,q9⟩,q10⟩:=z2
 have n9: ∀ {α:Type} {l:List α},(l.length:Int)=0→l= []:=fun h=>BU (by omega)
 have p9:=n9 p9
 have p10:=n9 p10
 have q9:=n9 q9
 have q10:=n9 q10
 clear n9
 have hlin: ∀ {l m:List Str},Du (l.map Ch)=Du (m.map Ch)→l=m:=fun h=>KI (fun _ _ _ _ e=>H7 e) (K0 h)
 rcases kinds k1 with rfl|rfl|rfl|rfl|rfl|rfl|rfl<;>
  simp (decide:=true) only[Jh,Ho,Kb,if_true,if_false,ite_true,ite_false,BL,B1,U9,BM,Nc,true_and,and_true,and_self,true_or,or_true,or_self,ne_eq,not_true_eq_false,not_false_eq_true]at h p1 p2 p3 p4 p5 p6 p7 p8 p9 p10 q1 q2 q3 q4 q5 q6 q7 q8 q9 q10
 ·have:=N2 (c7 rfl) (e7 rfl) h
  simp only[*]
 ·obtain⟨h1,h2,h3,h4⟩:=h
  have:=Gx c1 e1 h1
  have:=Gx c2 e2 h2
  have:=H7 h3
  have:=LH c5 e5 h4
  simp only[*]
 ·obtain⟨h1,h2,h3⟩:=h
  have:=Gx c1 e1 h1
  have:=N2 (c6 rfl) (e6 rfl) h2
  have:=LH c5 e5 h3
  simp only[*]
 ·obtain⟨h1,h2,h3⟩:=h
  have:=Gx c1 e1 h1
  have:=H7 h2
  have:=LH c5 e5 h3
  simp only[*]
 ·obtain⟨h1,h2,h3,h4⟩:=h
  have:=Gx c1 e1 h1
  have:=Gx c3 e3 h2
  have:=Gx c4 e4 h3
  have:=hlin h4
  simp only[*]
 ·obtain⟨h1,h2,h3,h4⟩:=h
  have:=Gx c1 e1 h1
  have:=Gx c3 e3 h2
  have:=Gx c4 e4 h3
  have:=LH c5 e5 h4
  simp only[*]
 ·have:=LH c5 e5 h
  simp only[*]
theorem RM (N:Nat): ∀ {l:List Chg} {own:List Atm},(DP l own).2=0→own.length+4001*l.length≤N→ ∀ c∈l,C0 c=0∧ ∃ own:List Atm,own.length≤N∧FT c own=0
 | [],_,_,_,c,h=>by cases h
 |x::l,own,h,hN,c,hc=>by
  unfold DP at h
  by_cases h1:C0 x≠0
  ·rw[if_pos h1]at h;exact absurd h h1
  by_cases h2:FT x own≠0
  ·rw[if_neg h1,if_pos h2]at h;exact absurd h h2
  rw[if_neg h1,if_neg h2]at h
  have h1:C0 x=0:=by simpa using h1
  rw[AH]at hN
  rcases AI.1 hc with rfl|hc
  ·exact⟨h1,own,by omega,by simpa using h2⟩
  ·refine RM N h ?_ c hc
   have:=LK x own.length
   have:=JF h1
   rw[A7]
   omega
theorem PZ {x:Ident} {own:List Atm} {b:Bool} (hN:own.length≤1000000000) (h:JL x own b=0):RH x.n:=by
 unfold JL at h
 by_cases h1:Dn x own.length=false
 ·rw[if_pos h1]at h;exact absurd h (by decide)
 ·have h1:Dn x own.length=true:=by simpa using h1
  unfold Dn at h1
  unfold RH
  split at h1<;>simp at h1<;>omega
theorem Pv:RH Ident.zero.n:=by unfold RH;exact⟨by decide,by decide⟩
theorem nW {c:Chg} {own:List Atm} (hN:own.length≤1000000000) (hf:C0 c=0) (hr:FT c own=0):nX c:=by
 obtain⟨z1,z2,z3⟩:=R8 hf
 have r1:KB c own=0:=by
  by_cases h0:KB c own=0
  ·exact h0
  ·rw[FT,if_pos h0]at hr;exact absurd hr h0
 rw[FT,if_neg (by simp[r1])]at hr
 have r2:Me c own=0:=by
  by_cases h0:Me c own=0
  ·exact h0
  ·rw[if_pos h0]at hr;exact absurd hr h0
 rw[if_neg (by simp[r2])]at hr
 have r3:IH c own=0:=by
  by_cases h0:IH c own=0
  ·exact h0
  ·rw[if_pos h0]at hr;exact absurd hr h0
 rw[if_neg (by simp[r3])]at hr
 have r4:Aq (N9 c own) c.over=0:=by
  by_cases h0:Aq (N9 c own) c.over=0
  ·exact h0
  ·rw[if_pos h0]at hr;exact absurd hr h0
 have hE:(c.kind=5∨c.kind=6)→ ∀ x∈ [c.after,c.before],RH x.n:=fun h x hx=>by
  rw[IH,if_pos (by unfold Ig;simpa using h)]at r3
  exact PZ hN (Dx r3 x hx)
 refine⟨hf,?_,?_,?_,?_,fun x hx=>PZ hN (Dx r4 x hx),fun h=>?_,fun h=>?_⟩
 ·by_cases h:2≤c.kind∧c.kind≤6
  ·rw[KB,if_pos h]at r1;exact PZ hN r1
  ·rw[z1 h];exact Pv
 ·by_cases h:c.kind=2
  ·by_cases h2:c.parent=Xq
   ·rw[h2];unfold RH;exact⟨by decide,by decide⟩
   ·rw[Me,if_pos ⟨h,h2⟩]at r2;exact PZ hN r2
  ·rw[z2 h];exact Pv
 ·by_cases h:c.kind=5∨c.kind=6
  ·exact hE h _ (by simp)
  ·rw[(z3 h).1];exact Pv
 ·by_cases h:c.kind=5∨c.kind=6
  ·exact hE h _ (by simp)
  ·rw[(z3 h).2];exact Pv
 ·unfold RH
  unfold C0 at hf
  have: ¬(c.mode < 0∨511 < c.mode):=fun hm=>by
   rw[if_neg (by omega)]at hf
   split at hf
   ·omega
   ·rw[if_neg (by omega),if_neg (by omega),if_pos ⟨h,hm⟩]at hf;omega
  omega
 ·unfold RH
  unfold C0 at hf
  have: ¬(c.type < 1∨4 < c.type):=fun hm=>by
   rw[if_neg (by omega)]at hf
   split at hf
   ·omega
   ·rw[if_pos ⟨h,hm⟩]at hf;omega
  omega
theorem TS {p:Pat} (h:(Cv p).2=0):(∀ c∈p.changes,nX c)∧RH p.time:=by
 have e:Ij p=0:=by
  by_cases h0:Ij p=0
  ·exact h0
  ·rw[Ht,if_pos h0]at h;exact absurd h h0
 rw[Ly e]at h
 have ht: ¬(p.time < 0∨1099511627776 < p.time)∧ ¬400 < (p.changes.length:Int):=by
  unfold Ij at e
  split at e
  ·omega
  split at e
  ·omega
  split at e
  ·omega
  rename_i ht
  split at e
  ·rename_i hd;exact absurd e hd
  split at e
  ·omega
  split at e
  ·omega
  rename_i hc
  exact⟨ht,hc⟩
 refine⟨fun c hc=>?_,by unfold RH;omega⟩
 obtain⟨hf,own,hN,hr⟩:=RM 1600400 h (by simp;omega) c hc
 exact nW (by omega) hf hr
theorem iG {p q:Pat} (hp:VA p) (hq:VA q) (cp:(Cv p).2=0) (cq:(Cv q).2=0) (h:Mn p=Mn q):p=q:=by
 obtain⟨c1,t1⟩:=TS cp
 obtain⟨c2,t2⟩:=TS cq
 have h1:=(Yo 8 (r:= []) (s:= []) hp.ok.1 hq.ok.1 (by rw[B1,B1];exact h)).1
 have h1:=K0 h1
 simp only[Nc,and_true,true_and]at h1
 obtain⟨e1,e2,e3,e4,e5⟩:=h1
 replace e1:=H7 e1
 replace e2:=H7 e2
 replace e3:=N2 t1 t2 e3
 replace e4:=KI (fun _ _ _ _ e=>Xj e) (K0 e4)
 replace e5:=KI (fun x hx y hy e=>gv (c1 x hx) (c2 y hy) e) (K0 e5)
 obtain⟨a1,a2,a3,a4,a5⟩:=p
 obtain⟨b1,b2,b3,b4,b5⟩:=q
 simp only at e1 e2 e3 e4 e5
 subst e1 e2 e3 e4 e5;rfl
attribute [local irreducible] EB AW B2 FW
section
variable {P:Program} {N:Nat} {all:Array Oper} {K:Env→List Res→Prop} {fl:List Bool} {os:List Oper} {ρ:Env} {L:List Res} {d:Nat} {ty:TypeId} {pos:String} {af:Array Edge}
theorem N1 {x:Operand} {cs:List PV} {off:Nat} (hx:ρ.ev x= .pt cs off) (k:AW P N all K fl.tail os (CT ρ d (.pt cs off)) L) (hd:Nat.blt d N=true:=by rfl):AW P N all K fl (⟨some d,.nilCheck x,ty,pos,af,none⟩::os) ρ L:=
 Bb hd (B7 fun a w g ha hi=>by
  have h1:=ha x (by simp[Op.operands])
  rw[hx]at h1
  generalize hv:a.eval x=v at h1
  cases h1 with
  |pt ff hH hv'=>
   rename_i b o
   exact⟨.pointer (some ⟨b,o+off,none⟩),by simp[execOp,hv],.pt ff hH hv'⟩) k
end
instance uq (s:List Sto) (m:Nat):Ib (Tu s m) 0 [.slice (s.map eSto) .ro]:=⟨by simp[Tu]⟩
instance uo (s:List Sto) (m:Nat):Ib (Tu s m) 1 [.raw (.map (some m))]:=⟨by simp[Tu]⟩
def IX (s:List Sto) (known:List (Dig × List Atm)):Prop:= ∀ d l,Dr d known=some l→l=JH s d
theorem IX.set {s:List Sto} {known:List (Dig × List Atm)} (h:IX s known) (d:Dig):IX s (HJ d (JH s d) known):=fun x l e=>by
 rw[K4]at e
 split at e
 ·rename_i hx;subst hx;injection e with e;exact e.symm
 ·exact h x l e
theorem kE (s:List Sto) (hg:DX s) (m:Nat) (known:List (Dig × List Atm)) (hk:IX s known) (x:Ident):B2 Tryz.prog 156 [.pt (Tu s m) 0,.agg (eIdent x)] (GU m known) (fun r L'=>r= .tuple [.agg (eAtm ((IV s x).getD Atm.zero)),.raw (.bool (IV s x).isSome)]∧ ∃ known',L'=GU m known'∧IX s known'):=by
 have i1:B0 (EA ((getS s x.patch).getD Pat.zero)=false):=⟨hg.great _⟩
 refine Bt Tryz.func156 rfl Tryz.ntmps156 (rs:= [.cell 4 180,.tmp 5]) rfl rfl fun hb LF=>?_
 rw[show GU m known++LF= .map m (Cq kDig (PD eAtm) known)::LF from rfl]
 refine wf ?_
 refine BN fun b4=>?_
 refine wf ?_
 refine N1 rfl ?_
 refine wf ?_
 refine Fy (.swap _ _ _) ?_
 refine DD (σ:=List (Dig × List Atm)) (fun k=>IX s k) (fun k=> [(3,.pt (eIdent x) 0),(4,.raw (.pointer (some ⟨b4,0,none⟩))),(6,.slice ((JH s x.patch).map eAtm) .ro)]) (fun k=> .map m (Cq kDig (PD eAtm) k):: .box b4 180 (eAtm Atm.zero)::LF) ?_ ?_
 ·refine AU (fun h=>?_) (fun h=>?_)
  ·refine wn ?_
   refine Db [10,11] (by decide+kernel) ?_
   refine Ai 0 ?_
   refine Ai 1 (hq:=fun _=>by refine N1 rfl ?_;refine AE ?_;exact⟨C4 _ _ _,rfl⟩) ?_
   refine Ai 2 ?_
   refine Ai 3 ?_
   refine Ai 4 ?_
   refine Ai 5 ?_
   refine Ai 6 ?_
   refine Ai 7 ?_
   refine Ai 8 ?_
   refine Ai 9 ?_
   refine Af 2 10 ?_
   refine BN fun b8=>?_
   refine AE ?_
   refine Af 1 11 ?_
   refine wo ?_
   refine AE ?_
   refine Af 0 12 ?_
   refine wo ?_
   refine AE ?_
   refine C5 (by decide+kernel) ?_
   refine Ag 8 ?_
   refine wn ?_
   refine BR 7 ?_ ?_
   ·decide+kernel
   refine wf ?_
   refine N1 rfl ?_
   refine wf ?_
   exact⟨HJ x.patch (JH s x.patch) known,hk.set _,⟨rfl,rfl,rfl⟩,.refl _⟩
  ·have h1:(Dr x.patch known).isSome=true:=by simpa using h
   obtain⟨l,hl⟩:=E0.1 h1
   have e:=hk _ _ hl
   subst e
   refine wf ?_
   refine⟨known,hk,⟨rfl,rfl,by rw[hl];rfl⟩,.refl _⟩
 intro k hkn
 refine Fy (.swap _ _ _) ?_
 refine wf ?_
 refine BB [(53,.raw (.bool (decide (x.n < 0∨((JH s x.patch).length:Int)≤x.n)))),(3,.pt (eIdent x) 0),(4,.raw (.pointer (some ⟨b4,0,none⟩))),(6,.slice ((JH s x.patch).map eAtm) .ro)] (.box b4 180 (eAtm Atm.zero):: .map m (Cq kDig (PD eAtm) k)::LF) ?_ ?_
 ·repeat' (first|(refine A1 (fun h=>?_) (fun h=>?_)<;>refine wf ?_)|(refine AN (fun h=>?_) (fun h=>?_)<;>refine wf ?_)|(refine AU (fun h=>?_) (fun h=>?_)<;>refine wf ?_)|(refine Aw (fun h=>?_) (fun h=>?_)<;>(have h2:=h;(try simp only[AJ,A8,AQ,AR]at h2);refine wf ?_)))
  all_goals (refine⟨⟨BW (by rfl) ?_,rfl,rfl,rfl⟩,.refl _⟩;first|(simp_all;done)|grind)
 refine wf ?_
 refine A1 (fun h=>?_) (fun h=>?_)
 ·refine wf ?_
  refine⟨trivial,_,GU m k,.cons (.cell 4 180 rfl AK (inferInstance:FG Tryz.prog 180 172).out (by simp)) (.cons (.tmp 5) .nil),.cons _ (.refl _),?_,k,rfl,hkn⟩
  rw[IV,if_pos h];rfl
 ·have hlt:x.n.toNat < (JH s x.patch).length:=by omega
  refine wf ?_
  refine⟨trivial,_,GU m k,.cons (.cell 4 180 rfl AK (inferInstance:FG Tryz.prog 180 172).out (by simp)) (.cons (.tmp 5) .nil),.cons _ (.refl _),?_,k,rfl,hkn⟩
  rw[IV,if_neg h,AZ hlt];rfl
theorem dV (id:Dig) (c:Chg):(JK id c).length≤c.over.length+4:=by
 have r1:=bj c
 have r2:=bh c (X9 c)
 have r3:=bg (DJ id c) c (Zg c (X9 c))
 have r4:=KM (MB (DJ id c) c) c.over (fG (DJ id c) c (Zg c (X9 c)))
 unfold JK qc
 omega
theorem UE (s:List Sto) (hg:DX s) (m:Nat) (known:List (Dig × List Atm)) (hk0:IX s known) (x:Sto) (hx:EA x.patch=false):B2 Tryz.prog 105 [.pt (Tu s m) 0,.agg (eSto x)] (GU m known) (fun r L'=>r= .raw (.int .i64 (QO s x.patch x.id))∧ ∃ known',L'=GU m known'∧IX s known'):=by
 have hgf:=(Hv hx).2.2.2.2
 have hcl:=(Hv hx).2.2.2.1
 refine Bt Tryz.func105 rfl Tryz.ntmps105 (rs:= [.tmp 4]) rfl rfl fun hb LF=>?_
 rw[show GU m known++LF= .map m (Cq kDig (PD eAtm) known)::LF from rfl]
 refine wf ?_
 refine AV (σ:=Nat × List (Dig × List Atm)) (fun k=>k.1≤x.patch.changes.length∧IX s k.2∧ ∀ i (h:i < x.patch.changes.length),i < k.1→NT s x.id x.patch.changes[i]=0) (fun k=>x.patch.changes.length - k.1) (fun k=> [(0,.pt (Tu s m) 0),(3,.pt (eSto x) 0),(13,.slice (x.patch.changes.map BG) .ro),(14,.raw (.int .i64 x.patch.changes.length)),(15,.raw (.int .i64 k.1))]) (fun k=> .map m (Cq kDig (PD eAtm) k.2)::LF) (0,known) ⟨by simp,hk0,by simp⟩ ⟨rfl,rfl,rfl,rfl,rfl⟩ (.refl _) ?_
 rintro⟨k,kn⟩ ⟨hk,hkn,he⟩
 dsimp only at hk hkn he ⊢
 refine wf ?_
 refine A1 (fun hc=>?_) (fun hc=>?_)
 ·have hlt:k < x.patch.changes.length:=by omega
  have hat:=CV (f:=NT s x.id) hlt he
  have hsu:=fun h=>DT (f:=NT s x.id) he hlt h
  have hcg:=hgf _ (AO hlt)
  refine wz fun b6=>?_
  generalize x.patch.changes[k]=c at hat hsu hcg ⊢
  have i1:B0 (c.over.length≤400):=⟨by have:=hcg.over;omega⟩
  have hrl:(JK x.id c).length≤400:=by have:=dV x.id c;have:=hcg.over;omega
  refine Ag 6 ?_
  refine wf ?_
  refine AV (σ:=Nat × List (Dig × List Atm)) (fun j=>j.1≤(JK x.id c).length∧IX s j.2∧ ∀ i (h:i < (JK x.id c).length),i < j.1→HC s c (DJ x.id c) (JK x.id c)[i]=0) (fun j=>(JK x.id c).length - j.1) (fun j=> [(0,.pt (Tu s m) 0),(3,.pt (eSto x) 0),(13,.slice (x.patch.changes.map BG) .ro),(14,.raw (.int .i64 x.patch.changes.length)),(15,.raw (.int .i64 k)),(22,.slice ((JK x.id c).map eRfc) .ro),(23,.raw (.int .i64 (JK x.id c).length)),(24,.raw (.int .i64 j.1))]) (fun j=> .map m (Cq kDig (PD eAtm) j.2)::LF) (0,kn) ⟨by simp,hkn,by simp⟩ ⟨rfl,rfl,rfl,rfl,rfl,rfl,rfl,rfl⟩ (.refl _) ?_
  rintro⟨j,kn2⟩ ⟨hj,hkn2,hje⟩
  dsimp only at hj hkn2 hje ⊢
  refine wf ?_
  refine A1 (fun hc2=>?_) (fun hc2=>?_)
  ·have hlt2:j < (JK x.id c).length:=by omega
   have hat2:=CV (f:=HC s c (DJ x.id c)) hlt2 hje
   have hsu2:=fun h=>DT (f:=HC s c (DJ x.id c)) hje hlt2 h
   have hfit:=eY x.id c _ (AO hlt2)
   refine wz fun b8=>?_
   generalize (JK x.id c)[j]=r at hat2 hsu2 hfit ⊢
   refine Ag 8 ?_
   have i2:Av Tryz.prog r.f:=hfit.fn
   have i3: ∀ a:Atm,Bj Tryz.prog r.f (.agg (eAtm a)::r.cs) (.raw (.bool (OV c (DJ x.id c) r a))):=fun a=>⟨hfit.out a⟩
   have er:HC s c (DJ x.id c) r=if(IV s r.id).isSome=false then 7 else if OV c (DJ x.id c) r ((IV s r.id).getD Atm.zero)=false then 8 else 0:=rfl
   refine wf ?_
   refine Bn (xs:= [.tmp 29,.tmp 31]) (GU m kn2) LF (f:=156) (cs:= []) (Bu _) rfl rfl (.refl _) _ (kE s hg m kn2 hkn2 r.id) fun u L' ⟨e1,kn3,e2,hkn3⟩=>?_
   subst e1;rw[e2]
   rw[show GU m kn3++LF= .map m (Cq kDig (PD eAtm) kn3)::LF from rfl]
   refine wf ?_
   refine BN fun b9=>?_
   refine wo ?_
   refine AE ?_
   refine Ag 9 ?_
   refine wf ?_
   refine AU (fun h=>?_) (fun h=>?_)
   ·refine wf ?_
    have h:(IV s r.id).isSome=false:=KG h
    rw[if_pos h]at er
    refine⟨trivial,_,GU m kn3,.cons (.tmp 4) .nil,.refl _,?_,kn3,rfl,hkn3⟩
    have e3:=hat2 (by rw[er];decide)
    have e4:NT s x.id c=7:=by rw[NT,e3,er]
    rw[QO,hat (by rw[e4];decide),e4];rfl
   have h:(IV s r.id).isSome=true:=me h
   rw[if_neg (by simp[h])]at er
   refine wf ?_
   refine AU (fun h2=>?_) (fun h2=>?_)
   ·refine wf ?_
    have h2:OV c (DJ x.id c) r ((IV s r.id).getD Atm.zero)=false:=KG h2
    rw[if_pos h2]at er
    refine⟨trivial,_,GU m kn3,.cons (.tmp 4) .nil,.refl _,?_,kn3,rfl,hkn3⟩
    have e3:=hat2 (by rw[er];decide)
    have e4:NT s x.id c=8:=by rw[NT,e3,er]
    rw[QO,hat (by rw[e4];decide),e4];rfl
   ·have h2:OV c (DJ x.id c) r ((IV s r.id).getD Atm.zero)=true:=me h2
    rw[if_neg (by simp[h2])]at er
    refine wf ?_
    exact⟨(j+1,kn3),⟨by dsimp only;omega,hkn3,hsu2 er⟩,by dsimp only;omega,⟨rfl,rfl,rfl,rfl,rfl,rfl,rfl,rfl⟩,.refl _⟩
  ·have e0:NT s x.id c=0:=CN fun i h=>hje i h (by omega)
   refine wf ?_
   exact⟨(k+1,kn2),⟨by dsimp only;omega,hkn2,hsu e0⟩,by dsimp only;omega,⟨rfl,rfl,rfl,rfl,rfl⟩,.refl _⟩
 ·refine wf ?_
  refine⟨trivial,_,GU m kn,.cons (.tmp 4) .nil,.refl _,?_,kn,rfl,hkn⟩
  rw[QO,CN fun i h=>he i h (by omega)];rfl
theorem ao {s:List Sto} (h:Aq (El s) (List.range s.length)=0):Eo (ids s):=by
 refine IW fun i hi=>?_
 have hi:i+1 < s.length:=by simpa [ids]using hi
 have h4:=Dx h (i+1) (DS.2 hi)
 have e0:s.getD (i+1) Sto.zero=s[i+1]:=by simp[List.getD,hi]
 have e1:s.getD (i+1 - 1) Sto.zero=s[i]:=by
  have:i < s.length:=by omega
  simp[List.getD,this]
 unfold El at h4
 rw[e0,e1]at h4
 by_cases h5:(EW s[i+1].patch).2≠0
 ·rw[if_pos h5]at h4;exact absurd h4 h5
 rw[if_neg h5]at h4
 by_cases h6:(EW s[i+1].patch).1≠s[i+1].id
 ·rw[if_pos h6]at h4;exact absurd h4 (by decide)
 rw[if_neg h6]at h4
 have h6:(EW s[i+1].patch).1=s[i+1].id:=Ae.1 h6
 rw[h6]at h4
 by_cases h7:0 < ((i+1:Nat):Int)∧0≤DY s[i].id s[i+1].id
 ·rw[if_pos h7]at h4;exact absurd h4 (by decide)
 ·simp only[ids,BT]
  show DY s[i].id s[i+1].id < 0
  omega
theorem eO {s:List Sto} (h:Aq (El s) (List.range s.length)=0) {x:Sto} (hx:x∈s):(EW x.patch).2=0:=by
 obtain⟨i,hi,rfl⟩:=Ak.1 hx
 have h4:=Dx h i (DS.2 hi)
 have e0:s.getD i Sto.zero=s[i]:=by simp[List.getD,hi]
 unfold El at h4
 rw[e0]at h4
 by_cases h5:(EW s[i].patch).2≠0
 ·rw[if_pos h5]at h4;exact absurd h4 h5
 ·exact Ae.1 h5
theorem Xr (s:List Sto): ∀ n out,(NA s n out).length≤out.length+n
 |0,out=>by rw[NA];omega
 |n+1,out=>by
  rw[NA]
  split
  ·omega
  ·have:=Xr s n (out++ [(s.getD (Kf s out).toNat Sto.zero).id])
   rw[A7,CQ]at this
   omega
theorem Zn (s:List Sto):(Fv s).length≤s.length:=by
 have:=Xr s s.length []
 rw[Aa,B3]at this
 exact this
instance Td (s:List Sto) (t:CZ) [hs:B0 (DX s)]:Bj Tryz.prog 47 [.slice (s.map eSto) t] (.raw (.int .i64 (En s))):=⟨by
 have hg:=hs.out
 obtain⟨hl8,hgr⟩:=hg
 refine Aj Tryz.func47 Tryz.ntmps47 rfl (rs:= [.tmp 2]) rfl rfl fun hb LF=>?_
 refine wf ?_
 refine A1 (fun h1=>?_) (fun h1=>?_)
 ·omega
 rw[En,if_neg h1]
 refine wf ?_
 refine AV (σ:=Nat) (fun k=>k≤s.length∧ ∀ i (h:i < (List.range s.length).length),i < k→El s (List.range s.length)[i]=0) (fun k=>s.length - k) (fun k=> [(0,.slice (s.map eSto) t),(16,.slice (s.map eSto) t),(17,.raw (.int .i64 s.length)),(18,.raw (.int .i64 k))]) (fun _=>LF) 0 ⟨by simp,by simp⟩ ⟨rfl,rfl,rfl,rfl⟩ (.refl _) ?_
 rintro k ⟨hk,he⟩
 refine wf ?_
 refine A1 (fun hc=>?_) (fun hc=>?_)
 ·have hlt:k < s.length:=by omega
  have hltr:k < (List.range s.length).length:=by simpa using hlt
  have ek:(List.range s.length)[k]=k:=by simp
  have e0:s.getD k Sto.zero=s[k]:=by simp[List.getD,hlt]
  have i1:B0 (EA s[k].patch=false):=⟨hgr _ (AO hlt)⟩
  refine wf ?_
  refine BN fun b4=>?_
  refine wo ?_
  refine AE ?_
  refine Ag 4 ?_
  refine wf ?_
  refine BN fun b5=>?_
  refine wo ?_
  refine AE ?_
  refine Ag 5 ?_
  refine wf ?_
  refine AN (fun h2=>?_) (fun h2=>?_)
  ·refine wf ?_
   refine Al (.of_eq ?_)
   have e:El s (List.range s.length)[k]=(EW s[k].patch).2:=by rw[ek,El,e0,if_pos h2]
   have f:=CV hltr he (by rw[e];exact h2)
   rw[if_pos (by rw[f,e];exact h2),f,e]
  refine wf ?_
  refine AN (fun h3=>?_) (fun h3=>?_)
  ·refine wf ?_
   refine Al (.of_eq ?_)
   have e:El s (List.range s.length)[k]=13:=by rw[ek,El,e0,if_neg (by simp[h2]),if_pos h3]
   have f:=CV hltr he (by rw[e];decide)
   rw[if_pos (by rw[f,e];decide),f,e]
  refine wf ?_
  refine Aw (fun hp=>?_) (fun hp=>?_)
  ·have hp':0 < (k:Int):=An hp
   refine wf ?_
   have e1:s.getD (k - 1) Sto.zero=s[((k:Int) - 1).toNat]:=by
    have:((k:Int) - 1).toNat=k - 1:=by omega
    simp only[this]
    have h':k - 1 < s.length:=by omega
    simp[List.getD,h']
   refine A1 (fun h4=>?_) (fun h4=>?_)
   ·refine wf ?_
    refine Al (.of_eq ?_)
    have e:El s (List.range s.length)[k]=9:=by rw[ek,El,e0,e1,if_neg (by simp[h2]),if_neg (by simp[h3]),if_pos ⟨hp',h4⟩]
    have f:=CV hltr he (by rw[e];decide)
    rw[if_pos (by rw[f,e];decide),f,e]
   ·refine wf ?_
    have e:El s (List.range s.length)[k]=0:=by rw[ek,El,e0,e1,if_neg (by simp[h2]),if_neg (by simp[h3]),if_neg (fun h=>h4 h.2)]
    exact⟨k+1,⟨by omega,DT he hltr e⟩,by dsimp only;omega,⟨rfl,rfl,rfl,rfl⟩,.refl _⟩
  ·have hp': ¬0 < (k:Int):=B6 hp
   refine wf ?_
   have e:El s (List.range s.length)[k]=0:=by rw[ek,El,e0,if_neg (by simp[h2]),if_neg (by simp[h3]),if_neg (fun h=>hp' h.1)]
   exact⟨k+1,⟨by omega,DT he hltr e⟩,by dsimp only;omega,⟨rfl,rfl,rfl,rfl⟩,.refl _⟩
 have hA:Aq (El s) (List.range s.length)=0:=CN fun i h=>he i h (by simp at h;omega)
 have hasc:=ao hA
 have hid:=fun x (hx:x∈s)=>eO hA hx
 rw[if_neg (by simp[hA])]
 clear he hA hk hc
 refine wf ?_
 refine AV (σ:=Nat) (fun k=>k≤s.length∧ ∀ i (h:i < s.length),i < k→Ck (ids s) (BX s[i].patch)=true) (fun k=>s.length - k) (fun k=> [(0,.slice (s.map eSto) t),(53,.slice (s.map eSto) t),(54,.raw (.int .i64 s.length)),(55,.raw (.int .i64 k))]) (fun _=>LF) 0 ⟨by simp,by simp⟩ ⟨rfl,rfl,rfl,rfl⟩ (.refl _) ?_
 rintro k ⟨hk,he⟩
 refine wf ?_
 refine A1 (fun hc=>?_) (fun hc=>?_)
 ·have hlt:k < s.length:=by omega
  have i1:=fun t=>YN s t s[k].patch hasc (by omega) (hgr _ (AO hlt))
  refine wf ?_
  refine BN fun b8=>?_
  refine wo ?_
  refine AE ?_
  refine Ag 8 ?_
  refine wf ?_
  refine AU (fun h=>?_) (fun h=>?_)
  ·refine wf ?_
   refine Al (.of_eq ?_)
   have hx:Ck (ids s) (BX s[k].patch)=false:=KG h
   have hy:s.all (fun x=>Ck (ids s) (BX x.patch))=false:=Fe hlt hx
   rw[if_pos hy]
  ·refine wf ?_
   have hx:Ck (ids s) (BX s[k].patch)=true:=me h
   have hy: ∀ i (h:i < s.length),i < k+1→Ck (ids s) (BX s[i].patch)=true:=fun i hi hik=>by
    rcases BC i k with h'|h'
    ·exact he i hi h'
    ·have e:i=k:=by omega
     subst e;exact hx
   exact⟨k+1,⟨by omega,hy⟩,by dsimp only;omega,⟨rfl,rfl,rfl,rfl⟩,.refl _⟩
 have hB:s.all (fun x=>Ck (ids s) (BX x.patch))=true:=GL fun i h=>he i h (by omega)
 rw[if_neg (by simp[hB])]
 clear he hB hk hc
 have i3:=fun t=>dp s t hs.out hasc
 have hol:=Zn s
 refine wf ?_
 refine AN (fun h=>?_) (fun h=>?_)
 ·refine wf ?_
  refine Al (.of_eq ?_)
  rw[if_pos (by omega)]
 rw[if_neg (by omega)]
 refine wf ?_
 refine Bn (xs:= [.tmp 70]) [] LF (f:=104) (cs:= []) (Bu _) rfl rfl (.refl _) _ (NG s t) fun r L' ⟨m,e1,e2⟩=>?_
 subst e1;rw[e2]
 rw[show GU m []++LF= .map m (Cq kDig (PD eAtm) [])::LF from rfl]
 refine wf ?_
 refine wf ?_
 refine AV (σ:=Nat × List (Dig × List Atm)) (fun k=>k.1≤s.length∧IX s k.2∧ ∀ i (h:i < s.length),i < k.1→FP s s[i].patch s[i].id=0) (fun k=>s.length - k.1) (fun k=> [(9,.pt (Tu s m) 0),(72,.slice (s.map eSto) t),(73,.raw (.int .i64 s.length)),(74,.raw (.int .i64 k.1))]) (fun k=> .map m (Cq kDig (PD eAtm) k.2)::LF) (0,[]) ⟨by simp,fun d l h=>by simp[Dr]at h,by simp⟩ ⟨rfl,rfl,rfl,rfl⟩ (.refl _) ?_
 rintro⟨k,kn⟩ ⟨hk,hkn,he⟩
 dsimp only at hk hkn he ⊢
 refine wf ?_
 refine A1 (fun hc=>?_) (fun hc=>?_)
 ·have hlt:k < s.length:=by omega
  have hq:=XG s s[k].id (hid _ (AO hlt))
  refine wf ?_
  refine BN fun b11=>?_
  refine wo ?_
  refine AE ?_
  refine Ag 11 ?_
  refine wf ?_
  refine Bn (xs:= [.tmp 78,.tmp 79]) (GU m kn) LF (f:=105) (cs:= []) (Bu _) rfl rfl (.refl _) _ (UE s hs.out m kn hkn s[k] (hgr _ (AO hlt))) fun u L' ⟨e1,kn3,e2,hkn3⟩=>?_
  subst e1;rw[e2]
  rw[show GU m kn3++LF= .map m (Cq kDig (PD eAtm) kn3)::LF from rfl,hq]
  refine wf ?_
  refine wf ?_
  refine AN (fun h2=>?_) (fun h2=>?_)
  ·refine wf ?_
   refine Al (.of_eq ?_)
   rw[CV (f:=fun(x:Sto)=>FP s x.patch x.id) hlt he h2]
  ·refine wf ?_
   exact⟨(k+1,kn3),⟨by dsimp only;omega,hkn3,DT (f:=fun(x:Sto)=>FP s x.patch x.id) he hlt h2⟩,by dsimp only;omega,⟨rfl,rfl,rfl,rfl⟩,.refl _⟩
 ·refine wf ?_
  refine Al (.of_eq ?_)
  rw[CN (f:=fun(x:Sto)=>FP s x.patch x.id) fun i h=>he i h (by omega)]⟩
end Go.Proofs
