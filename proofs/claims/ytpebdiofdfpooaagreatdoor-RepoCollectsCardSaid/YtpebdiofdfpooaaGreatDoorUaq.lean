/- The small logic: what a statement's inputs are: from the data that a row speaks of to forms. Library, no statement of its own. -/
import Derived.Test.YtpebdiofdfpooaaGreatDoorUam
import Derived.ProofKit
import Derived.SizedLaws
import Derived.OpenShut
import Derived.Test.YtpebdiofdfpooaaGreatDoorUap
import Derived.Test.YtpebdiofdfpooaaGreatDoorUan
import Derived.Test.YtpebdiofdfpooaaGreatDoorUal
import Derived.Test.YtpebdiofdfpooaaGreatDoorUao
set_option linter.unusedSimpArgs false
set_option linter.unusedVariables false
set_option maxHeartbeats 8000000
namespace Go.Q
open Go
theorem fy {w:World} {b o s:Nat}:w.cell? ⟨b,o,some s⟩=none:=by
 unfold World.cell?
 split<;>simp
def DY (P:Program) (t:Nat) (F:List PV→Prop):Prop:=
 ∀ (H:Type) (enc:TypeId × Value→H) (w:World) (g:Gh),(∀ b o v,w.cell? ⟨b,o,none⟩=some v→g.H b o=some v)→ ∀ (base:Nat) (held:Bool) (fuel:Nat) (cs:List Value) (x:DataW H × List MemPlace),
   DataW.trod enc P w base (fun _=>true) held fuel t cs=some x→(∀ n∈x.1.weights P t,n≤reachBytes)→ ∃ xs,F xs∧E8 g cs xs
theorem DY.to {P:Program} {t:Nat} {F G:List PV→Prop} (h:DY P t F) (hg: ∀ xs,F xs→G xs):DY P t G:=fun H enc w g hc base held fuel cs x ht hw=>by
 obtain⟨xs,h1,h2⟩:=h H enc w g hc base held fuel cs x ht hw
 exact⟨xs,hg xs h1,h2⟩
theorem fQ {P:Program} {t:Nat} {k:IntKind} (ht:P.underlying t=some (.int k)):DY P t (fun xs=> ∃ n,(Lit.int k n).wf=true∧xs= [.raw (.int k n)]):=fun H enc w g hc base held fuel cs x h hw=>by
 obtain⟨n,rfl,rfl,h1⟩:=DataW.trod_int ht h
 exact⟨_,⟨n,h1,rfl⟩,.cons (.raw _) (.nil g)⟩
theorem au {P:Program} {t:Nat} (ht:P.underlying t=some .bool):DY P t (fun xs=> ∃ b,xs= [.raw (.bool b)]):=fun H enc w g hc base held fuel cs x h hw=>by
 obtain⟨b,rfl,rfl⟩:=DataW.trod_bool ht h
 exact⟨_,⟨b,rfl⟩,.cons (.raw _) (.nil g)⟩
theorem fO {P:Program} {t:Nat} (ht:P.underlying t=some .string):DY P t (fun xs=> ∃ s,xs= [.str s]):=fun H enc w g hc base held fuel cs x h hw=>by
 obtain⟨s,rfl,rfl,h1⟩:=DataW.trod_string ht h
 have h2:s.data.toList.length≤maxN:=by
  have:=hw s.data.toList.length (by simp[DataW.weights])
  have h3:=reachBytes_lt
  unfold maxN;omega
 refine⟨_,⟨s.data.toList,rfl⟩,.cons ?_ (.nil g)⟩
 have:=VR.str (g:=g) h2
 simpa using this
theorem Ps {H:Type} {P:Program} {e:Nat}: ∀ {l:List (DataW H)} {d:DataW H},d∈l→ ∀ n∈d.weights P e,n∈DataW.weightsAll P e l
 |x::l,d,hd,n,hn=>by
  simp only[DataW.weightsAll,Ai]
  rcases AQ.1 hd with rfl|hd
  ·exact .inl hn
  ·exact .inr (Ps hd n hn)
theorem Yv {P:Program} {t e sz by_:Nat} {F:List PV→Prop} (ht:P.underlying t=some (.slice e)) (hc:P.cellsOf e=sz) (hb:P.bytesOf e=by_) (h0:0 < sz) (hsb:sz≤by_) (hF: ∀ ys,F ys→ys.length=sz) (h:DY P e F):
  DY P t (fun xs=> ∃ yss:List (List PV),(∀ ys∈yss,F ys)∧xs= [.slice yss .ro]):=fun H enc w g hg base held fuel cs x hx hw=>by
 rcases DataW.trod_slice ht hx with ⟨rfl,rfl⟩|⟨a,len,cap,elems,rest,n,rfl,rfl,rfl,h1,h2,h3,h4,h5,h6,h7⟩
 ·exact⟨_,⟨[],by simp,rfl⟩,.cons .nilR (.nil g)⟩
 subst hc
 have hwe: ∀ y∈elems,∀ n∈y.1.weights P e,n≤reachBytes:=fun y hy n hn=>hw n (by
  simp only[DataW.weights,ht,AQ,Ai]
  exact .inr (.inl (Ps (List.mem_map_of_mem hy) n hn)))
 have hbytes:len*by_≤reachBytes:=by
  have:=hw ((elems.length+rest.length)*P.bytesOf e) (by simp[DataW.weights,ht])
  rw[hb,h4]at this
  exact CX (Au _ (by omega)) this
 obtain⟨hrl,hr⟩:=h6 rfl
 obtain⟨b,off,spot⟩:=a
 have cellspot: ∀ i cs',i=0→w.cells? base (Addr.add ⟨b,off,spot⟩ (i*P.cellsOf e)) (P.cellsOf e)=some cs'→spot=none:=fun i cs' hi hcs=>by
  subst hi
  obtain⟨_,hl,hc⟩:=World.cells?_some hcs
  have:=hc 0 h0
  rw[AZ (by omega)]at this
  have e0:Addr.add (Addr.add ⟨b,off,spot⟩ (0*P.cellsOf e)) 0=⟨b,off,spot⟩:=by simp[Addr.add]
  rw[e0]at this
  cases spot with
  |none=>rfl
  |some s=>rw[fy]at this;cases this
 have hspot:spot=none∨(len=0∧cap=0):=by
  by_cases hl:len=0
  ·by_cases hcp:cap=0
   ·exact .inr ⟨hl,hcp⟩
   ·left
    have:=hr 0 (by omega)
    have hlt:0 < rest.length:=by omega
    rw[AZ hlt,El]at this
    obtain⟨cs',hcs,_⟩:=this
    exact cellspot _ cs' (by omega) hcs
  ·left
   have:=h5 0 (by omega)
   have hlt:0 < elems.length:=by omega
   rw[AZ hlt,El]at this
   obtain⟨cs',hcs,_⟩:=this
   exact cellspot _ cs' (by omega) hcs
 rcases hspot with rfl|⟨rfl,rfl⟩
 ·have key: ∀ m,m≤len→ ∃ (us:List Value) (yss:List (List PV)),yss.length=m∧us.length=m*P.cellsOf e∧(∀ ys∈yss,F ys)∧E8 g us yss.flatten∧ ∀ j (hj:j < us.length),w.cell? ⟨b,off+j,none⟩=some us[j]:=by
   intro m
   induction m with
   |zero=>intro _;exact⟨[],[],rfl,by simp,by simp,.nil g,fun j hj=>absurd hj (by simp)⟩
   |succ m ih=>
    intro hm
    obtain⟨us,yss,k1,k2,k3,k4,k5⟩:=ih (by omega)
    have hlt:m < elems.length:=by omega
    have:=h5 m (by omega)
    rw[AZ hlt,El]at this
    obtain⟨cs',hcs,hy⟩:=this
    obtain⟨_,hl,hcc⟩:=World.cells?_some hcs
    obtain⟨ys,f1,f2⟩:=h H enc w g hg base held n cs' _ hy (hwe _ (AK hlt))
    refine⟨us++cs',yss++ [ys],by simp[k1],by rw[A8,k2,hl,Bq];omega,fun z hz=>?_,?_,fun j hj=>?_⟩
    ·rcases Ai.1 hz with hz|hz
     ·exact k3 z hz
     ·rw[B1.1 hz];exact f1
    ·rw[C8]
     have:E8 g cs' [ys].flatten:=by simpa using f2
     exact k4.append this
    ·by_cases hju:j < us.length
     ·rw[Bh hju];exact k5 j hju
     ·rw[C5 (by omega)]
      have hj2:j - us.length < cs'.length:=by rw[A8]at hj;omega
      have:=hcc (j - us.length) (by omega)
      rw[AZ hj2]at this
      have e2:off+j=off+m*P.cellsOf e+(j - us.length):=by rw[←k2];omega
      rw[←this,e2,DN,DN]
  obtain⟨us,yss,k1,k2,k3,k4,k5⟩:=key len (B5 _)
  refine⟨_,⟨yss,k3,rfl⟩,.cons ?_ (.nil g)⟩
  have hr2:=reachBytes_lt
  have hb1:len*P.cellsOf e≤len*by_:=HV _ hsb
  have hb2:len≤len*P.cellsOf e:=Nat.le_mul_of_pos_right _ h0
  have:=VR.of_cells (g:=g) (xs:=yss) (t:= .ro) (sz:=P.cellsOf e) (b:=b) (off:=off) (cap:=cap) (fun y hy=>hF y (k3 y hy)) (by omega) (by rw[k1];unfold maxN;omega) k4 (fun j hj=>hg _ _ _ (k5 j hj)) (by simp) (by simp)
  rw[k1]at this
  exact this
 ·exact⟨_,⟨[],by simp,rfl⟩,.cons .nilR (.nil g)⟩
def Qx:TypeDesc→Option (List (Nat × Nat))
 | .struct fs=>some (fs.toList.map fun f=>(f.type,f.offset))
 |_=>none
inductive Zq (P:Program):List (Nat × Nat)→List (List PV→Prop)→Nat→Nat→Prop
 |nil (n:Nat):Zq P [] [] n n
 |cons {t o n:Nat} {r:List (Nat × Nat)} {F:List PV→Prop} {Fs:List (List PV→Prop)} (sz:Nat) (hs:P.cellsOf t=sz) (h:DY P t F) (k:Zq P r Fs (o+sz) n):Zq P ((t,o)::r) (F::Fs) o n
inductive mA:List (List PV→Prop)→List (List PV)→Prop
 |nil:mA [] []
 |cons {F:List PV→Prop} {Fs:List (List PV→Prop)} {y:List PV} {ys:List (List PV)} (h:F y) (k:mA Fs ys):mA (F::Fs) (y::ys)
theorem QK {P:Program} {H:Type} {enc:TypeId × Value→H} {w:World} {g:Gh} (hg: ∀ b o v,w.cell? ⟨b,o,none⟩=some v→g.H b o=some v) {base fuel:Nat} {held:Bool} {cs:List Value}:
  ∀ {r:List (Nat × Nat)} {Fs:List (List PV→Prop)} {o n:Nat},Zq P r Fs o n→cs.length=n→
    (∀ (i t o:Nat),r[i]? =some (t,o)→ ∃ x,DataW.trod enc P w base (fun _=>true) held fuel t ((cs.drop o).take (P.cellsOf t))=some x∧ ∀ n∈x.1.weights P t,n≤reachBytes)→ ∃ yss,mA Fs yss∧E8 g (cs.drop o) yss.flatten
 |_,_,_,_,.nil n,hn,_=>⟨[],.nil,by rw[Cp (by omega)];exact .nil g⟩
 |_,_,_,_,.cons (t:=t) (o:=o) sz hs h k,hn,hx=>by
  obtain⟨x,h1,h2⟩:=hx 0 t o rfl
  obtain⟨ys,f1,f2⟩:=h H enc w g hg base held fuel _ x h1 h2
  obtain⟨yss,k1,k2⟩:=QK hg k hn (fun i t o hi=>hx (i+1) t o (by simpa using hi))
  refine⟨ys::yss,.cons f1 k1,?_⟩
  rw[hs]at f2
  have:=f2.append k2
  rw[←Lh,C4]at this
  simpa using this
theorem Fh {P:Program} {t n:Nat} {r:List (Nat × Nat)} {Fs:List (List PV→Prop)} (hr:(P.underlying t).bind Qx=some r) (hn:P.cellsOf t=n) (h:Zq P r Fs 0 n):DY P t (fun xs=> ∃ yss,mA Fs yss∧xs=yss.flatten):=fun H enc w g hg base held fuel cs x hx hw=>by
 obtain⟨td,h1,h2⟩:=El.1 hr
 obtain⟨fs,rfl⟩: ∃ fs,td= .struct fs:=by
  cases td<;>simp[Qx]at h2
  exact⟨_,rfl⟩
 simp only[Qx,Fo]at h2
 obtain⟨xs,m,rfl,rfl,k1,k2,k3⟩:=DataW.trod_struct h1 hx
 obtain⟨yss,j1,j2⟩:=QK (enc:=enc) (w:=w) (base:=base) (held:=held) (fuel:=m) hg (cs:=cs) h (by rw[k1,hn]) (fun i t' o hi=>by
  rw[←h2,H9,Bj]at hi
  obtain⟨f,hf,e⟩:=hi
  obtain⟨e1,e2⟩:=Prod.mk.inj e
  subst e1 e2
  have hf':fs[i]? =some f:=by simpa using hf
  have hlt:i < xs.length:=by
   rw[k2]
   exact(BP.1 hf').1
  refine⟨xs[i],by rw[k3 i f hf',AZ hlt],fun n hn=>hw n ?_⟩
  simp only[DataW.weights,h1]
  exact DataW.weights_mem_each (j:=i) (t:=f.type) (d:=xs[i].1) (by simp[hf']) (by simp[hlt]) n hn)
 exact⟨_,⟨yss,j1,rfl⟩,by simpa using j2⟩
theorem Tw {α:Type} {f:α→List PV}: ∀ {yss:List (List PV)},(∀ ys∈yss,∃ a,ys=f a)→ ∃ l:List α,yss=l.map f
 | [],_=>⟨[],rfl⟩
 |y::yss,h=>by
  obtain⟨a,ha⟩:=h y AI
  obtain⟨l,hl⟩:=Tw (yss:=yss) (fun z hz=>h z (AD _ hz))
  exact⟨a::l,by rw[ha,hl];rfl⟩
theorem DY.list {P:Program} {t e sz by_:Nat} {α:Type} {f:α→List PV} (h:DY P e (fun xs=> ∃ a,xs=f a)) (hf: ∀ a,(f a).length=sz) (ht:P.underlying t=some (.slice e)) (hc:P.cellsOf e=sz) (hb:P.bytesOf e=by_) (h0:0 < sz) (hsb:sz≤by_):DY P t (fun xs=> ∃ l:List α,xs= [.slice (l.map f) .ro]):=
 DY.to (Yv ht hc hb h0 hsb (fun ys ⟨a,ha⟩=>by rw[ha];exact hf a) h) fun xs ⟨yss,h1,h2⟩=>by
  obtain⟨l,rfl⟩:=Tw h1
  exact⟨l,h2⟩
theorem fR {P:Program} {t e:Nat} (ht:P.underlying t=some (.array 32 e)) (he:P.underlying e=some (.int .u8)) (hc:P.cellsOf t=32) (hce:P.cellsOf e=1):DY P t (fun xs=> ∃ d,xs=eDig d):=fun H enc w g hg base held fuel cs x hx hw=>by
 obtain⟨xs,m,rfl,rfl,k1,k2,k3⟩:=DataW.trod_array ht hx
 rw[hc]at k1
 have each: ∀ i (hi:i < cs.length),∃ b:UInt8,cs[i]= .int .u8 b.toNat:=fun i hi=>by
  have:=k3 i (by omega)
  rw[AZ (by omega),hce,JS]at this
  obtain⟨n,e1,_,hwf⟩:=DataW.trod_int he this
  have e2:(cs.drop i).take 1= [cs[i]]:=by
   rw[EW hi];rfl
  rw[e2]at e1
  simp only[O8,and_true]at e1
  simp[Lit.wf,IntKind.min,IntKind.max,IntKind.signed,IntKind.bits]at hwf
  refine⟨n.toNat.toUInt8,?_⟩
  rw[e1]
  congr 1
  simp
  omega
 have: ∀ l:List Value,(∀ v∈l,∃ b:UInt8,v= .int .u8 b.toNat)→ ∃ bs:List UInt8,l=bs.map u8:=by
  intro l
  induction l with
  |nil=>intro _;exact⟨[],rfl⟩
  |cons v l ih=>
   intro h
   obtain⟨b,rfl⟩:=h v AI
   obtain⟨bs,rfl⟩:=ih (fun v hv=>h v (AD _ hv))
   exact⟨b::bs,rfl⟩
 obtain⟨bs,rfl⟩:=this cs (fun v hv=>by
  obtain⟨i,hi,rfl⟩:=AX.1 hv
  exact each i hi)
 refine⟨_,⟨⟨bs,by simpa using k1⟩,rfl⟩,?_⟩
 refine⟨by simp[eDig],fun i h1 h2=>?_⟩
 simp[eDig,eU8]
 exact .raw _
def K0 (w:World):Gh:=⟨fun b o=>w.cell? ⟨b,o,none⟩,fun b=>if b=globAt then some (.row pow10Tab)else none⟩
theorem OX {w:World} (h: ∃ T p,w.heap[globAt]? =some (.cells pow10Tab.toArray T p)):DJ w (K0 w) []:=
 ⟨fun _ _ _ h=>h,fun b z hz=>(by
  simp only[K0]at hz
  split at hz
  ·rename_i e;subst e;cases hz;exact h
  ·cases hz),by simp,List.nodup_nil,⟨by simp[K0]⟩⟩
section
variable {P:Program} {N:Nat} {Q:PPost} {all:Array Oper} {K:Env→List Res→Prop}
theorem jr {bar:Nat→Bool} {j:Nat} {oi oj:Oper} {x:PV} (hj:all[j]? =some oj) (hap:oi.apart all oj=true) {K:Env→List Res→Prop} {ρ:Env} {L:List Res}
  (hy: ∀ L,YQ P all oi ρ L x) (h:Yo P N all bar j K (updo ρ oi.dst x) L):Yo P N all bar j (fun ρ' L'=>(∀ L,YQ P all oi ρ' L x)∧K (updo ρ' oi.dst x) L') ρ L:=by
 obtain⟨h1,h2,h3⟩:=Oper.apart_spec hap
 unfold Yo at*
 simp only[hj]at*
 obtain⟨hd,h⟩:=h
 have cj: ∀ s,s∈oj.looksAt all→updo ρ oi.dst x s=ρ s:=fun s hs=>OB fun d hd e=>h1 d hd (e ▸ hs)
 have ci: ∀ u,∀ L,YQ P all oi (updo ρ oj.dst u) L x:=fun u L=>(hy L).congr fun s hs=>(OB fun d hd e=>h3 d hd (e ▸ hs)).symm
 refine⟨hd,?_⟩
 rcases h with ⟨u,hu,hk⟩|⟨hb,hg,ho⟩
 ·refine .inl ⟨u,hu.congr cj,ci u,?_⟩
  rw[Qq ρ u x (fun d hd e=>h2 d e hd)];exact hk
 ·refine .inr ⟨hb,hg.congr cj,(FZ.congr (Ry cj) ho).mono fun u L' hk=>⟨ci u,?_⟩⟩
  rw[Qq ρ u x (fun d hd e=>h2 d e hd)];exact hk
theorem Yr {bar:Nat→Bool} {i:Nat} {oi:Oper} {x:PV} (hi:all[i]? =some oi) (hdi: ∀ d,oi.dst=some d→d < N):
  ∀ (fuel:Nat) (listed:Array Bool) (ρ:Env) (L:List Res),JR all listed→
    (∀ j oj,all[j]? =some oj→j≠i→listed.getD j true=false→(∀ e∈oj.after,Region.binds .any e=true→e.on≠i)→oi.apart all oj=true)→
    i∈Region.ready .any all listed→(∀ L,YQ P all oi ρ L x)→
    H2 P N all bar K fuel (listed.setIfInBounds i true) (updo ρ oi.dst x) L→H2 P N all bar K (fuel+1) listed ρ L:=by
 intro fuel
 have self: ∀ (listed:Array Bool) (ρ:Env) (L:List Res) (n:Nat),YQ P all oi ρ L x→H2 P N all bar K n (listed.setIfInBounds i true) (updo ρ oi.dst x) L→
   Yo P N all bar i (H2 P N all bar K n (listed.setIfInBounds i true)) ρ L:=fun listed ρ L n hy H=>by
  unfold Yo;simp only[hi];exact⟨hdi,.inl ⟨x,hy,H⟩⟩
 induction fuel with
 |zero=>
  intro listed ρ L hc _ hr hy H
  refine⟨fun h=>(by rw[h]at hr;cases hr),fun j hj=>?_⟩
  by_cases hji:j=i
  ·subst hji;exact self _ _ _ _ (hy L) H
  ·have:=ready_mono hj hji
   rw[H.1]at this
   cases this
 |succ fuel ih=>
  intro listed ρ L hc hfree hr hy H
  refine⟨fun h=>(by rw[h]at hr;cases hr),fun j hj=>?_⟩
  by_cases hji:j=i
  ·subst hji;exact self _ _ _ _ (hy L) H
  ·have h1:=H.2 j (ready_mono hj hji)
   obtain⟨hjun,oj,hoj,hall⟩:=mem_ready.1 hj
   have hiun:=(mem_ready.1 hr).1
   have hnot: ∀ e∈oj.after,Region.binds .any e=true→e.on≠i:=fun e he hb heq=>by
    have h1:=hall e he hb
    rw[heq]at h1
    rcases BB i listed.size with h'|h'
    ·simp[h']at hiun h1;rw[hiun]at h1;cases h1
    ·simp[Bk h']at h1
   have h2:=jr hoj (hfree j oj hoj hji hjun hnot) hy h1
   have hfree': ∀ k ok,all[k]? =some ok→k≠i→(listed.setIfInBounds j true).getD k true=false→
     (∀ e∈ok.after,Region.binds .any e=true→e.on≠i)→oi.apart all ok=true:=fun k ok hk hki hun hno=>by
    refine hfree k ok hk hki ?_ hno
    by_cases hjk:j=k
    ·subst hjk;exact hjun
    ·rw[getD_set_ne true hjk]at hun;exact hun
   refine Yn (fun ρ' L' h3=>?_) h2
   obtain⟨h4,h5⟩:=h3
   refine ih (listed.setIfInBounds j true) ρ' L' (hc.set hj) hfree' (ready_mono hr (Ne.symm hji)) h4 ?_
   rw[xc _ _ hji]
   exact h5
def Fj (all:Array Oper) (listed:Array Bool):Bool:=listed.size==all.size&&(List.range all.size).all fun j=>match all[j]? with
 |some oj=>!listed.getD j false||oj.after.all fun e=>!Region.binds .any e||listed.getD e.on false
 |none=>true
theorem Xi {listed:Array Bool} (h:Fj all listed=true):JR all listed:=by
 simp only[Fj,Bu,beq_iff_eq,Ar,DQ]at h
 obtain⟨h1,h2⟩:=h
 refine⟨h1,fun j oj hj hl e he hb=>?_⟩
 have:=h2 j (BP.1 hj).1
 simp only[hj,hl,aB,Ic,EA]at this
 have:=this e he
 simpa [hb]using this
theorem Eg {bar:Nat→Bool} {fuel:Nat} {listed:Array Bool} {ρ:Env} {L:List Res} (i:Nat) {d:Nat} {op:Op} {ty:TypeId} {pos:String} {af:Array Edge} {x:PV} (h0:all[i]? =some ⟨some d,op,ty,pos,af,none⟩)
  (hB:(Fj all listed&&Region.free .any all listed i&&(Region.ready .any all listed).contains i)=true) (hd:Nat.blt d N=true)
  (hq: ∀ L,gL P ⟨some d,op,ty,pos,af,none⟩ ρ L x) (k:H2 P N all bar K fuel (listed.setIfInBounds i true) (CN ρ d x) L):H2 P N all bar K (fuel+1) listed ρ L:=by
 simp only[Bu]at hB
 obtain⟨⟨h1,h2⟩,h3⟩:=hB
 exact Yr (x:=x) h0 (Qn hd) fuel listed ρ L (Xi h1) (Region.free_spec h0 h2) (by simpa using h3) (fun L=> .inr ⟨by unfold Qm;trivial,hq L⟩) k
theorem EB {id:Nat} {l:List Oper} {ρ:Env} {L:List Res} (bs:List Nat) [hm:lg P] (hG:Ly l.toArray N=true)
  (h:H2 P N l.toArray (fun k=>bs.contains k) (Q .normal) l.length (Array.replicate l.length false) ρ L):EG P N (.region id l.toArray true) Q ρ L:=fun ro base a w g hst=>by
 refine wpIn_region_any hm.out ?_
 have hi:=hst.inv
 have hst0:Ez (Al L) w g { w with drawn:=w.drawn+1 } g:=⟨rfl,rfl,⟨rfl,Xo _⟩,B5 _,fun _ _ _=>rfl,.refl g,fun _ _ _=>⟨fun _=>rfl,rfl⟩⟩
 have hi':DJ { w with drawn:=w.drawn+1 } g L:=⟨hi.sat,fun b z hz=>(hi.satM b z hz).congr rfl,fun r hr=>by have:=hi.res r hr;cases r<;>first|exact this|(rename_i t _ _;cases t<;>exact this),hi.nodup,hi.glob⟩
 have k:=Ow (ro:=ro) (base:=base) (Q:=Q) (w₀:=w) (g₀:=g) (L₀:=L) (fun _ _ h=>h) hG _ _ ρ L a _ g hst.agr hi' hst0 (.refl _ _) h
 simpa using k
end
theorem FM {P:Program} {N:Nat} {o:Oper} {ρ:Env} {d:Nat} {x:PV} {L:List Res} (hd:o.dst=some d) (hg:o.guard=none) (h:AY P N #[] (fun ρ' L'=>ρ' d=x∧L'=L) [false] [o] ρ L):gL P o ρ L x:=by
 obtain⟨_,h⟩:=h
 rcases h with ⟨hno,_⟩|⟨_,⟨y,hq,h1,_⟩|⟨hf,_⟩⟩
 ·unfold lu at hno
  rw[hg]at hno
  exact hno.elim
 ·rw[hd]at h1
  have:y=x:=by
   rw[←h1]
   show y=CN ρ d y d
   rw[CK]
  rw[←this];exact hq
 ·cases hf
theorem Av {P:Program} {N:Nat} {all:Array Oper} {K:Env→List Res→Prop} {bar:Nat→Bool} (fuel:Nat) {listed:Array Bool} {ρ:Env} {L:List Res} (i:Nat) {o:Oper}
  (k:AY P N all (fun ρ L=>H2 P N all bar K fuel (listed.setIfInBounds i true) ρ L) [bar i] [o] ρ L) (hr:Region.ready .any all listed= [i]:=by decide+kernel) (ho:all[i]? =some o:=by exact rfl):
  H2 P N all bar K (fuel+1) listed ρ L:=De [i] hr (by simp) fun j hj=>by
 simp only[AQ,BF,or_false]at hj
 subst hj
 exact⟨o,ho,k⟩
theorem Aw {P:Program} {N:Nat} {all:Array Oper} {K:Env→List Res→Prop} {bar:Nat→Bool} {fuel:Nat} {listed:Array Bool} {ρ:Env} {L:List Res} (i:Nat) {d:Nat} {op:Op} {ty:TypeId} {pos:String} {af:Array Edge} {x:PV}
  (k:H2 P N all bar K fuel (listed.setIfInBounds i true) (CN ρ d x) L) (h0:all[i]? =some ⟨some d,op,ty,pos,af,none⟩:=by exact rfl)
  (hB:(Fj all listed&&Region.free .any all listed i&&(Region.ready .any all listed).contains i)=true:=by decide+kernel) (hd:Nat.blt d N=true:=by exact rfl)
  (hq: ∀ L,AY P N #[] (fun ρ' L'=>ρ' d=x∧L'=L) [false] [⟨some d,op,ty,pos,af,none⟩] ρ L:=by
   intro _
   refine wo ?_
   refine AN ?_
   exact⟨CK _ _ _,rfl⟩):H2 P N all bar K (fuel+1) listed ρ L:=
 Eg i h0 hB hd (fun L=>FM rfl rfl (hq L)) k
end Go.Q
namespace Go.Proofs
open Go Go.Q
attribute [local irreducible] EG AY H2 B2 FZ
instance y8 (x:Ident) (d:Dig):Bl Tryz.prog 275 [.agg (eIdent x),.pt (eDig d) 0] (.agg (eIdent (Dp x d))):=⟨by
 refine Ak Tryz.func275 Tryz.ntmps275 rfl (rs:= [.cell 3 98]) rfl rfl fun hb LF=>?_
 refine gQ fun b2=>?_
 refine BR fun b3=>?_
 refine wf ?_
 refine An (fun hp=>?_) (fun hp=>?_)
 ·have h0:x.patch=Dig.zero:=by simpa using hp
  refine wf ?_
  refine A1 (fun h=>?_) (fun h=>?_)
  ·refine wf ?_
   refine FW rfl (.of_eq ?_)
   rw[Dp,if_pos ⟨h0,h⟩]
  ·refine wf ?_
   refine FW rfl (.of_eq ?_)
   rw[Dp,if_neg (fun h'=>h h'.2)]
 ·have h0: ¬x.patch=Dig.zero:=by simpa using hp
  refine wf ?_
  refine FW rfl (.of_eq ?_)
  rw[Dp,if_neg (fun h'=>h0 h'.1)]⟩
def gb (d:Dig) (a:Atm):Atm:={ a with id:=Dp a.id d }
def pA (d:Dig) (a:Atm):Atm:=if a.kind≠7 then { a with file:=Dp a.file d }else a
def oz (d:Dig) (a:Atm):Atm:=if a.kind=2 then { a with parent:=Dp a.parent d }else a
def oy (d:Dig) (a:Atm):Atm:=if a.kind=6 then { a with src:=Dp a.src d,dst:=Dp a.dst d }else a
def um (d:Dig) (a:Atm):Atm:={ a with over:=sortI (a.over.map fun y=>Dp y d) }
def fP (d:Dig) (a:Atm):Atm:=um d (oy d (oz d (pA d (gb d a))))
def JQ (p:Pat):List Atm × Int:=if(L9 p).2.2≠0 then([],(L9 p).2.2)else if(EF p).2≠0 then([],(EF p).2)else((L9 p).1.map (fP (EF p).1),0)
theorem Ze (p:Pat) (hs:EE p=false):Bl Tryz.prog 232 [.agg (CP p)] (.tuple [.slice ((JQ p).1.map eAtm) .ro,.raw (.int .i64 (JQ p).2)]):=⟨by
 have i0:B3 (EE p=false):=⟨hs⟩
 refine Ak Tryz.func232 Tryz.ntmps232 rfl (rs:= [.tmp 2,.tmp 3]) rfl rfl fun hb LF=>?_
 repeat(refine DU ?_)
 refine CC (by kernel_rfl) ?_
 refine wo ?_
 refine AN ?_
 repeat(refine DU ?_)
 refine CC (by kernel_rfl) ?_
 refine YI (by rfl) (hl:=(by infer_instance)) ?_
 refine Bo (xs:= [.tmp 15]) [] LF (f:=181) (cs:= []) (Bx _) rfl rfl (.refl _) _ (ZY p hs) fun r L' ⟨x,y,e,hor⟩=>?_
 subst e
 refine wf ?_
 refine wf ?_
 rcases hor with ⟨hne,rfl⟩|⟨he0,v,rfl,hrow,hll⟩
 ·refine AL (fun h=>?_) (fun h=>absurd h hne)
  refine wf ?_
  refine GM ?_
  rw[JQ,if_pos hne]
  exact .tuple2 (.ros rfl) (.refl _)
 refine AL (fun h=>absurd he0 h) (fun h=>?_)
 refine wf ?_
 refine BR fun b7=>?_
 refine wo ?_
 refine AN ?_
 refine Ag 7 ?_
 refine wf ?_
 refine AL (fun h2=>?_) (fun h2=>?_)
 ·refine Mf (fun i=> .inl rfl) (Dk L' LF) ?_
  refine wf ?_
  refine GM ?_
  rw[JQ,if_neg (by simp[he0]),if_pos h2]
  exact .tuple2 (.ros rfl) (.refl _)
 have e1:JQ p=((L9 p).1.map (fP (EF p).1),0):=by rw[JQ,if_neg (by simp[he0]),if_neg (by simpa using h2)]
 rw[e1]
 have hov: ∀ a∈(L9 p).1,a.over.length≤40:=fun a ha=>by
  unfold L9 at ha
  split at ha
  ·cases ha
  ·split at ha
   ·cases ha
   ·exact(P3 hs).2 a ha
 generalize (L9 p).1=l at hrow hll hov ⊢
 generalize (EF p).1=g
 obtain⟨⟨o,cc,ev⟩,_⟩:=hrow.slice
 rw[AR]at ev
 subst ev
 refine wf ?_
 refine FS rfl ?_
 refine wf ?_
 refine AW (σ:=Nat × List Res) (fun k=>k.1≤l.length∧E9 180 172 (.slice o l.length cc) (((l.take k.1).map (fP g)++l.drop k.1).map eAtm) k.2) (fun k=>l.length - k.1) (fun k=> [(4,.raw (.slice o l.length cc)),(8,.clo 275 [.pt (eDig g) 0]),(32,.raw (.slice o l.length cc)),(33,.raw (.int .i64 l.length)),(34,.raw (.int .i64 k.1))]) (fun k=>k.2++LF) (0,_) ⟨by simp,by simpa using hrow⟩ ⟨rfl,rfl,rfl,rfl,rfl⟩ (.refl _) ?_
 rintro⟨k,R⟩ ⟨hk,hR⟩
 dsimp only at hk hR ⊢
 refine wf ?_
 refine A1 (fun hc=>?_) (fun hc=>?_)
 ·have hlt:k < l.length:=by omega
  obtain⟨xs,hxs⟩: ∃ xs,xs=((l.take k).map (fP g)++l.drop k).map eAtm:=⟨_,rfl⟩
  rw[←hxs]at hR
  have hlk:xs.length=l.length:=by rw[hxs];simp;omega
  have hel:xs[k]'(by omega)=eAtm l[k]:=by
   subst hxs
   rw[BT,C5 (by simp;omega),H8]
   congr 2
   simp;omega
  obtain⟨r,rest,rfl,rfl,hn,hcl,hsz,hcc⟩:=hR.inv (by omega)
  have isub:Xl (xs.flatten++rest) (0+k*172) 172 (eAtm l[k]):=by
   rw[←hel];exact QY hsz (by omega)
  refine wf ?_
  refine H5 (k:=k) rfl rfl hlt ?_
  refine wf ?_
  refine BR fun b10=>?_
  refine wf ?_
  refine Kf True [(4,.raw (.slice (some ⟨r,0,none⟩) l.length cc)),(8,.clo 275 [.pt (eDig g) 0]),(9,.raw (.int .i64 k)),(10,.raw (.pointer (some ⟨b10,0,none⟩))),(32,.raw (.slice (some ⟨r,0,none⟩) l.length cc)),(33,.raw (.int .i64 l.length)),(34,.raw (.int .i64 k))] (.box b10 180 (eAtm (pA g (gb g l[k]))):: .box r 180 (xs.flatten++rest)::LF) ?_ fun _=>?_
  ·refine AL (fun h=>?_) (fun h=>?_)
   ·refine wf ?_
    rw[show pA g (gb g l[k])= { gb g l[k]with file:=Dp l[k].file g } by rw[pA,if_pos (show(gb g l[k]).kind≠7 from h)];rfl]
    exact⟨trivial,⟨rfl,rfl,rfl,rfl,rfl,rfl,rfl⟩,.refl _⟩
   ·refine wf ?_
    rw[show pA g (gb g l[k])=gb g l[k] by rw[pA,if_neg (show ¬(gb g l[k]).kind≠7 from fun h'=>h' h)]]
    exact⟨trivial,⟨rfl,rfl,rfl,rfl,rfl,rfl,rfl⟩,.refl _⟩
  have o2:(pA g (gb g l[k])).over.length≤40:=by
   have h:=hov _ (AK hlt)
   unfold pA;split<;>exact h
  generalize hg2:pA g (gb g l[k])=a2 at o2 ⊢
  refine wf ?_
  refine Kf True [(4,.raw (.slice (some ⟨r,0,none⟩) l.length cc)),(8,.clo 275 [.pt (eDig g) 0]),(9,.raw (.int .i64 k)),(10,.raw (.pointer (some ⟨b10,0,none⟩))),(32,.raw (.slice (some ⟨r,0,none⟩) l.length cc)),(33,.raw (.int .i64 l.length)),(34,.raw (.int .i64 k))] (.box b10 180 (eAtm (oz g a2)):: .box r 180 (xs.flatten++rest)::LF) ?_ fun _=>?_
  ·refine A1 (fun h=>?_) (fun h=>?_)
   ·refine wf ?_
    rw[show oz g a2= { a2 with parent:=Dp a2.parent g } by rw[oz,if_pos h]]
    exact⟨trivial,⟨rfl,rfl,rfl,rfl,rfl,rfl,rfl⟩,.refl _⟩
   ·refine wf ?_
    rw[show oz g a2=a2 by rw[oz,if_neg h]]
    exact⟨trivial,⟨rfl,rfl,rfl,rfl,rfl,rfl,rfl⟩,.refl _⟩
  have o3:(oz g a2).over.length≤40:=by unfold oz;split<;>exact o2
  generalize hg3:oz g a2=a3 at o3 ⊢
  refine wf ?_
  refine Kf True [(4,.raw (.slice (some ⟨r,0,none⟩) l.length cc)),(8,.clo 275 [.pt (eDig g) 0]),(9,.raw (.int .i64 k)),(10,.raw (.pointer (some ⟨b10,0,none⟩))),(32,.raw (.slice (some ⟨r,0,none⟩) l.length cc)),(33,.raw (.int .i64 l.length)),(34,.raw (.int .i64 k))] (.box b10 180 (eAtm (oy g a3)):: .box r 180 (xs.flatten++rest)::LF) ?_ fun _=>?_
  ·refine A1 (fun h=>?_) (fun h=>?_)
   ·rw[show oy g a3= { a3 with src:=Dp a3.src g,dst:=Dp a3.dst g } by rw[oy,if_pos h]]
    refine wn ?_
    refine EB [2,6,9,11] (by decide+kernel) ?_
    refine Eg 0 rfl (by decide+kernel) rfl (fun L'=>FM (N:=97) rfl rfl (by refine wo ?_;refine AN ?_;exact⟨CK _ _ _,rfl⟩)) ?_
    refine Eg 1 rfl (by decide+kernel) rfl (fun L'=>FM (N:=97) rfl rfl (by refine wo ?_;refine AN ?_;exact⟨CK _ _ _,rfl⟩)) ?_
    refine Eg 4 rfl (by decide+kernel) rfl (fun L'=>FM (N:=97) rfl rfl (by refine wo ?_;refine AN ?_;exact⟨CK _ _ _,rfl⟩)) ?_
    refine Eg 5 rfl (by decide+kernel) rfl (fun L'=>FM (N:=97) rfl rfl (by refine wo ?_;refine AN ?_;exact⟨CK _ _ _,rfl⟩)) ?_
    refine De (fuel:=7) [2,6] (by decide+kernel) (by simp) fun i hi=>?_
    simp only[AQ,BF,or_false]at hi
    rcases hi with rfl|rfl
    ·refine⟨_,rfl,?_⟩
     refine wf ?_
     refine Eg 3 rfl (by decide+kernel) rfl (fun L'=>FM (N:=97) rfl rfl (by refine wo ?_;refine AN ?_;exact⟨CK _ _ _,rfl⟩)) ?_
     refine De (fuel:=5) [6] (by decide+kernel) (by simp) fun i hi=>?_
     simp only[AQ,BF,or_false]at hi
     subst hi
     refine⟨_,rfl,?_⟩
     refine wf ?_
     refine Eg 7 rfl (by decide+kernel) rfl (fun L'=>FM (N:=97) rfl rfl (by refine wo ?_;refine AN ?_;exact⟨CK _ _ _,rfl⟩)) ?_
     refine Eg 8 rfl (by decide+kernel) rfl (fun L'=>FM (N:=97) rfl rfl (by refine wo ?_;refine AN ?_;exact⟨CK _ _ _,rfl⟩)) ?_
     refine De (fuel:=2) [9] (by decide+kernel) (by simp) fun i hi=>?_
     simp only[AQ,BF,or_false]at hi
     subst hi
     refine⟨_,rfl,?_⟩
     refine wf ?_
     refine Eg 10 rfl (by decide+kernel) rfl (fun L'=>FM (N:=97) rfl rfl (by refine wo ?_;refine AN ?_;exact⟨CK _ _ _,rfl⟩)) ?_
     refine De (fuel:=0) [11] (by decide+kernel) (by simp) fun i hi=>?_
     simp only[AQ,BF,or_false]at hi
     subst hi
     refine⟨_,rfl,?_⟩
     refine wf ?_
     refine Ct (by decide+kernel) ?_
     refine wf ?_
     exact⟨trivial,⟨rfl,rfl,rfl,rfl,rfl,rfl,rfl⟩,.refl _⟩
    ·refine⟨_,rfl,?_⟩
     refine wf ?_
     refine De (fuel:=6) [2] (by decide+kernel) (by simp) fun i hi=>?_
     simp only[AQ,BF,or_false]at hi
     subst hi
     refine⟨_,rfl,?_⟩
     refine wf ?_
     refine Eg 3 rfl (by decide+kernel) rfl (fun L'=>FM (N:=97) rfl rfl (by refine wo ?_;refine AN ?_;exact⟨CK _ _ _,rfl⟩)) ?_
     refine Eg 7 rfl (by decide+kernel) rfl (fun L'=>FM (N:=97) rfl rfl (by refine wo ?_;refine AN ?_;exact⟨CK _ _ _,rfl⟩)) ?_
     refine Eg 8 rfl (by decide+kernel) rfl (fun L'=>FM (N:=97) rfl rfl (by refine wo ?_;refine AN ?_;exact⟨CK _ _ _,rfl⟩)) ?_
     refine De (fuel:=2) [9] (by decide+kernel) (by simp) fun i hi=>?_
     simp only[AQ,BF,or_false]at hi
     subst hi
     refine⟨_,rfl,?_⟩
     refine wf ?_
     refine Eg 10 rfl (by decide+kernel) rfl (fun L'=>FM (N:=97) rfl rfl (by refine wo ?_;refine AN ?_;exact⟨CK _ _ _,rfl⟩)) ?_
     refine De (fuel:=0) [11] (by decide+kernel) (by simp) fun i hi=>?_
     simp only[AQ,BF,or_false]at hi
     subst hi
     refine⟨_,rfl,?_⟩
     refine wf ?_
     refine Ct (by decide+kernel) ?_
     refine wf ?_
     exact⟨trivial,⟨rfl,rfl,rfl,rfl,rfl,rfl,rfl⟩,.refl _⟩
   ·refine wf ?_
    rw[show oy g a3=a3 by rw[oy,if_neg h]]
    exact⟨trivial,⟨rfl,rfl,rfl,rfl,rfl,rfl,rfl⟩,.refl _⟩
  have o4:(oy g a3).over.length≤40:=by unfold oy;split<;>exact o3
  generalize hg4:oy g a3=a4 at o4 ⊢
  repeat(refine DU ?_)
  refine CC (by kernel_rfl) ?_
  refine Jd ?_
  refine AN ?_
  rw[show Env.ev _ (Operand.const (Value.slice none 0 0))= .raw (.slice none 0 0) from rfl]
  refine wf ?_
  refine AW (σ:=Nat × Value × List Res) (fun j=>j.1≤a4.over.length∧tz j.2.1 ((a4.over.take j.1).map fun y=>Dp y g) j.2.2) (fun j=>a4.over.length - j.1) (fun j=> [(4,.raw (.slice (some ⟨r,0,none⟩) l.length cc)),(8,.clo 275 [.pt (eDig g) 0]),(9,.raw (.int .i64 k)),(10,.raw (.pointer (some ⟨b10,0,none⟩))),(11,.raw j.2.1),(32,.raw (.slice (some ⟨r,0,none⟩) l.length cc)),(33,.raw (.int .i64 l.length)),(34,.raw (.int .i64 k)),(74,.slice (a4.over.map eIdent) .ro),(75,.raw (.int .i64 a4.over.length)),(76,.raw (.int .i64 j.1))]) (fun j=>j.2.2++(.box b10 180 (eAtm a4):: .box r 180 (xs.flatten++rest)::LF)) (0,.slice none 0 0,[]) ⟨by simp,.nil none (by simp)⟩ ⟨rfl,rfl,rfl,rfl,rfl,rfl,rfl,rfl,rfl,rfl,rfl⟩ (.refl _) ?_
  rintro⟨j,v2,R2⟩ ⟨hj,hI⟩
  dsimp only at hj hI ⊢
  refine wf ?_
  refine A1 (fun hc2=>?_) (fun hc2=>?_)
  ·have hjl:j < a4.over.length:=by omega
   refine wz fun b13=>?_
   refine Ag 13 ?_
   refine wf ?_
   refine Q4 (f:=eIdent) (m:= [Dp a4.over[j] g]) (R:=R2) (LF:= .box b10 180 (eAtm a4):: .box r 180 (xs.flatten++rest)::LF) (fun R'=>R'++(.box b10 180 (eAtm a4):: .box r 180 (xs.flatten++rest)::LF)) rfl rfl hI (.refl _) (fun R'=> .refl _) (by simp only[AR,AV,AH,Aa];omega) (by simp only[AR,AV,AH,Aa];omega) fun v3 R3 h3=>?_
   refine wf ?_
   refine wf ?_
   refine⟨(j+1,v3,R3),⟨by dsimp only;omega,?_⟩,by dsimp only;omega,⟨rfl,rfl,rfl,rfl,rfl,rfl,rfl,rfl,rfl,rfl,rfl⟩,.refl _⟩
   dsimp only
   rw[A6 hjl,Az]
   exact h3
  ·rw[AA (by omega)]at hI
   refine wf ?_
   refine Bo (xs:= [.tmp 87,.func 264]) R2 (.box b10 180 (eAtm a4):: .box r 180 (xs.flatten++rest)::LF) (f:=276) (cs:= []) (Bx _) rfl rfl (.refl _) _ (iX _ _ R2 hI (by simp only[AR];omega)) fun r' L3 ⟨v3,e3,h3⟩=>?_
   subst e3
   refine wo ?_
   refine AN ?_
   repeat(refine DU ?_)
   have hms:(sortI (a4.over.map fun y=>Dp y g)).length≤maxN∧(sortI (a4.over.map fun y=>Dp y g)).length*33≤maxN:=by
    have h1:maxN=140737488355328:=rfl
    have h2:(sortI (a4.over.map fun y=>Dp y g)).length=a4.over.length:=by rw[sortI,J3,AR]
    omega
   refine Hq (f:=eIdent) 11 h3 hms (.refl _) rfl ?_
   refine wf ?_
   have iput:Et (xs.flatten++rest) (0+k*172) (eAtm { a4 with over:=sortI (a4.over.map fun y=>Dp y g) }) ((xs.set k (eAtm (um g a4))).flatten++rest):=QZ hsz (by omega) (by simp)
   refine H5 (k:=k) rfl rfl hlt ?_
   refine wf ?_
   have hset:xs.set k (eAtm (um g a4))=((l.take (k+1)).map (fP g)++l.drop (k+1)).map eAtm:=by
    have hf:um g a4=fP g l[k]:=by rw[fP,hg2,hg3,hg4]
    rw[hf,hxs]
    refine GX (by simp;omega) fun i k1 k2=>?_
    rw[Jv]
    split
    ·rename_i e
     subst e
     rw[BT,Bh (by simp;omega)]
     simp
    ·rename_i e
     rw[BT,BT]
     congr 1
     rcases BB i k with h'|h'
     ·rw[Bh (by simp;omega),Bh (by simp;omega)]
      simp
     ·rw[C5 (by simp;omega),C5 (by simp;omega)]
      simp only[H8,AR,AV]
      congr 1
      omega
   have hnew: ∀ e∈xs.set k (eAtm (um g a4)),e.length=172:=fun e he=>by
    rw[hset]at he
    obtain⟨a,_,rfl⟩:=AU.1 he
    simp
   refine⟨(k+1,[.box r 180 ((xs.set k (eAtm (um g a4))).flatten++rest)]),⟨by dsimp only;omega,?_⟩,by dsimp only;omega,⟨rfl,rfl,rfl,rfl,rfl⟩,.cons _ (.refl _)⟩
   dsimp only
   rw[←hset]
   refine .row (by rw[Bm,hlk]) hcl hnew ?_
   have h1:=Cg hnew
   have h2:=Cg hsz
   rw[Bm]at h1
   omega
 ·have hkk:k=l.length:=by omega
  subst hkk
  rw[Cu,List.drop_length,B6]at hR
  have hmx:((l.map (fP g)).map eAtm).length≤maxN∧((l.map (fP g)).map eAtm).length*172≤maxN:=by
   have:maxN=140737488355328:=rfl
   simp only[AR];omega
  refine HC 4 hR hmx (.refl _) rfl ?_
  refine wf ?_
  exact GM (.tuple2 (.ros rfl) (.refl _))⟩
end Go.Proofs
namespace Go.Proofs
open Go Go.Q
attribute [local irreducible] EG AY B2 FZ
instance ux (p:Pat) [hs:B3 (EE p=false)]:Bl Tryz.prog 196 [.agg (CP p)] (.tuple [.slice ((JQ p).1.map eAtm) .ro,.raw (.int .i64 (JQ p).2)]):=⟨by
 have i1:Bl Tryz.prog 232 [.agg (CP p)] (.tuple [.slice ((JQ p).1.map eAtm) .ro,.raw (.int .i64 (JQ p).2)]):=Ze p hs.out
 refine Ak Tryz.func196 Tryz.ntmps196 rfl (rs:= [.tmp 2,.tmp 3]) rfl rfl fun hb LF=>?_
 refine wf ?_
 exact GM (.refl _)⟩
instance yV:Ch Tryz.prog 173 [.slice [] .ro,.raw (.map none)]:=Ch.of (us:= [PV.slice [] .ro,.raw (.map none)].map zv) (by kernel_rfl) (by kernel_rfl)
def Ug (s:List Sto) (m:Nat):List PV:= [.slice (s.map eSto) .ro,.raw (.map (some m))]
def Gj (m:Nat) (known:List (Dig × List Atm)):List Res:= [.map m (Cj kDig (Pw eAtm) known)]
theorem Nr (s:List Sto) (t:CW):B2 Tryz.prog 104 [.slice (s.map eSto) t] [] (fun r L'=> ∃ m,r= .pt (Ug s m) 0∧L'=Gj m []):=by
 refine Bw Tryz.func104 rfl Tryz.ntmps104 (rs:= [.tmp 2]) rfl rfl fun hb LF=>?_
 refine wf ?_
 refine Qz fun m=>?_
 refine wf ?_
 exact⟨trivial,_,Gj m [],.cons (.tmp 2) .nil,.refl _,m,rfl,rfl⟩
theorem kd (s:List Sto) (d:Dig):(Ea (fun x=>decide (x.id=d)) s < 0→getS s d=none)∧(∀ k:Nat,Ea (fun x=>decide (x.id=d)) s=(k:Int)→ ∃ h:k < s.length,getS s d=some s[k].patch):=by
 have key: ∀ l:List Sto,(l.any (fun x=>decide (x.id=d))=false→getS l d=none)∧(l.any (fun x=>decide (x.id=d))=true→ ∃ h:l.findIdx (fun x=>decide (x.id=d)) < l.length,getS l d=some (l[l.findIdx fun x=>decide (x.id=d)]).patch):=fun l=>by
  induction l with
  |nil=>exact⟨fun _=>rfl,fun h=>by cases h⟩
  |cons x l ih=>
   by_cases hx:x.id=d
   ·refine⟨fun h=>by simp[hx]at h,fun _=>?_⟩
    have e:(x::l).findIdx (fun x=>decide (x.id=d))=0:=by simp[Qo,hx]
    refine⟨by rw[e];simp,?_⟩
    simp only[e,B9]
    rw[getS,if_pos hx]
   ·have eg:getS (x::l) d=getS l d:=by rw[getS,if_neg hx]
    refine⟨fun h=>by rw[eg];exact ih.1 (by simpa [hx]using h),fun h=>?_⟩
    obtain⟨h1,h2⟩:=ih.2 (by simpa [hx]using h)
    have e:(x::l).findIdx (fun x=>decide (x.id=d))=l.findIdx (fun x=>decide (x.id=d))+1:=by simp[Qo,hx]
    refine⟨by rw[e,AH];omega,?_⟩
    simp only[e,Cn]
    rw[eg,h2]
 obtain⟨k1,k2⟩:=key s
 refine⟨fun h=>k1 ?_,fun k h=>?_⟩
 ·unfold Ea at h
  by_cases ha:s.any (fun x=>decide (x.id=d))=true
  ·rw[if_pos ha]at h;omega
  ·simpa using ha
 ·unfold Ea at h
  by_cases ha:s.any (fun x=>decide (x.id=d))=true
  ·rw[if_pos ha]at h
   have hk:s.findIdx (fun x=>decide (x.id=d))=k:=by omega
   obtain⟨h1,h2⟩:=k2 ha
   subst hk
   exact⟨h1,h2⟩
  ·rw[if_neg ha]at h;omega
instance y7 (x:Sto) (d:Dig):Bl Tryz.prog 160 [.agg (eSto x),.pt (eDig d) 0] (.raw (.bool (decide (x.id=d)))):=⟨by
 refine Ak Tryz.func160 Tryz.ntmps160 rfl (rs:= [.tmp 3]) rfl rfl fun hb LF=>?_
 refine wf ?_
 exact Ah (.refl _)⟩
instance yR (s:List Sto) (t:CW) (d:Dig):Bl Tryz.prog 114 [.slice (s.map eSto) t,.agg (eDig d)] (.tuple [.agg (CP ((getS s d).getD Pat.zero)),.raw (.bool (getS s d).isSome)]):=⟨by
 have i1: ∀ t,Bl Tryz.prog 111 [.slice (s.map eSto) t,.clo 160 [.pt (eDig d) 0]] (.raw (.int .i64 (Ea (fun x=>decide (x.id=d)) s))):=fun t=>Vn _ _ _ s t
 obtain⟨g1,g2⟩:=kd s d
 refine Ak Tryz.func114 Tryz.ntmps114 rfl (rs:= [.cell 4 42,.tmp 5]) rfl rfl fun hb LF=>?_
 refine wf ?_
 refine BR fun b4=>?_
 refine wf ?_
 refine A1 (fun h=>?_) (fun h=>?_)
 ·rw[g1 h]
  rw[Option.isSome_none,Option.getD_none]
  refine wf ?_
  exact DX rfl (.refl _)
 ·obtain⟨k,hk⟩: ∃ k:Nat,Ea (fun x=>decide (x.id=d)) s=(k:Int):=⟨(Ea (fun x=>decide (x.id=d)) s).toNat,by omega⟩
  obtain⟨hlt,hg⟩:=g2 k hk
  rw[hk,hg,Option.isSome_some,Option.getD_some]
  refine wf ?_
  exact DX rfl (.refl _)⟩
def coreA (a:Atm):Atm:={ a with over:= [] }
theorem P7: ∀ (l:List Chg) (own:List Atm),NI own→NI (DK l own).1
 | [],_,h=>h
 |c::l,own,h=>by
  unfold DK
  split
  ·exact fun i hi=>absurd hi (by simp)
  ·split
   ·exact fun i hi=>absurd hi (by simp)
   ·exact P7 l _ (Pb c h)
theorem ZG (p:Pat):NI (Cq p).1:=by
 have h0:NI ([]:List Atm):=fun i hi=>absurd hi (by simp)
 unfold Cq
 repeat' split
 all_goals first|exact h0|exact P7 _ _ h0
theorem ox (d:Dig) {a:Atm} (h1:a.id.patch=Dig.zero) (h2:0≤a.id.n):coreA (fP d a)=coreA (Vb d a):=by
 have e:gb d a=MZ d a:=by
  unfold gb MZ Dp;rw[if_pos ⟨h1,h2⟩]
 rw[fP,Vb,e]
 rfl
theorem ah (p:Pat):(L9 p).2.2=(EF p).2:=by
 rw[X0,EF]
 by_cases h:(Cc p).2≠0
 ·rw[if_pos h]
 ·rw[if_neg h];simpa using h
theorem dB {p:Pat} (h:(L9 p).2.2=0):(L9 p).1=(Cq p).1∧(Cq p).2=0:=by
 unfold L9 at h ⊢
 by_cases g1:(Cq p).2≠0
 ·rw[if_pos g1]at h;exact absurd h g1
 by_cases g2:65536 < ((NN p).length:Int)
 ·rw[if_neg g1,if_pos g2]at h;exact absurd h (by decide)
 rw[if_neg g1,if_neg g2]
 exact⟨rfl,by simpa using g1⟩
theorem bn (p:Pat):(JQ p).1.map coreA=(Me p).1.map coreA:=by
 unfold JQ Me
 rw[ah]
 by_cases h:(EF p).2≠0
 ·rw[if_pos h,if_pos h]
 ·rw[if_neg h,if_neg h,if_neg h]
  have h3:(L9 p).2.2=0:=by rw[ah];simpa using h
  dsimp only
  rw[(dB h3).1,DI,DI]
  refine Og fun a ha=>?_
  obtain⟨i,hi,rfl⟩:=AX.1 ha
  have e:=ZG p i hi
  exact ox _ (by rw[e]) (by rw[e];exact Int.natCast_nonneg _)
def Jb (s:List Sto) (d:Dig):List Atm:=(JQ ((getS s d).getD Pat.zero)).1
def Iy (s:List Sto) (x:Ident):Option Atm:=if x.n < 0∨((Jb s x.patch).length:Int)≤x.n then none else(Jb s x.patch)[x.n.toNat]?
theorem gF (s:List Sto) (x:Ident):(Iy s x).map coreA=(JB s x).map coreA:=by
 have e:=bn ((getS s x.patch).getD Pat.zero)
 have el:=congrArg List.length e
 rw[AR,AR]at el
 unfold Iy JB Jb Ji
 rw[el]
 by_cases h:x.n < 0∨((Me ((getS s x.patch).getD Pat.zero)).1.length:Int)≤x.n
 ·rw[if_pos h,if_pos h]
 ·rw[if_neg h,if_neg h,←H9,←H9,e]
theorem aX {f:Atm→Bool} (hf: ∀ a,f a=f (coreA a)) {o p:Option Atm} (e:o.map coreA=p.map coreA):Ef o f=Ef p f:=by
 cases o with
 |none=>cases p with
  |none=>rfl
  |some b=>cases e
 |some a=>cases p with
  |none=>cases e
  |some b=>
   have e2:coreA a=coreA b:=by simpa using e
   unfold Ef
   rw[Option.getD_some,Option.getD_some,hf a,hf b,e2];rfl
theorem OG (s:List Sto) (x:Ident) {f:Atm→Bool} (hf: ∀ a,f a=f (coreA a)):Ef (Iy s x) f=Ef (JB s x) f:=aX hf (gF s x)
def P5 (c:Chg) (g:Ident) (r:Rfc):Atm→Bool:=
 if r.f=190 then uk c.kind else if r.f=192 then oC else if r.f=193 then uK r.id c.file g else vV (gY c.kind) g
theorem TW {l:List Rfc} {r x:Rfc} (h:r∈Jj l x):r∈l∨r=x:=by
 unfold Jj at h
 split at h
 ·exact .inl h
 ·simpa using h
theorem RM {α:Type} {f:α→Rfc} {r:Rfc}: ∀ {o:List α} {l:List Rfc},r∈o.foldl (fun l x=>Jj l (f x)) l→r∈l∨ ∃ x∈o,r=f x
 | [],_,h=> .inl h
 |y::o,l,h=>by
  rw[EJ]at h
  rcases RM (o:=o) h with h|⟨x,hx,e⟩
  ·rcases TW h with h|h
   ·exact .inl h
   ·exact .inr ⟨y,by simp,h⟩
  ·exact .inr ⟨x,by simp[hx],e⟩
theorem fp (id:Dig) (c:Chg) (r:Rfc) (h:r∈Je id c):xV Tryz.prog r (P5 c (DF id c) r):=by
 unfold Je sK at h
 rcases RM h with h|⟨x,_,rfl⟩
 ·unfold gU at h
  have key:r∈aV c (Xv c)∨ ∃ x:Ident,r=Nv (DF id c) c x:=by
   split at h
   ·rcases RM h with h|⟨x,_,e⟩
    ·exact .inl h
    ·exact .inr ⟨x,e⟩
   ·exact .inl h
  rcases key with h|⟨x,rfl⟩
  ·unfold aV at h
   have key:r∈Xv c∨r=⟨c.parent,192,[]⟩:=by
    split at h
    ·exact TW h
    ·exact .inl h
   rcases key with h|rfl
   ·unfold Xv at h
    have key:r=⟨c.file,190,[.pt (BC c) 0]⟩:=by
     split at h
     ·rcases TW h with h|h
      ·cases h
      ·exact h
     ·cases h
    subst key
    exact⟨inferInstance,fun a=>(s6 c a).out⟩
   ·exact⟨inferInstance,fun a=>(rz a).out⟩
  ·exact⟨(inferInstance:Ax Tryz.prog 193),fun a=>(ry x (DF id c) c a).out⟩
 ·exact⟨(inferInstance:Ax Tryz.prog 195),fun a=>(ru (gY c.kind) (DF id c) a).out⟩
def HS (s:List Sto) (c:Chg) (g:Ident) (r:Rfc):Int:=Ef (Iy s r.id) (P5 c g r)
def Nz (s:List Sto) (id:Dig) (c:Chg):Int:=Aq (HS s c (DF id c)) (Je id c)
def Qu (s:List Sto) (p:Pat) (id:Dig):Int:=Aq (Nz s id) p.changes
theorem LZ (f:Rfc→Int) (l:List Rfc) (r:Rfc):Aq f (Jj l r)=if Aq f l≠0 then Aq f l else if r.id.patch=Dig.zero then 0 else f r:=by
 unfold Jj
 by_cases h:r.id.patch=Dig.zero
 ·rw[if_pos h,if_pos h]
  by_cases h2:Aq f l=0
  ·rw[if_neg (by simp[h2]),h2]
  ·rw[if_pos h2]
 ·rw[if_neg h,if_neg h,Gv]
  have:Aq f [r]=f r:=by
   rw[Aq,Aq];split
   ·rename_i h;exact h.symm
   ·rfl
  rw[this]
theorem Iv {α:Type} (f:Rfc→Int) (h:α→Rfc): ∀ (o:List α) (l:List Rfc),Aq f (o.foldl (fun l x=>Jj l (h x)) l)=if Aq f l≠0 then Aq f l else Aq (fun x=>if(h x).id.patch=Dig.zero then 0 else f (h x)) o
 | [],l=>by
   by_cases h2:Aq f l=0
   ·simp[h2,Aq]
   ·simp[h2]
 |x::o,l=>by
  rw[EJ,Iv f h o,LZ,Aq]
  generalize (if(h x).id.patch=Dig.zero then 0 else f (h x))=v
  by_cases h2:Aq f l=0<;>by_cases h3:v=0<;>simp[h2,h3]
theorem Rl {c:Chg} (hf:C0 c=0):(¬(2≤c.kind∧c.kind≤6)→c.file=Ident.zero)∧(c.kind≠2→c.parent=Ident.zero)∧(¬(c.kind=5∨c.kind=6)→c.after=Ident.zero∧c.before=Ident.zero):=by
 have h2:=KF hf
 unfold GG J8 at h2
 simp only[Bu,AB]at h2
 obtain⟨⟨⟨⟨⟨⟨⟨⟨⟨h1,_⟩,h3⟩,_⟩,_⟩,_⟩,h7⟩,h8⟩,_⟩,_⟩:=h2
 refine⟨fun h=>?_,fun h=>?_,fun h=>⟨?_,?_⟩⟩
 ·rwa [if_neg h]at h1
 ·rwa [if_neg h]at h3
 ·rwa [if_neg h]at h7
 ·rwa [if_neg h]at h8
theorem lH (s:List Sto) (id:Dig) {c:Chg} {own:List Atm} (hf:C0 c=0) (hr:FY c own=0):Nz s id c=NF s c id:=by
 have hk:=Jn hf
 obtain⟨z1,z2,z3⟩:=Rl hf
 have hn:2≤c.kind∧c.kind≤6→0≤c.file.n:=fun h=>by
  have h1:Kd c own=0:=by
   by_cases h0:Kd c own=0
   ·exact h0
   ·rw[FY,if_pos h0]at hr;exact absurd hr h0
  rw[Kd,if_pos h,Jf]at h1
  by_cases h2:Dq c.file own.length=false
  ·rw[if_pos h2]at h1;omega
  ·have h2:Dq c.file own.length=true:=by simpa using h2
   unfold Dq at h2
   split at h2<;>simp at h2<;>omega
 have hg:2≤c.kind∧c.kind≤6→DF id c=HN c.file id:=fun h=>by
  unfold DF HN
  by_cases h1:c.file.patch=Dig.zero
  ·rw[if_pos h1,if_pos ⟨hn h,h1⟩]
  ·rw[if_neg h1,if_neg (fun h=>h1 h.2)]
 have e1:Aq (HS s c (DF id c)) (Xv c)=K5 s c:=by
  unfold Xv K5
  by_cases h:c.kind≠1∧c.kind≠7
  ·rw[if_pos h,LZ,if_neg (by simp[Aq])]
   unfold HB
   by_cases h1:c.file.patch=Dig.zero
   ·rw[if_pos h1,if_neg (by simp[h1])]
   ·rw[if_neg h1,if_pos (by simp[h1]),HS,show P5 c (DF id c) ⟨c.file,190,[.pt (BC c) 0]⟩=uk c.kind from rfl,OG s c.file (fun a=>rfl)]
    congr 1
    funext a
    unfold uk EL J7
    by_cases h5:c.kind=5∨c.kind=6
    ·rcases h5 with h|h<;>simp[h]
    ·have: ¬c.kind=5∧ ¬c.kind=6:=⟨fun h=>h5 (.inl h),fun h=>h5 (.inr h)⟩
     by_cases h4:c.kind=4<;>simp[this,h4]
  ·rw[if_neg h,z1 (by omega)]
   simp[Aq,HB,Ident.zero]
 have e2: ∀ l,Aq (HS s c (DF id c)) (aV c l)=if Aq (HS s c (DF id c)) l≠0 then Aq (HS s c (DF id c)) l else NC s c:=fun l=>by
  unfold aV NC
  by_cases h:c.kind=2
  ·rw[if_pos h,LZ]
   unfold HB
   by_cases h1:c.parent.patch=Dig.zero
   ·rw[if_pos h1,if_neg (by simp[h1]: ¬(!decide (c.parent.patch=Dig.zero))=true)]
   ·rw[if_neg h1,if_pos (by simp[h1]:(!decide (c.parent.patch=Dig.zero))=true),HS,show P5 c (DF id c) ⟨c.parent,192,[]⟩=oC from rfl,OG s c.parent (fun a=>rfl)]
    rfl
  ·rw[if_neg h,z2 h,if_neg (by simp[HB,Ident.zero]: ¬HB Ident.zero=true)]
   split
   ·rfl
   ·rename_i h;simpa using h
 have e3:K5 s c=0→ ∀ l,Aq (HS s c (DF id c)) (gU (DF id c) c l)=if Aq (HS s c (DF id c)) l≠0 then Aq (HS s c (DF id c)) l else if HT s c.after c.file id≠0 then HT s c.after c.file id else HT s c.before c.file id:=fun hF l=>by
  unfold gU
  by_cases h:c.kind=5∨c.kind=6
  ·have hx: ∀ x:Ident,(if(Nv (DF id c) c x).id.patch=Dig.zero then 0 else HS s c (DF id c) (Nv (DF id c) c x))=HT s x c.file id:=fun x=>by
    unfold HT HB
    by_cases h1:x.patch=Dig.zero
    ·rw[if_pos (show(Nv (DF id c) c x).id.patch=Dig.zero from h1),if_pos (by simp[h1])]
    ·rw[if_neg (show ¬(Nv (DF id c) c x).id.patch=Dig.zero from h1),HS,show P5 c (DF id c) (Nv (DF id c) c x)=uK x c.file (DF id c) from rfl,show(Nv (DF id c) c x).id=x from rfl,OG s x (fun a=>rfl)]
     by_cases h2:x=c.file
     ·rw[if_pos (.inr h2)]
      subst h2
      rw[K5,if_pos (by simp[HB,h1]),Ef]at hF
      by_cases h3:(JB s c.file).isSome=false
      ·rw[if_pos h3]at hF;omega
      ·rw[Ef,if_neg h3,if_neg (by simp[uK])]
     ·rw[if_neg (by simp[h1,h2]),hg (by omega)]
      congr 1
      funext a
      simp[uK,Jg,h2]
   rw[if_pos h,Iv,Aq,Aq,Aq,hx,hx]
   by_cases q1:HT s c.after c.file id=0
   ·rw[if_pos q1,if_neg (by simp[q1]: ¬HT s c.after c.file id≠0)]
    by_cases q2:HT s c.before c.file id=0
    ·rw[if_pos q2,q2]
    ·rw[if_neg q2]
   ·rw[if_neg q1,if_pos q1]
  ·obtain⟨za,zb⟩:=z3 h
   have q:HT s Ident.zero c.file id=0:=by rw[HT,if_pos (.inl (by simp[HB,Ident.zero]))]
   rw[if_neg h,za,zb,q]
   split
   ·rfl
   ·rename_i h;simpa using h
 have e4: ∀ l,Aq (HS s c (DF id c)) (sK (DF id c) c l c.over)=if Aq (HS s c (DF id c)) l≠0 then Aq (HS s c (DF id c)) l else Aq (P2 s c id) c.over:=fun l=>by
  unfold sK
  rw[Iv]
  congr 1
  refine GL fun x hx=>?_
  have h15:c.kind≠1∧c.kind≠5:=⟨fun h=>(by rw[Jm hf (.inl h)]at hx;simp at hx),fun h=>(by rw[Jm hf (.inr h)]at hx;simp at hx)⟩
  unfold P2 HB
  by_cases h1:x.patch=Dig.zero
  ·rw[if_pos (show(Mh (DF id c) c x).id.patch=Dig.zero from h1),if_pos (by simp[h1])]
  ·rw[if_neg (show ¬(Mh (DF id c) c x).id.patch=Dig.zero from h1),if_neg (by simp[h1]),HS,show P5 c (DF id c) (Mh (DF id c) c x)=vV (gY c.kind) (DF id c) from rfl,show(Mh (DF id c) c x).id=x from rfl,OG s x (fun a=>rfl)]
   congr 1
   funext a
   unfold vV HL Sw gY
   by_cases h7:c.kind=7
   ·simp[h7]
   ·have:c.kind=2∨c.kind=3∨c.kind=4∨c.kind=6:=by omega
    rw[if_pos this,if_neg h7,hg (by omega)]
 unfold Nz Je NF
 rw[e4]
 by_cases q0:K5 s c=0
 ·rw[e3 q0,e2,e1,q0]
  by_cases q1:NC s c=0
  ·by_cases q2:HT s c.after c.file id=0
   ·by_cases q3:HT s c.before c.file id=0
    ·simp[q1,q2,q3]
    ·simp[q1,q2,q3]
   ·simp[q1,q2]
  ·simp[q1]
 ·have k2:Aq (HS s c (DF id c)) (aV c (Xv c))=K5 s c:=by rw[e2,e1,if_pos q0]
  have k3:Aq (HS s c (DF id c)) (gU (DF id c) c (aV c (Xv c)))=K5 s c:=by
   unfold gU
   split
   ·rw[Iv,k2,if_pos q0]
   ·exact k2
  rw[k3,if_pos q0,if_pos q0]
theorem UA: ∀ {l:List Chg} {own:List Atm},(DK l own).2=0→ ∀ c∈l,C0 c=0∧ ∃ own,FY c own=0
 | [],_,_,c,h=>by cases h
 |x::l,own,h,c,hc=>by
  unfold DK at h
  by_cases h1:C0 x≠0
  ·rw[if_pos h1]at h;exact absurd h h1
  by_cases h2:FY x own≠0
  ·rw[if_neg h1,if_pos h2]at h;exact absurd h h2
  rw[if_neg h1,if_neg h2]at h
  rcases AQ.1 hc with rfl|hc
  ·exact⟨by simpa using h1,own,by simpa using h2⟩
  ·exact UA h c hc
theorem Uo {p:Pat} (h:(Cq p).2=0): ∀ c∈p.changes,C0 c=0∧ ∃ own,FY c own=0:=by
 have e:J9 p=0:=by
  by_cases h0:J9 p=0
  ·exact h0
  ·rw[IV,if_pos h0]at h;exact absurd h h0
 rw[Mc e]at h
 exact UA h
theorem Xz (s:List Sto) {p:Pat} (id:Dig) (h:(EF p).2=0):Qu s p id=FT s p id:=by
 have h2:=(dB (p:=p) (by rw[ah];exact h)).2
 refine GL fun c hc=>?_
 obtain⟨hf,own,hr⟩:=Uo h2 c hc
 exact lH s id hf hr
end Go.Proofs
namespace Go.Proofs
open Go Go.Q
theorem Py {n:Nat} (h:n < 256):(UInt8.ofNat n).toNat=n:=by
 rw[UInt8.toNat_ofNat'];omega
theorem Mb (n:Nat): ∀ c∈Ho n,48≤c.toNat∧c.toNat≤57:=by
 induction n using Nat.strongRecOn with
 |_ n ih=>
  by_cases h:n < 10
  ·rw[IC h]
   intro c hc
   rw[B1.1 hc,Py (by omega)]
   omega
  ·rw[Lu h]
   intro c hc
   rcases Ai.1 hc with hc|hc
   ·exact ih (n / 10) (by omega) c hc
   ·rw[B1.1 hc,Py (by omega)]
    omega
theorem dC (n:Nat):Ho n≠ []:=by
 by_cases h:n < 10
 ·rw[IC h];simp
 ·rw[Lu h];simp
def qG (l:Str):Nat:=l.foldl (fun a c=>10*a+(c.toNat - 48)) 0
theorem Se (n:Nat):qG (Ho n)=n:=by
 induction n using Nat.strongRecOn with
 |_ n ih=>
  by_cases h:n < 10
  ·rw[IC h]
   show 10*0+((UInt8.ofNat (48+n)).toNat - 48)=n
   rw[Py (by omega)];omega
  ·rw[Lu h]
   have e:=ih (n / 10) (by omega)
   unfold qG at e ⊢
   rw[DR,e]
   show 10*(n / 10)+((UInt8.ofNat (48+n % 10)).toNat - 48)=n
   rw[Py (by omega)];omega
theorem TH {n m:Nat} (h:Ho n=Ho m):n=m:=by rw[←Se n,h,Se]
theorem Vc (n:Nat) (l:Str) (r:Str): ¬45::l=Ho n++r:=fun h=>by
 cases hd:Ho n with
 |nil=>exact dC n hd
 |cons c t=>
  rw[hd,BM]at h
  injection h with h1 _
  have:=Mb n c (by rw[hd];simp)
  rw[←h1]at this
  exact absurd this.1 (by decide)
theorem fC {n m:Int} (h:JA n=JA m):n=m:=by
 unfold JA at h
 by_cases h1:n < 0
 ·by_cases h2:m < 0
  ·rw[if_pos h1,if_pos h2]at h
   injection h with _ h
   have:=TH h
   omega
  ·rw[if_pos h1,if_neg h2]at h
   exact absurd (by rw[h,B6]) (Vc m.toNat _ [])
 ·by_cases h2:m < 0
  ·rw[if_neg h1,if_pos h2]at h
   exact absurd (by rw[←h,B6]) (Vc n.toNat (Ho (-m).toNat) [])
  ·rw[if_neg h1,if_neg h2]at h
   have:=TH h
   omega
theorem cP: ∀ {a b r s:Str},(∀ c∈a,c.toNat≤57)→(∀ c∈b,c.toNat≤57)→a++58::r=b++58::s→a=b∧r=s
 | [],[],r,s,_,_,h=>⟨rfl,by simpa using h⟩
 | [],y::b,r,s,_,hb,h=>by
   rw[BK,BM]at h
   injection h with h1 _
   have:=hb y (by simp)
   rw[←h1]at this
   exact absurd this (by decide)
 |x::a,[],r,s,ha,_,h=>by
  rw[BK,BM]at h
  injection h with h1 _
  have:=ha x (by simp)
  rw[h1]at this
  exact absurd this (by decide)
 |x::a,y::b,r,s,ha,hb,h=>by
  rw[BM,BM]at h
  injection h with h1 h2
  obtain⟨e1,e2⟩:=cP (fun c hc=>ha c (AD _ hc)) (fun c hc=>hb c (AD _ hc)) h2
  exact⟨by rw[h1,e1],e2⟩
theorem Ob: ∀ {d:Nat} {x:Sx},Oh d x→ ∃ c t,Da d x=c::t∧c≠41∧(c=40↔x.isList=true)
 |0,_,h=>h.elim
 |d+1,x,_=>by
  cases hl:x.isList with
  |true=>exact⟨40,_,by rw[Da,if_pos hl],by decide,by simp⟩
  |false=>
   have e:Da (d+1) x=Ho x.atom.length++58::x.atom:=by rw[Da,if_neg (by simp[hl])]
   cases hd:Ho x.atom.length with
   |nil=>exact absurd hd (dC _)
   |cons c t=>
    have hc:=Mb x.atom.length c (by rw[hd];simp)
    refine⟨c,t++58::x.atom,by rw[e,hd];rfl,?_,?_⟩
    ·rintro rfl;exact absurd hc.1 (by decide)
    ·constructor
     ·rintro rfl;exact absurd hc.1 (by decide)
     ·intro h';cases h'
theorem Za {d:Nat} (ih: ∀ {x y:Sx} {r s:Str},Oh d x→Oh d y→Da d x++r=Da d y++s→x=y∧r=s): ∀ {l m:List Sx} {r s:Str},(∀ y∈l,Oh d y)→(∀ y∈m,Oh d y)→l.flatMap (Da d)++41::r=m.flatMap (Da d)++41::s→l=m∧r=s
 | [],[],r,s,_,_,h=>⟨rfl,by simpa using h⟩
 | [],y::m,r,s,_,hm,h=>by
   obtain⟨c,t,e,h41,_⟩:=Ob (hm y (by simp))
   rw[mG,BK,Cf,e,BM,BM]at h
   injection h with h1 _
   exact absurd h1.symm h41
 |x::l,[],r,s,hl,_,h=>by
  obtain⟨c,t,e,h41,_⟩:=Ob (hl x (by simp))
  rw[mG,BK,Cf,e,BM,BM]at h
  injection h with h1 _
  exact absurd h1 h41
 |x::l,y::m,r,s,hl,hm,h=>by
  rw[Cf,Cf,AJ,AJ]at h
  obtain⟨e1,e2⟩:=ih (hl x (by simp)) (hm y (by simp)) h
  obtain⟨e3,e4⟩:=Za ih (fun z hz=>hl z (AD _ hz)) (fun z hz=>hm z (AD _ hz)) e2
  exact⟨by rw[e1,e3],e4⟩
theorem ZZ: ∀ (d:Nat) {x y:Sx} {r s:Str},Oh d x→Oh d y→Da d x++r=Da d y++s→x=y∧r=s
 |0,_,_,_,_,h,_,_=>h.elim
 |d+1,x,y,r,s,hx,hy,h=>by
  obtain⟨c1,t1,e1,_,k1⟩:=Ob hx
  obtain⟨c2,t2,e2,_,k2⟩:=Ob hy
  have hc:c1=c2:=by
   rw[e1,e2,BM,BM]at h
   injection h
  subst hc
  have hkind:x.isList=y.isList:=by
   rw[KV];exact k1.symm.trans k2
  clear k1 k2 e1 e2
  obtain⟨b1,a1,l1⟩:=x
  obtain⟨b2,a2,l2⟩:=y
  change b1=b2 at hkind
  subst hkind
  rcases hx with ⟨h1,h2,h3⟩|⟨h1,h2,h3⟩
  ·rcases hy with ⟨_,g2,_⟩|⟨g1,_⟩
   ·change b1=false at h1
    change l1= []at h2
    change l2= []at g2
    subst h1 h2 g2
    have q1:Da (d+1) (.mk false a1 [])=Ho a1.length++58::a1:=rfl
    have q2:Da (d+1) (.mk false a2 [])=Ho a2.length++58::a2:=rfl
    rw[q1,q2,AJ,AJ,BM,BM]at h
    obtain⟨e1,e2⟩:=cP (fun c hc=>(Mb _ c hc).2) (fun c hc=>(Mb _ c hc).2) h
    obtain⟨e3,e4⟩:=List.append_inj e2 (TH e1)
    exact⟨by rw[e3],e4⟩
   ·change b1=false at h1
    change b1=true at g1
    rw[h1]at g1;cases g1
  ·rcases hy with ⟨g1,_⟩|⟨_,g2,g3⟩
   ·change b1=true at h1
    change b1=false at g1
    rw[h1]at g1;cases g1
   ·change b1=true at h1
    change a1= []at h2
    change a2= []at g2
    subst h1 h2 g2
    have q1:Da (d+1) (.mk true [] l1)=40::(l1.flatMap (Da d)++ [41]):=rfl
    have q2:Da (d+1) (.mk true [] l2)=40::(l2.flatMap (Da d)++ [41]):=rfl
    rw[q1,q2,BM,BM,AJ,AJ]at h
    injection h with _ h
    obtain⟨e1,e2⟩:=Za (fun hx hy h=>ZZ d hx hy h) h3 g3 h
    exact⟨congrArg (Sx.mk true []) e1,e2⟩
theorem Kj {α β:Type} {f:α→β}: ∀ {l m:List α},(∀ x∈l,∀ y∈m,f x=f y→x=y)→l.map f=m.map f→l=m
 | [],[],_,_=>rfl
 | [],y::m,_,h=>by simp at h
 |x::l,[],_,h=>by simp at h
 |x::l,y::m,hf,h=>by
  rw[BG,BG]at h
  injection h with h1 h2
  rw[hf x (by simp) y (by simp) h1,Kj (fun a ha b hb=>hf a (AD _ ha) b (AD _ hb)) h2]
theorem HJ {a b:Str} (h:Cb a=Cb b):a=b:=congrArg Sx.atom h
theorem KM {l m:List Sx} (h:Dy l=Dy m):l=m:=congrArg Sx.list h
theorem YP {a b:Dig} (h:KB a=KB b):a=b:=by
 unfold KB at h
 by_cases h1:a=Dig.zero
 ·by_cases h2:b=Dig.zero
  ·rw[h1,h2]
  ·rw[if_pos h1,if_neg h2]at h
   have:=congrArg List.length (HJ h)
   rw[b.len]at this;simp at this
 ·by_cases h2:b=Dig.zero
  ·rw[if_neg h1,if_pos h2]at h
   have:=congrArg List.length (HJ h)
   rw[a.len]at this;simp at this
  ·rw[if_neg h1,if_neg h2]at h
   exact Dig.ext (HJ h)
def Rs (n:Int):Prop:= -1099511627776≤n∧n≤1099511627776
theorem Nc {n m:Int} (hn:Rs n) (hm:Rs m) (h:Fu n=Fu m):n=m:=by
 unfold Rs at hn hm
 unfold Fu RA at h
 rw[if_neg (by omega),if_neg (by omega)]at h
 exact fC (HJ h)
theorem HA {x y:Ident} (hx:Rs x.n) (hy:Rs y.n) (h:Ft x=Ft y):x=y:=by
 have h:=KM h
 injection h with h1 h2
 injection h2 with h2 _
 obtain⟨p,n⟩:=x
 obtain⟨q,m⟩:=y
 have e1:=YP h1
 have e2:=Nc hx hy h2
 subst e1 e2;rfl
structure pV (c:Chg):Prop where
 fields:C0 c=0
 file:Rs c.file.n
 parent:Rs c.parent.n
 after:Rs c.after.n
 before:Rs c.before.n
 over: ∀ x∈c.over,Rs x.n
 mode:c.kind=3→Rs c.mode
 type:c.kind=1→Rs c.type
theorem Lo {l m:List Ident} (hl: ∀ x∈l,Rs x.n) (hm: ∀ x∈m,Rs x.n) (h:J6 l=J6 m):l=m:=
 Kj (fun x hx y hy e=>HA (hl x hx) (hm y hy) e) (KM h)
theorem VU (c:Chg):(Ky c).list=([Fu c.kind]++K3 c++IH c)++L5 c:=rfl
theorem jV {c e:Chg} (hc:pV c) (he:pV e) (h:Ky c=Ky e):c=e:=by
 have k1:=Jn hc.fields
 have k2:=Jn he.fields
 have z1:=KF hc.fields
 have z2:=KF he.fields
 have h:=congrArg Sx.list h
 rw[VU,VU]at h
 have hk:c.kind=e.kind:=by
  have h1:=congrArg List.head? h
  simp only[Uy,BM,List.head?_cons,Fo]at h1
  exact Nc (by unfold Rs;omega) (by unfold Rs;omega) h1
 obtain⟨ck,cfile,ctype,cparent,cname,cmode,cdata,cafter,cbefore,clines,cover⟩:=c
 obtain⟨ek,efile,etype,eparent,ename,emode,edata,eafter,ebefore,elines,eover⟩:=e
 change ck=ek at hk
 subst hk
 obtain⟨_,c1,c2,c3,c4,c5,c6,c7⟩:=hc
 obtain⟨_,e1,e2,e3,e4,e5,e6,e7⟩:=he
 simp only at k1 c1 c2 c3 c4 c5 c6 c7 e1 e2 e3 e4 e5 e6 e7
 unfold GG J8 at z1 z2
 simp only[Bu,AB]at z1 z2
 obtain⟨⟨⟨⟨⟨⟨⟨⟨⟨p1,p2⟩,p3⟩,p4⟩,p5⟩,p6⟩,p7⟩,p8⟩,p9⟩,p10⟩:=z1
 obtain⟨⟨⟨⟨⟨⟨⟨⟨⟨q1,q2⟩,q3⟩,q4⟩,q5⟩,q6⟩,q7⟩,q8⟩,q9⟩,q10⟩:=z2
 have n9: ∀ {α:Type} {l:List α},(l.length:Int)=0→l= []:=fun h=>BU (by omega)
 have p9:=n9 p9
 have p10:=n9 p10
 have q9:=n9 q9
 have q10:=n9 q10
 clear n9
 have hlin: ∀ {l m:List Str},Dy (l.map Cb)=Dy (m.map Cb)→l=m:=fun h=>Kj (fun _ _ _ _ e=>HJ e) (KM h)
 rcases kinds k1 with rfl|rfl|rfl|rfl|rfl|rfl|rfl<;>
  simp (decide:=true) only[K3,IH,L5,if_true,if_false,ite_true,ite_false,BK,B6,Uy,BM,O8,true_and,and_true,and_self,true_or,or_true,or_self,ne_eq,not_true_eq_false,not_false_eq_true]at h p1 p2 p3 p4 p5 p6 p7 p8 p9 p10 q1 q2 q3 q4 q5 q6 q7 q8 q9 q10
 ·have:=Nc (c7 rfl) (e7 rfl) h
  simp only[*]
 ·obtain⟨h1,h2,h3,h4⟩:=h
  have:=HA c1 e1 h1
  have:=HA c2 e2 h2
  have:=HJ h3
  have:=Lo c5 e5 h4
  simp only[*]
 ·obtain⟨h1,h2,h3⟩:=h
  have:=HA c1 e1 h1
  have:=Nc (c6 rfl) (e6 rfl) h2
  have:=Lo c5 e5 h3
  simp only[*]
 ·obtain⟨h1,h2,h3⟩:=h
  have:=HA c1 e1 h1
  have:=HJ h2
  have:=Lo c5 e5 h3
  simp only[*]
 ·obtain⟨h1,h2,h3,h4⟩:=h
  have:=HA c1 e1 h1
  have:=HA c3 e3 h2
  have:=HA c4 e4 h3
  have:=hlin h4
  simp only[*]
 ·obtain⟨h1,h2,h3,h4⟩:=h
  have:=HA c1 e1 h1
  have:=HA c3 e3 h2
  have:=HA c4 e4 h3
  have:=Lo c5 e5 h4
  simp only[*]
 ·have:=Lo c5 e5 h
  simp only[*]
theorem S0 (N:Nat): ∀ {l:List Chg} {own:List Atm},(DK l own).2=0→own.length+4001*l.length≤N→ ∀ c∈l,C0 c=0∧ ∃ own:List Atm,own.length≤N∧FY c own=0
 | [],_,_,_,c,h=>by cases h
 |x::l,own,h,hN,c,hc=>by
  unfold DK at h
  by_cases h1:C0 x≠0
  ·rw[if_pos h1]at h;exact absurd h h1
  by_cases h2:FY x own≠0
  ·rw[if_neg h1,if_pos h2]at h;exact absurd h h2
  rw[if_neg h1,if_neg h2]at h
  have h1:C0 x=0:=by simpa using h1
  rw[AH]at hN
  rcases AQ.1 hc with rfl|hc
  ·exact⟨h1,own,by omega,by simpa using h2⟩
  ·refine S0 N h ?_ c hc
   have:=Lq x own.length
   have:=JZ h1
   rw[A8]
   omega
theorem QE {x:Ident} {own:List Atm} {b:Bool} (hN:own.length≤1000000000) (h:Jf x own b=0):Rs x.n:=by
 unfold Jf at h
 by_cases h1:Dq x own.length=false
 ·rw[if_pos h1]at h;exact absurd h (by decide)
 ·have h1:Dq x own.length=true:=by simpa using h1
  unfold Dq at h1
  unfold Rs
  split at h1<;>simp at h1<;>omega
theorem QV:Rs Ident.zero.n:=by unfold Rs;exact⟨by decide,by decide⟩
theorem pS {c:Chg} {own:List Atm} (hN:own.length≤1000000000) (hf:C0 c=0) (hr:FY c own=0):pV c:=by
 obtain⟨z1,z2,z3⟩:=Rl hf
 have r1:Kd c own=0:=by
  by_cases h0:Kd c own=0
  ·exact h0
  ·rw[FY,if_pos h0]at hr;exact absurd hr h0
 rw[FY,if_neg (by simp[r1])]at hr
 have r2:NB c own=0:=by
  by_cases h0:NB c own=0
  ·exact h0
  ·rw[if_pos h0]at hr;exact absurd hr h0
 rw[if_neg (by simp[r2])]at hr
 have r3:Ih c own=0:=by
  by_cases h0:Ih c own=0
  ·exact h0
  ·rw[if_pos h0]at hr;exact absurd hr h0
 rw[if_neg (by simp[r3])]at hr
 have r4:Aq (Nk c own) c.over=0:=by
  by_cases h0:Aq (Nk c own) c.over=0
  ·exact h0
  ·rw[if_pos h0]at hr;exact absurd hr h0
 have hE:(c.kind=5∨c.kind=6)→ ∀ x∈ [c.after,c.before],Rs x.n:=fun h x hx=>by
  rw[Ih,if_pos (by unfold J7;simpa using h)]at r3
  exact QE hN (E0 r3 x hx)
 refine⟨hf,?_,?_,?_,?_,fun x hx=>QE hN (E0 r4 x hx),fun h=>?_,fun h=>?_⟩
 ·by_cases h:2≤c.kind∧c.kind≤6
  ·rw[Kd,if_pos h]at r1;exact QE hN r1
  ·rw[z1 h];exact QV
 ·by_cases h:c.kind=2
  ·by_cases h2:c.parent=YW
   ·rw[h2];unfold Rs;exact⟨by decide,by decide⟩
   ·rw[NB,if_pos ⟨h,h2⟩]at r2;exact QE hN r2
  ·rw[z2 h];exact QV
 ·by_cases h:c.kind=5∨c.kind=6
  ·exact hE h _ (by simp)
  ·rw[(z3 h).1];exact QV
 ·by_cases h:c.kind=5∨c.kind=6
  ·exact hE h _ (by simp)
  ·rw[(z3 h).2];exact QV
 ·unfold Rs
  unfold C0 at hf
  have: ¬(c.mode < 0∨511 < c.mode):=fun hm=>by
   rw[if_neg (by omega)]at hf
   split at hf
   ·omega
   ·rw[if_neg (by omega),if_neg (by omega),if_pos ⟨h,hm⟩]at hf;omega
  omega
 ·unfold Rs
  unfold C0 at hf
  have: ¬(c.type < 1∨4 < c.type):=fun hm=>by
   rw[if_neg (by omega)]at hf
   split at hf
   ·omega
   ·rw[if_pos ⟨h,hm⟩]at hf;omega
  omega
theorem U6 {p:Pat} (h:(Cq p).2=0):(∀ c∈p.changes,pV c)∧Rs p.time:=by
 have e:J9 p=0:=by
  by_cases h0:J9 p=0
  ·exact h0
  ·rw[IV,if_pos h0]at h;exact absurd h h0
 rw[Mc e]at h
 have ht: ¬(p.time < 0∨1099511627776 < p.time)∧ ¬400 < (p.changes.length:Int):=by
  unfold J9 at e
  split at e
  ·omega
  split at e
  ·omega
  split at e
  ·omega
  rename_i ht
  split at e
  ·rename_i hd;exact absurd e hd
  split at e
  ·omega
  split at e
  ·omega
  rename_i hc
  exact⟨ht,hc⟩
 refine⟨fun c hc=>?_,by unfold Rs;omega⟩
 obtain⟨hf,own,hN,hr⟩:=S0 1600400 h (by simp;omega) c hc
 exact pS (by omega) hf hr
theorem je {p q:Pat} (hp:W3 p) (hq:W3 q) (cp:(Cq p).2=0) (cq:(Cq q).2=0) (h:NN p=NN q):p=q:=by
 obtain⟨c1,t1⟩:=U6 cp
 obtain⟨c2,t2⟩:=U6 cq
 have h1:=(ZZ 8 (r:= []) (s:= []) hp.ok.1 hq.ok.1 (by rw[B6,B6];exact h)).1
 have h1:=KM h1
 simp only[O8,and_true,true_and]at h1
 obtain⟨e1,e2,e3,e4,e5⟩:=h1
 replace e1:=HJ e1
 replace e2:=HJ e2
 replace e3:=Nc t1 t2 e3
 replace e4:=Kj (fun _ _ _ _ e=>YP e) (KM e4)
 replace e5:=Kj (fun x hx y hy e=>jV (c1 x hx) (c2 y hy) e) (KM e5)
 obtain⟨a1,a2,a3,a4,a5⟩:=p
 obtain⟨b1,b2,b3,b4,b5⟩:=q
 simp only at e1 e2 e3 e4 e5
 subst e1 e2 e3 e4 e5;rfl
attribute [local irreducible] EG AY B2 FZ
section
variable {P:Program} {N:Nat} {all:Array Oper} {K:Env→List Res→Prop} {fl:List Bool} {os:List Oper} {ρ:Env} {L:List Res} {d:Nat} {ty:TypeId} {pos:String} {af:Array Edge}
theorem Na {x:Operand} {cs:List PV} {off:Nat} (hx:ρ.ev x= .pt cs off) (k:AY P N all K fl.tail os (CN ρ d (.pt cs off)) L) (hd:Nat.blt d N=true:=by rfl):AY P N all K fl (⟨some d,.nilCheck x,ty,pos,af,none⟩::os) ρ L:=
 Bg hd (B7 fun a w g ha hi=>by
  have h1:=ha x (by simp[Op.operands])
  rw[hx]at h1
  generalize hv:a.eval x=v at h1
  cases h1 with
  |pt ff hH hv'=>
   rename_i b o
   exact⟨.pointer (some ⟨b,o+off,none⟩),by simp[execOp,hv],.pt ff hH hv'⟩) k
end
instance wx (s:List Sto) (m:Nat):J1 (Ug s m) 0 [.slice (s.map eSto) .ro]:=⟨by simp[Ug]⟩
instance wv (s:List Sto) (m:Nat):J1 (Ug s m) 1 [.raw (.map (some m))]:=⟨by simp[Ug]⟩
def J0 (s:List Sto) (known:List (Dig × List Atm)):Prop:= ∀ d l,Dv d known=some l→l=Jb s d
theorem J0.set {s:List Sto} {known:List (Dig × List Atm)} (h:J0 s known) (d:Dig):J0 s (Hb d (Jb s d) known):=fun x l e=>by
 rw[KR]at e
 split at e
 ·rename_i hx;subst hx;injection e with e;exact e.symm
 ·exact h x l e
theorem lX (s:List Sto) (hg:Dc s) (m:Nat) (known:List (Dig × List Atm)) (hk:J0 s known) (x:Ident):B2 Tryz.prog 156 [.pt (Ug s m) 0,.agg (eIdent x)] (Gj m known) (fun r L'=>r= .tuple [.agg (eAtm ((Iy s x).getD Atm.zero)),.raw (.bool (Iy s x).isSome)]∧ ∃ known',L'=Gj m known'∧J0 s known'):=by
 have i1:B3 (EE ((getS s x.patch).getD Pat.zero)=false):=⟨hg.great _⟩
 refine Bw Tryz.func156 rfl Tryz.ntmps156 (rs:= [.cell 4 180,.tmp 5]) rfl rfl fun hb LF=>?_
 rw[show Gj m known++LF= .map m (Cj kDig (Pw eAtm) known)::LF from rfl]
 refine wf ?_
 refine BR fun b4=>?_
 refine wf ?_
 refine Na rfl ?_
 refine wf ?_
 refine GI (.swap _ _ _) ?_
 refine Cz (σ:=List (Dig × List Atm)) (fun k=>J0 s k) (fun k=> [(3,.pt (eIdent x) 0),(4,.raw (.pointer (some ⟨b4,0,none⟩))),(6,.slice ((Jb s x.patch).map eAtm) .ro)]) (fun k=> .map m (Cj kDig (Pw eAtm) k):: .box b4 180 (eAtm Atm.zero)::LF) ?_ ?_
 ·refine AO (fun h=>?_) (fun h=>?_)
  ·refine wn ?_
   refine EB [10,11] (by decide+kernel) ?_
   refine Aw 0 ?_
   refine Aw 1 (hq:=fun _=>by refine Na rfl ?_;refine AN ?_;exact⟨CK _ _ _,rfl⟩) ?_
   refine Aw 2 ?_
   refine Aw 3 ?_
   refine Aw 4 ?_
   refine Aw 5 ?_
   refine Aw 6 ?_
   refine Aw 7 ?_
   refine Aw 8 ?_
   refine Aw 9 ?_
   refine Av 2 10 ?_
   refine BR fun b8=>?_
   refine AN ?_
   refine Av 1 11 ?_
   refine wo ?_
   refine AN ?_
   refine Av 0 12 ?_
   refine wo ?_
   refine AN ?_
   refine Ct (by decide+kernel) ?_
   refine Ag 8 ?_
   refine wn ?_
   refine BZ 7 ?_ ?_
   ·decide+kernel
   refine wf ?_
   refine Na rfl ?_
   refine wf ?_
   exact⟨Hb x.patch (Jb s x.patch) known,hk.set _,⟨rfl,rfl,rfl⟩,.refl _⟩
  ·have h1:(Dv x.patch known).isSome=true:=by simpa using h
   obtain⟨l,hl⟩:=E5.1 h1
   have e:=hk _ _ hl
   subst e
   refine wf ?_
   refine⟨known,hk,⟨rfl,rfl,by rw[hl];rfl⟩,.refl _⟩
 intro k hkn
 refine GI (.swap _ _ _) ?_
 refine wf ?_
 refine B0 [(53,.raw (.bool (decide (x.n < 0∨((Jb s x.patch).length:Int)≤x.n)))),(3,.pt (eIdent x) 0),(4,.raw (.pointer (some ⟨b4,0,none⟩))),(6,.slice ((Jb s x.patch).map eAtm) .ro)] (.box b4 180 (eAtm Atm.zero):: .map m (Cj kDig (Pw eAtm) k)::LF) ?_ ?_
 ·repeat' (first|(refine A1 (fun h=>?_) (fun h=>?_)<;>refine wf ?_)|(refine AL (fun h=>?_) (fun h=>?_)<;>refine wf ?_)|(refine AO (fun h=>?_) (fun h=>?_)<;>refine wf ?_)|(refine An (fun h=>?_) (fun h=>?_)<;>(have h2:=h;(try simp only[AB,A7,AG,AF]at h2);refine wf ?_)))
  all_goals (refine⟨⟨BO (by rfl) ?_,rfl,rfl,rfl⟩,.refl _⟩;first|(simp_all;done)|grind)
 refine wf ?_
 refine A1 (fun h=>?_) (fun h=>?_)
 ·refine wf ?_
  refine⟨trivial,_,Gj m k,.cons (.cell 4 180 rfl AI (inferInstance:FL Tryz.prog 180 172).out (by simp)) (.cons (.tmp 5) .nil),.cons _ (.refl _),?_,k,rfl,hkn⟩
  rw[Iy,if_pos h];rfl
 ·have hlt:x.n.toNat < (Jb s x.patch).length:=by omega
  refine wf ?_
  refine⟨trivial,_,Gj m k,.cons (.cell 4 180 rfl AI (inferInstance:FL Tryz.prog 180 172).out (by simp)) (.cons (.tmp 5) .nil),.cons _ (.refl _),?_,k,rfl,hkn⟩
  rw[Iy,if_neg h,AZ hlt];rfl
theorem et (id:Dig) (c:Chg):(Je id c).length≤c.over.length+4:=by
 have r1:=dA c
 have r2:=cz c (Xv c)
 have r3:=cy (DF id c) c (aV c (Xv c))
 have r4:=Kn (Mh (DF id c) c) c.over (gU (DF id c) c (aV c (Xv c)))
 unfold Je sK
 omega
theorem VF (s:List Sto) (hg:Dc s) (m:Nat) (known:List (Dig × List Atm)) (hk0:J0 s known) (x:Sto) (hx:EE x.patch=false):B2 Tryz.prog 105 [.pt (Ug s m) 0,.agg (eSto x)] (Gj m known) (fun r L'=>r= .raw (.int .i64 (Qu s x.patch x.id))∧ ∃ known',L'=Gj m known'∧J0 s known'):=by
 have hgf:=(IW hx).2.2.2.2
 have hcl:=(IW hx).2.2.2.1
 refine Bw Tryz.func105 rfl Tryz.ntmps105 (rs:= [.tmp 4]) rfl rfl fun hb LF=>?_
 rw[show Gj m known++LF= .map m (Cj kDig (Pw eAtm) known)::LF from rfl]
 refine wf ?_
 refine AW (σ:=Nat × List (Dig × List Atm)) (fun k=>k.1≤x.patch.changes.length∧J0 s k.2∧ ∀ i (h:i < x.patch.changes.length),i < k.1→Nz s x.id x.patch.changes[i]=0) (fun k=>x.patch.changes.length - k.1) (fun k=> [(0,.pt (Ug s m) 0),(3,.pt (eSto x) 0),(13,.slice (x.patch.changes.map BC) .ro),(14,.raw (.int .i64 x.patch.changes.length)),(15,.raw (.int .i64 k.1))]) (fun k=> .map m (Cj kDig (Pw eAtm) k.2)::LF) (0,known) ⟨by simp,hk0,by simp⟩ ⟨rfl,rfl,rfl,rfl,rfl⟩ (.refl _) ?_
 rintro⟨k,kn⟩ ⟨hk,hkn,he⟩
 dsimp only at hk hkn he ⊢
 refine wf ?_
 refine A1 (fun hc=>?_) (fun hc=>?_)
 ·have hlt:k < x.patch.changes.length:=by omega
  have hat:=CQ (f:=Nz s x.id) hlt he
  have hsu:=fun h=>DT (f:=Nz s x.id) he hlt h
  have hcg:=hgf _ (AK hlt)
  refine wz fun b6=>?_
  generalize x.patch.changes[k]=c at hat hsu hcg ⊢
  have i1:B3 (c.over.length≤400):=⟨by have:=hcg.over;omega⟩
  have hrl:(Je x.id c).length≤400:=by have:=et x.id c;have:=hcg.over;omega
  refine Ag 6 ?_
  refine wf ?_
  refine AW (σ:=Nat × List (Dig × List Atm)) (fun j=>j.1≤(Je x.id c).length∧J0 s j.2∧ ∀ i (h:i < (Je x.id c).length),i < j.1→HS s c (DF x.id c) (Je x.id c)[i]=0) (fun j=>(Je x.id c).length - j.1) (fun j=> [(0,.pt (Ug s m) 0),(3,.pt (eSto x) 0),(13,.slice (x.patch.changes.map BC) .ro),(14,.raw (.int .i64 x.patch.changes.length)),(15,.raw (.int .i64 k)),(22,.slice ((Je x.id c).map eRfc) .ro),(23,.raw (.int .i64 (Je x.id c).length)),(24,.raw (.int .i64 j.1))]) (fun j=> .map m (Cj kDig (Pw eAtm) j.2)::LF) (0,kn) ⟨by simp,hkn,by simp⟩ ⟨rfl,rfl,rfl,rfl,rfl,rfl,rfl,rfl⟩ (.refl _) ?_
  rintro⟨j,kn2⟩ ⟨hj,hkn2,hje⟩
  dsimp only at hj hkn2 hje ⊢
  refine wf ?_
  refine A1 (fun hc2=>?_) (fun hc2=>?_)
  ·have hlt2:j < (Je x.id c).length:=by omega
   have hat2:=CQ (f:=HS s c (DF x.id c)) hlt2 hje
   have hsu2:=fun h=>DT (f:=HS s c (DF x.id c)) hje hlt2 h
   have hfit:=fp x.id c _ (AK hlt2)
   refine wz fun b8=>?_
   generalize (Je x.id c)[j]=r at hat2 hsu2 hfit ⊢
   refine Ag 8 ?_
   have i2:Ax Tryz.prog r.f:=hfit.fn
   have i3: ∀ a:Atm,Bl Tryz.prog r.f (.agg (eAtm a)::r.cs) (.raw (.bool (P5 c (DF x.id c) r a))):=fun a=>⟨hfit.out a⟩
   have er:HS s c (DF x.id c) r=if(Iy s r.id).isSome=false then 7 else if P5 c (DF x.id c) r ((Iy s r.id).getD Atm.zero)=false then 8 else 0:=rfl
   refine wf ?_
   refine Bo (xs:= [.tmp 29,.tmp 31]) (Gj m kn2) LF (f:=156) (cs:= []) (Bx _) rfl rfl (.refl _) _ (lX s hg m kn2 hkn2 r.id) fun u L' ⟨e1,kn3,e2,hkn3⟩=>?_
   subst e1;rw[e2]
   rw[show Gj m kn3++LF= .map m (Cj kDig (Pw eAtm) kn3)::LF from rfl]
   refine wf ?_
   refine BR fun b9=>?_
   refine wo ?_
   refine AN ?_
   refine Ag 9 ?_
   refine wf ?_
   refine AO (fun h=>?_) (fun h=>?_)
   ·refine wf ?_
    have h:(Iy s r.id).isSome=false:=LA h
    rw[if_pos h]at er
    refine⟨trivial,_,Gj m kn3,.cons (.tmp 4) .nil,.refl _,?_,kn3,rfl,hkn3⟩
    have e3:=hat2 (by rw[er];decide)
    have e4:Nz s x.id c=7:=by rw[Nz,e3,er]
    rw[Qu,hat (by rw[e4];decide),e4];rfl
   have h:(Iy s r.id).isSome=true:=oM h
   rw[if_neg (by simp[h])]at er
   refine wf ?_
   refine AO (fun h2=>?_) (fun h2=>?_)
   ·refine wf ?_
    have h2:P5 c (DF x.id c) r ((Iy s r.id).getD Atm.zero)=false:=LA h2
    rw[if_pos h2]at er
    refine⟨trivial,_,Gj m kn3,.cons (.tmp 4) .nil,.refl _,?_,kn3,rfl,hkn3⟩
    have e3:=hat2 (by rw[er];decide)
    have e4:Nz s x.id c=8:=by rw[Nz,e3,er]
    rw[Qu,hat (by rw[e4];decide),e4];rfl
   ·have h2:P5 c (DF x.id c) r ((Iy s r.id).getD Atm.zero)=true:=oM h2
    rw[if_neg (by simp[h2])]at er
    refine wf ?_
    exact⟨(j+1,kn3),⟨by dsimp only;omega,hkn3,hsu2 er⟩,by dsimp only;omega,⟨rfl,rfl,rfl,rfl,rfl,rfl,rfl,rfl⟩,.refl _⟩
  ·have e0:Nz s x.id c=0:=CG fun i h=>hje i h (by omega)
   refine wf ?_
   exact⟨(k+1,kn2),⟨by dsimp only;omega,hkn2,hsu e0⟩,by dsimp only;omega,⟨rfl,rfl,rfl,rfl,rfl⟩,.refl _⟩
 ·refine wf ?_
  refine⟨trivial,_,Gj m kn,.cons (.tmp 4) .nil,.refl _,?_,kn,rfl,hkn⟩
  rw[Qu,CG fun i h=>he i h (by omega)];rfl
theorem bp {s:List Sto} (h:Aq (Eu s) (List.range s.length)=0):Ej (ids s):=by
 refine Iz fun i hi=>?_
 have hi:i+1 < s.length:=by simpa [ids]using hi
 have h4:=E0 h (i+1) (DQ.2 hi)
 have e0:s.getD (i+1) Sto.zero=s[i+1]:=by simp[List.getD,hi]
 have e1:s.getD (i+1 - 1) Sto.zero=s[i]:=by
  have:i < s.length:=by omega
  simp[List.getD,this]
 unfold Eu at h4
 rw[e0,e1]at h4
 by_cases h5:(EF s[i+1].patch).2≠0
 ·rw[if_pos h5]at h4;exact absurd h4 h5
 rw[if_neg h5]at h4
 by_cases h6:(EF s[i+1].patch).1≠s[i+1].id
 ·rw[if_pos h6]at h4;exact absurd h4 (by decide)
 rw[if_neg h6]at h4
 have h6:(EF s[i+1].patch).1=s[i+1].id:=Aj.1 h6
 rw[h6]at h4
 by_cases h7:0 < ((i+1:Nat):Int)∧0≤Dh s[i].id s[i+1].id
 ·rw[if_pos h7]at h4;exact absurd h4 (by decide)
 ·simp only[ids,BT]
  show Dh s[i].id s[i+1].id < 0
  omega
theorem fi {s:List Sto} (h:Aq (Eu s) (List.range s.length)=0) {x:Sto} (hx:x∈s):(EF x.patch).2=0:=by
 obtain⟨i,hi,rfl⟩:=AX.1 hx
 have h4:=E0 h i (DQ.2 hi)
 have e0:s.getD i Sto.zero=s[i]:=by simp[List.getD,hi]
 unfold Eu at h4
 rw[e0]at h4
 by_cases h5:(EF s[i].patch).2≠0
 ·rw[if_pos h5]at h4;exact absurd h4 h5
 ·exact Aj.1 h5
theorem YX (s:List Sto): ∀ n out,(Nl s n out).length≤out.length+n
 |0,out=>by rw[Nl];omega
 |n+1,out=>by
  rw[Nl]
  split
  ·omega
  ·have:=YX s n (out++ [(s.getD (L8 s out).toNat Sto.zero).id])
   rw[A8,CJ]at this
   omega
theorem ae (s:List Sto):(ED s).length≤s.length:=by
 have:=YX s s.length []
 rw[Aa,B4]at this
 exact this
instance Pn (s:List Sto) (t:CW) [hs:B3 (Dc s)]:Bl Tryz.prog 47 [.slice (s.map eSto) t] (.raw (.int .i64 (FJ s))):=⟨by
 have hg:=hs.out
 obtain⟨hl8,hgr⟩:=hg
 refine Ak Tryz.func47 Tryz.ntmps47 rfl (rs:= [.tmp 2]) rfl rfl fun hb LF=>?_
 refine wf ?_
 refine A1 (fun h1=>?_) (fun h1=>?_)
 ·omega
 rw[FJ,if_neg h1]
 refine wf ?_
 refine AW (σ:=Nat) (fun k=>k≤s.length∧ ∀ i (h:i < (List.range s.length).length),i < k→Eu s (List.range s.length)[i]=0) (fun k=>s.length - k) (fun k=> [(0,.slice (s.map eSto) t),(16,.slice (s.map eSto) t),(17,.raw (.int .i64 s.length)),(18,.raw (.int .i64 k))]) (fun _=>LF) 0 ⟨by simp,by simp⟩ ⟨rfl,rfl,rfl,rfl⟩ (.refl _) ?_
 rintro k ⟨hk,he⟩
 refine wf ?_
 refine A1 (fun hc=>?_) (fun hc=>?_)
 ·have hlt:k < s.length:=by omega
  have hltr:k < (List.range s.length).length:=by simpa using hlt
  have ek:(List.range s.length)[k]=k:=by simp
  have e0:s.getD k Sto.zero=s[k]:=by simp[List.getD,hlt]
  have i1:B3 (EE s[k].patch=false):=⟨hgr _ (AK hlt)⟩
  refine wf ?_
  refine BR fun b4=>?_
  refine wo ?_
  refine AN ?_
  refine Ag 4 ?_
  refine wf ?_
  refine BR fun b5=>?_
  refine wo ?_
  refine AN ?_
  refine Ag 5 ?_
  refine wf ?_
  refine AL (fun h2=>?_) (fun h2=>?_)
  ·refine wf ?_
   refine Ah (.of_eq ?_)
   have e:Eu s (List.range s.length)[k]=(EF s[k].patch).2:=by rw[ek,Eu,e0,if_pos h2]
   have f:=CQ hltr he (by rw[e];exact h2)
   rw[if_pos (by rw[f,e];exact h2),f,e]
  refine wf ?_
  refine AL (fun h3=>?_) (fun h3=>?_)
  ·refine wf ?_
   refine Ah (.of_eq ?_)
   have e:Eu s (List.range s.length)[k]=13:=by rw[ek,Eu,e0,if_neg (by simp[h2]),if_pos h3]
   have f:=CQ hltr he (by rw[e];decide)
   rw[if_pos (by rw[f,e];decide),f,e]
  refine wf ?_
  refine An (fun hp=>?_) (fun hp=>?_)
  ·have hp':0 < (k:Int):=Ab hp
   refine wf ?_
   have e1:s.getD (k - 1) Sto.zero=s[((k:Int) - 1).toNat]:=by
    have:((k:Int) - 1).toNat=k - 1:=by omega
    simp only[this]
    have h':k - 1 < s.length:=by omega
    simp[List.getD,h']
   refine A1 (fun h4=>?_) (fun h4=>?_)
   ·refine wf ?_
    refine Ah (.of_eq ?_)
    have e:Eu s (List.range s.length)[k]=9:=by rw[ek,Eu,e0,e1,if_neg (by simp[h2]),if_neg (by simp[h3]),if_pos ⟨hp',h4⟩]
    have f:=CQ hltr he (by rw[e];decide)
    rw[if_pos (by rw[f,e];decide),f,e]
   ·refine wf ?_
    have e:Eu s (List.range s.length)[k]=0:=by rw[ek,Eu,e0,e1,if_neg (by simp[h2]),if_neg (by simp[h3]),if_neg (fun h=>h4 h.2)]
    exact⟨k+1,⟨by omega,DT he hltr e⟩,by dsimp only;omega,⟨rfl,rfl,rfl,rfl⟩,.refl _⟩
  ·have hp': ¬0 < (k:Int):=BJ hp
   refine wf ?_
   have e:Eu s (List.range s.length)[k]=0:=by rw[ek,Eu,e0,if_neg (by simp[h2]),if_neg (by simp[h3]),if_neg (fun h=>hp' h.1)]
   exact⟨k+1,⟨by omega,DT he hltr e⟩,by dsimp only;omega,⟨rfl,rfl,rfl,rfl⟩,.refl _⟩
 have hA:Aq (Eu s) (List.range s.length)=0:=CG fun i h=>he i h (by simp at h;omega)
 have hasc:=bp hA
 have hid:=fun x (hx:x∈s)=>fi hA hx
 rw[if_neg (by simp[hA])]
 clear he hA hk hc
 refine wf ?_
 refine AW (σ:=Nat) (fun k=>k≤s.length∧ ∀ i (h:i < s.length),i < k→Ca (ids s) (Bf s[i].patch)=true) (fun k=>s.length - k) (fun k=> [(0,.slice (s.map eSto) t),(53,.slice (s.map eSto) t),(54,.raw (.int .i64 s.length)),(55,.raw (.int .i64 k))]) (fun _=>LF) 0 ⟨by simp,by simp⟩ ⟨rfl,rfl,rfl,rfl⟩ (.refl _) ?_
 rintro k ⟨hk,he⟩
 refine wf ?_
 refine A1 (fun hc=>?_) (fun hc=>?_)
 ·have hlt:k < s.length:=by omega
  have i1:=fun t=>Z8 s t s[k].patch hasc (by omega) (hgr _ (AK hlt))
  refine wf ?_
  refine BR fun b8=>?_
  refine wo ?_
  refine AN ?_
  refine Ag 8 ?_
  refine wf ?_
  refine AO (fun h=>?_) (fun h=>?_)
  ·refine wf ?_
   refine Ah (.of_eq ?_)
   have hx:Ca (ids s) (Bf s[k].patch)=false:=LA h
   have hy:s.all (fun x=>Ca (ids s) (Bf x.patch))=false:=Fl hlt hx
   rw[if_pos hy]
  ·refine wf ?_
   have hx:Ca (ids s) (Bf s[k].patch)=true:=oM h
   have hy: ∀ i (h:i < s.length),i < k+1→Ca (ids s) (Bf s[i].patch)=true:=fun i hi hik=>by
    rcases BB i k with h'|h'
    ·exact he i hi h'
    ·have e:i=k:=by omega
     subst e;exact hx
   exact⟨k+1,⟨by omega,hy⟩,by dsimp only;omega,⟨rfl,rfl,rfl,rfl⟩,.refl _⟩
 have hB:s.all (fun x=>Ca (ids s) (Bf x.patch))=true:=GZ fun i h=>he i h (by omega)
 rw[if_neg (by simp[hB])]
 clear he hB hk hc
 have i3:=fun t=>fK s t hs.out hasc
 have hol:=ae s
 refine wf ?_
 refine AL (fun h=>?_) (fun h=>?_)
 ·refine wf ?_
  refine Ah (.of_eq ?_)
  rw[if_pos (by omega)]
 rw[if_neg (by omega)]
 refine wf ?_
 refine Bo (xs:= [.tmp 70]) [] LF (f:=104) (cs:= []) (Bx _) rfl rfl (.refl _) _ (Nr s t) fun r L' ⟨m,e1,e2⟩=>?_
 subst e1;rw[e2]
 rw[show Gj m []++LF= .map m (Cj kDig (Pw eAtm) [])::LF from rfl]
 refine wf ?_
 refine wf ?_
 refine AW (σ:=Nat × List (Dig × List Atm)) (fun k=>k.1≤s.length∧J0 s k.2∧ ∀ i (h:i < s.length),i < k.1→FT s s[i].patch s[i].id=0) (fun k=>s.length - k.1) (fun k=> [(9,.pt (Ug s m) 0),(72,.slice (s.map eSto) t),(73,.raw (.int .i64 s.length)),(74,.raw (.int .i64 k.1))]) (fun k=> .map m (Cj kDig (Pw eAtm) k.2)::LF) (0,[]) ⟨by simp,fun d l h=>by simp[Dv]at h,by simp⟩ ⟨rfl,rfl,rfl,rfl⟩ (.refl _) ?_
 rintro⟨k,kn⟩ ⟨hk,hkn,he⟩
 dsimp only at hk hkn he ⊢
 refine wf ?_
 refine A1 (fun hc=>?_) (fun hc=>?_)
 ·have hlt:k < s.length:=by omega
  have hq:=Xz s s[k].id (hid _ (AK hlt))
  refine wf ?_
  refine BR fun b11=>?_
  refine wo ?_
  refine AN ?_
  refine Ag 11 ?_
  refine wf ?_
  refine Bo (xs:= [.tmp 78,.tmp 79]) (Gj m kn) LF (f:=105) (cs:= []) (Bx _) rfl rfl (.refl _) _ (VF s hs.out m kn hkn s[k] (hgr _ (AK hlt))) fun u L' ⟨e1,kn3,e2,hkn3⟩=>?_
  subst e1;rw[e2]
  rw[show Gj m kn3++LF= .map m (Cj kDig (Pw eAtm) kn3)::LF from rfl,hq]
  refine wf ?_
  refine wf ?_
  refine AL (fun h2=>?_) (fun h2=>?_)
  ·refine wf ?_
   refine Ah (.of_eq ?_)
   rw[CQ (f:=fun(x:Sto)=>FT s x.patch x.id) hlt he h2]
  ·refine wf ?_
   exact⟨(k+1,kn3),⟨by dsimp only;omega,hkn3,DT (f:=fun(x:Sto)=>FT s x.patch x.id) he hlt h2⟩,by dsimp only;omega,⟨rfl,rfl,rfl,rfl⟩,.refl _⟩
 ·refine wf ?_
  refine Ah (.of_eq ?_)
  rw[CG (f:=fun(x:Sto)=>FT s x.patch x.id) fun i h=>he i h (by omega)]⟩
end Go.Proofs
