/- What the kit's shelf proves of sorting a list of identities of atoms, laid over this program (printed by the kit's lay-plain). -/
import Derived.Shelf.SlSortCmp.NoneTotal
import Derived.Shelf.SlGeneric
import Derived.Ground.SlsfProg
import Derived.Test.YtddlffkdpocmhaaGreatDoorProg
import Derived.Test.YtddlffkdpocmhaaGreatDoorUal
import Derived.Test.YtddlffkdpocmhaaGreatDoorUam
import Derived.ProofKit
import Derived.SizedLaws
import Derived.OpenShut
import Derived.Test.YtddlffkdpocmhaaGreatDoorUao
import Derived.Test.YtddlffkdpocmhaaGreatDoorUak
import Derived.Test.YtddlffkdpocmhaaGreatDoorUan
set_option linter.unusedSimpArgs false
set_option linter.unusedVariables false
namespace Go.Proofs
open Go.Shelf
def Tryz.sortI_ren:Go.Shelf.Ren:=⟨fun|6=>223|15=>145|14=>254|28=>184|29=>185|20=>273|21=>274|22=>275|23=>276|24=>277|25=>278|26=>279|27=>280|46=>287|47=>218|48=>219|49=>288|50=>289|57=>293|n=>n,fun|22=>117|24=>115|25=>229|3=>3|39=>182|0=>0|53=>170|55=>198|4=>4|46=>206|45=>205|50=>123|5=>5|9=>9|66=>235|70=>239|76=>263|77=>264|n=>n,fun|n=>n⟩
theorem Tryz.sortI:Go.Proofs.SlLaysF0.n6 Tryz.prog Tryz.sortI_ren:={
 mixed:=by kernel_rfl
 f6:=⟨Tryz.f223.name,by decide,Tryz.func223.trans (congrArg some (by kernel_rfl))⟩
 f14:=⟨Tryz.f254.name,by decide,Tryz.func254.trans (congrArg some (by kernel_rfl))⟩
 f15:=Tryz.func145.trans (congrArg some (by kernel_rfl))
 f20:=⟨Tryz.f273.name,by decide,Tryz.func273.trans (congrArg some (by kernel_rfl))⟩
 f21:=⟨Tryz.f274.name,by decide,Tryz.func274.trans (congrArg some (by kernel_rfl))⟩
 f22:=⟨Tryz.f275.name,by decide,Tryz.func275.trans (congrArg some (by kernel_rfl))⟩
 f23:=⟨Tryz.f276.name,by decide,Tryz.func276.trans (congrArg some (by kernel_rfl))⟩
 f24:=⟨Tryz.f277.name,by decide,Tryz.func277.trans (congrArg some (by kernel_rfl))⟩
 f25:=⟨Tryz.f278.name,by decide,Tryz.func278.trans (congrArg some (by kernel_rfl))⟩
 f26:=⟨Tryz.f279.name,by decide,Tryz.func279.trans (congrArg some (by kernel_rfl))⟩
 f27:=⟨Tryz.f280.name,by decide,Tryz.func280.trans (congrArg some (by kernel_rfl))⟩
 f28:=Tryz.func184.trans (congrArg some (by kernel_rfl))
 f29:=Tryz.func185.trans (congrArg some (by kernel_rfl))
 f46:=⟨Tryz.f287.name,by decide,Tryz.func287.trans (congrArg some (by kernel_rfl))⟩
 f47:=Tryz.func218.trans (congrArg some (by kernel_rfl))
 f48:=Tryz.func219.trans (congrArg some (by kernel_rfl))
 f49:=⟨Tryz.f288.name,by decide,Tryz.func288.trans (congrArg some (by kernel_rfl))⟩
 f50:=⟨Tryz.f289.name,by decide,Tryz.func289.trans (congrArg some (by kernel_rfl))⟩
 f57:=⟨Tryz.f293.name,by decide,Tryz.func293.trans (congrArg some (by kernel_rfl))⟩
 t0:=Tryz.underlying0
 a0:=Tryz.isAgg0
 z0:=Tryz.sizeOf0
 v0:=Tryz.zeroValue0
 t3:=Tryz.underlying3
 a3:=Tryz.isAgg3
 z3:=Tryz.sizeOf3
 v3:=Tryz.zeroValue3
 t4:=Tryz.underlying4
 a4:=Tryz.isAgg4
 z4:=Tryz.sizeOf4
 v4:=Tryz.zeroValue4
 t5:=Tryz.underlying5
 a5:=Tryz.isAgg5
 z5:=Tryz.sizeOf5
 v5:=Tryz.zeroValue5
 t9:=Tryz.underlying9
 a9:=Tryz.isAgg9
 z9:=Tryz.sizeOf9
 v9:=Tryz.zeroValue9
 t22:=Tryz.underlying117
 a22:=Tryz.isAgg117
 z22:=Tryz.sizeOf117
 v22:=Tryz.zeroValue117
 t25:=Tryz.underlying229
 a25:=Tryz.isAgg229
 z25:=Tryz.sizeOf229
 v25:=Tryz.zeroValue229
 t39:=Tryz.underlying182
 a39:=Tryz.isAgg182
 z39:=Tryz.sizeOf182
 v39:=Tryz.zeroValue182
 t45:=Tryz.underlying205
 a45:=Tryz.isAgg205
 z45:=Tryz.sizeOf205
 v45:=Tryz.zeroValue205
 t46:=Tryz.underlying206
 a46:=Tryz.isAgg206
 z46:=Tryz.sizeOf206
 v46:=Tryz.zeroValue206
 t50:=Tryz.underlying123
 a50:=Tryz.isAgg123
 z50:=Tryz.sizeOf123
 v50:=Tryz.zeroValue123
 t53:=Tryz.underlying170
 a53:=Tryz.isAgg170
 z53:=Tryz.sizeOf170
 v53:=Tryz.zeroValue170
 t55:=Tryz.underlying198
 a55:=Tryz.isAgg198
 z55:=Tryz.sizeOf198
 v55:=Tryz.zeroValue198
 t66:=Tryz.underlying235
 a66:=Tryz.isAgg235
 z66:=Tryz.sizeOf235
 v66:=Tryz.zeroValue235
 t70:=Tryz.underlying239
 a70:=Tryz.isAgg239
 z70:=Tryz.sizeOf239
 v70:=Tryz.zeroValue239
 t76:=Tryz.underlying263
 a76:=Tryz.isAgg263
 z76:=Tryz.sizeOf263
 v76:=Tryz.zeroValue263
 t77:=Tryz.underlying264
 a77:=Tryz.isAgg264
 z77:=Tryz.sizeOf264
 v77:=Tryz.zeroValue264 }
end Go.Proofs
namespace Go.Proofs
open Go Go.Q Go.Shelf Go.Sort
attribute [local irreducible] pwp pops OpN
instance inh_Id:Inhabited Ident:=⟨Ident.zero⟩
def vIdn (x:Ident):List Value:=bcs x.patch.bs++ [.int .i64 x.n]
theorem vIdn_len (x:Ident):(vIdn x).length=33:=by
 have:=vDig_len x.patch
 unfold vDig at this
 simp[vIdn,this]
instance rawE_Id:RawE eIdent vIdn:=⟨fun x=>by
 have:=(inferInstance:RawE eDig vDig).out x.patch
 unfold vDig at this
 rw[eIdent,this,vIdn,List.map_append];rfl,fun x v hv=>by
 rcases List.mem_append.1 hv with h|h
 ·exact(inferInstance:RawE eDig vDig).one x.patch v h
 ·rw[List.mem_singleton.1 h];rfl⟩
instance trw_Id:TRw Tryz.prog 117 115 33 40:=⟨by
 have h2:(Tryz.prog.info? 115).map (fun i=>(i.size,i.bytes,i.zero.isSome,(i.zero.getD undef).cells.size))=some (33,40,true,33):=by kernel_rfl
 obtain⟨i,hi,e⟩:=Option.map_eq_some_iff.1 h2
 simp only[Prod.mk.injEq]at e
 obtain⟨e1,e2,e3,e4⟩:=e
 obtain⟨z,hz⟩:=Option.isSome_iff_exists.1 e3
 rw[hz]at e4
 exact⟨i,z,by kernel_rfl,hi,e1,e2,hz,e4,by decide,by decide⟩⟩
theorem cmpI_neg {a b:Ident}:cmpI a b < 0↔Dig.lt a.patch b.patch∨(a.patch=b.patch∧a.n < b.n):=by
 unfold cmpI
 by_cases h:cmpD a.patch b.patch=0
 ·have e:=cmpD_zero.1 h
  rw[if_neg (by simp[h])]
  constructor
  ·intro h2
   refine .inr ⟨e,?_⟩
   split at h2
   ·assumption
   ·split at h2<;>omega
  ·rintro(h2|⟨_,h2⟩)
   ·rw[e]at h2;exact absurd h2 (Dig.lt_irrefl _)
   ·rw[if_pos h2];omega
 ·rw[if_pos h]
  constructor
  ·exact fun h2=> .inl h2
  ·rintro(h2|⟨e,_⟩)
   ·exact h2
   ·exact absurd (cmpD_zero.2 e) h
theorem Ident.lt_irrefl (a:Ident): ¬cmpI a a < 0:=fun h=>by
 rcases cmpI_neg.1 h with h|⟨_,h⟩
 ·exact Dig.lt_irrefl _ h
 ·omega
theorem Ident.lt_trans {a b c:Ident} (h:cmpI a b < 0) (k:cmpI b c < 0):cmpI a c < 0:=by
 refine cmpI_neg.2 ?_
 rcases cmpI_neg.1 h with h|⟨e,h⟩<;>rcases cmpI_neg.1 k with k|⟨e2,k⟩
 ·exact .inl (Dig.lt_trans h k)
 ·exact .inl (e2 ▸ h)
 ·exact .inl (e ▸ k)
 ·exact .inr ⟨e.trans e2,by omega⟩
theorem Ident.tri (a b:Ident):cmpI a b < 0∨a=b∨cmpI b a < 0:=by
 rcases Dig.tri a.patch b.patch with h|h|h
 ·exact .inl (cmpI_neg.2 (.inl h))
 ·rcases Int.lt_trichotomy a.n b.n with h2|h2|h2
  ·exact .inl (cmpI_neg.2 (.inr ⟨h,h2⟩))
  ·refine .inr (.inl ?_)
   cases a;cases b
   simp only at h h2
   rw[h,h2]
  ·exact .inr (.inr (cmpI_neg.2 (.inr ⟨h.symm,h2⟩)))
 ·exact .inr (.inr (cmpI_neg.2 (.inl h)))
abbrev IRow (v:Value) (l:List Ident) (R:List Res):Prop:=RowL vIdn 115 33 v l R
theorem swoI:SWO (ltOf cmpI) where
 irrefl x:=by
  unfold ltOf
  exact decide_eq_false (fun h=>Ident.lt_irrefl x h)
 trans x y z h1 h2:=by
  unfold ltOf at*
  exact decide_eq_true (Ident.lt_trans (of_decide_eq_true h1) (of_decide_eq_true h2))
 ntrans x y z h1 h2:=by
  unfold ltOf at*
  refine decide_eq_false fun h=>?_
  have h1:=of_decide_eq_false h1
  have h2:=of_decide_eq_false h2
  rcases Ident.tri x y with h'|h'|h'
  ·exact h1 h'
  ·subst h';exact h2 h
  ·rcases Ident.tri y z with h3|h3|h3
   ·exact h2 h3
   ·subst h3;exact h1 h
   ·exact Ident.lt_irrefl x (Ident.lt_trans h (Ident.lt_trans h3 h'))
def sortI (l:List Ident):List Ident:=l.mergeSort fun x y=>!(ltOf cmpI) y x
theorem cmpI_lays {w:World} {g:Gh} {r n E:Nat} {cur:Array Value} (hi:Inv w g []) (h1:w.heap[r]? =some (.cells cur E (0,0))) (h2: ∀ o,g.H r o=none) (h3:g.M r=none):CmpLays Tryz.prog 208 #[] vIdn 33 cmpI r 0 n w:=by
 intro m os dk hdk x y
 have hI:Inv (sortWorldK vIdn 33 w r 0 m dk os) g []:=hi.laterBut h2 h3 (by simp[blocks]) (fun k hk hn=>sortWorld_other m dk os k hk hn)
 have hv:VRl g [.agg (vIdn x).toArray,.agg (vIdn y).toArray] [.agg (eIdent x),.agg (eIdent y)]:=by
  have e: ∀ d:Ident,VR g (.agg (vIdn d).toArray) (.agg (eIdent d)):=fun d=>by
   rw[(inferInstance:RawE eIdent vIdn).out]
   have:VRl g (vIdn d) ((vIdn d).map PV.raw):=⟨by simp,fun i h1 h2=>by simp;exact .raw _⟩
   exact this.agg
  exact .cons (e x) (.cons (e y) (.nil g))
 have:=(piCompare_ct x y).out _ (sortWorldK vIdn 33 w r 0 m dk os) g [] hv hI
 refine Calls.mono this ?_
 rintro e w' ⟨v,x',g',L',rfl,k1,k2,k3,k4,rfl,rfl⟩
 refine⟨by rw[k1.raw_inv],?_⟩
 exact grown_eq k3.os k3.tape k3.output.1 k3.output.2 k3.size (fun k hk=>k3.keep k hk (by simp[blocks]))
theorem sortI_fn (l:List Ident) (v:Value) (R:List Res) (hv:IRow v l R) (hl:l.length≤1000000):PCalls Tryz.prog 223 [.raw v,.raw (.func (.func 208) #[] #[])] R (fun _ L'=> ∃ v',v'=v∧IRow v' (sortI l) L'):=fun vs w g LF hvs hi=>by
 obtain⟨v1,v2,rfl⟩: ∃ a b,vs= [a,b]:=by
  have:=hvs.len
  match vs,this with
  | [a,b],_=>exact⟨a,b,rfl⟩
 rw[hvs.uncons.1.raw_inv,hvs.uncons.2.uncons.1.raw_inv]
 obtain⟨o,c,rfl⟩:=hv.slice
 by_cases hne:l= []
 ·subst hne
  refine(AnyF.slices_SortFunc_none Tryz.sortI o c _ w).mono ?_
  rintro e w' ⟨rfl,rfl⟩
  exact⟨_,.raw (.tuple #[]),g,R,rfl,.raw _,hi,.refl _ _ _,.refl _ _,_,rfl,by simpa [sortI]using hv⟩
 obtain⟨_,r,cur,rest,rfl,rfl,hcur,hsz,hlc⟩:=hv.inv hne
 obtain⟨k1,k2,k3,k4,k5⟩:=hi.rawHead
 have hlt:r < w.heap.size:=(Array.getElem?_eq_some_iff.1 k1).1
 have hF:(flatK vIdn 33 l.toArray).toList=l.flatMap vIdn:=flatK_eq (by decide) vIdn_len l
 have hH:HoldsK vIdn 33 w r 0 l.toArray:=fun j hj=>by
  have hj2:j < l.length*33:=by simpa using hj
  refine⟨?_,by simp[World.frozen?,k1]⟩
  have hj3:j < cur.size:=by omega
  simp only[World.cell?,k1,Option.isSome_none,Bool.false_eq_true,if_false,Nat.zero_add]
  rw[getElem!_pos _ j hj]
  have e1:cur.toList[j]? =(flatK vIdn 33 l.toArray).toList[j]?:=by
   rw[hcur,hF,List.getElem?_append_left (by rw[len_raws (f:=eIdent) (sz:=33)];exact hj2)]
  rw[Array.getElem?_toList,Array.getElem?_toList,Array.getElem?_eq_getElem hj]at e1
  exact e1
 refine(AnyQ.slices_SortFunc_total Tryz.sortI 33 (fun w=>?_) (fun w=>TSz.run (inferInstance:TSz Tryz.prog 115 33 40) w) vIdn vIdn_len (fun x v h=>(inferInstance:RawE eIdent vIdn).one x v h) cmpI swoI 208 #[] r 0 c l.toArray w (fun args w=>(inferInstance:TFun Tryz.prog 208).out args w) (cmpI_lays (hi.sub (List.nil_sublist _)) k1 k2 k3) hH hlt (by simp;omega) ?_).mono ?_
 ·exact(isAgg_run (inferInstance:TAgg Tryz.prog 115 33).out w).1
 ·intro x y h1 h2
  unfold ltOf at h1 h2
  have h1:=of_decide_eq_false h1
  have h2:=of_decide_eq_false h2
  rcases Ident.tri x y with h'|h'|h'
  ·exact absurd h' h1
  ·exact h'
  ·exact absurd h' h2
 ·rintro e w' ⟨rfl,n,os,rfl⟩
  have hlen:(sortI l).length=l.length:=List.length_mergeSort _
  have hFs:(flatK vIdn 33 (sortI l).toArray).toList=(sortI l).flatMap vIdn:=flatK_eq (by decide) vIdn_len (sortI l)
  have hFz:(flatK vIdn 33 (sortI l).toArray).size=l.length*33:=by simp[hlen]
  have htk:=putCells_take (cur:=cur) (flatK vIdn 33 (sortI l).toArray) (by omega)
  have hrow:RowL vIdn 115 33 (.slice (some ⟨r,0,none⟩) (sortI l).length c) (sortI l) [.raw r (.cells (putCells id 0 (flatK vIdn 33 (sortI l).toArray) cur) 115 (0,0))]:=by
   refine RowL.mk (rest:=(putCells id 0 (flatK vIdn 33 (sortI l).toArray) cur).toList.drop (l.length*33)) vIdn_len ?_ (by simp[putCells,hsz]) (by omega)
   rw[←hFs,←htk,hFz,List.take_append_drop]
  rw[hlen]at hrow
  refine⟨_,.raw (.tuple #[]),g,[.raw r (.cells (putCells id 0 (flatK vIdn 33 (sortI l).toArray) cur) 115 (0,0))],rfl,.raw _,?_,⟨rfl,rfl,⟨rfl,Nat.le_add_right _ _⟩,sortWorld_size n _ os,fun b hb hn=>sortWorld_other n _ os b hb (fun e=>hn (by rw[e];simp[blocks,Res.block])),.refl g,fun _ _ _=>⟨fun _=>rfl,rfl⟩⟩,fun b hb _=>by simpa [blocks,Res.block]using hb,_,rfl,hrow⟩
  exact(k5.laterBut k2 k3 k4 (fun k hk hn=>sortWorld_other n _ os k hk hn)).addRaw (sortWorld_row k1 n _ os) k2 k3 k4
end Go.Proofs
namespace Go.Q
open Go
theorem cell_spot {w:World} {b o s:Nat}:w.cell? ⟨b,o,some s⟩=none:=by
 unfold World.cell?
 split<;>simp
def Opens (P:Program) (t:Nat) (F:List PV→Prop):Prop:=
 ∀ (H:Type) (enc:TypeId × Value→H) (w:World) (g:Gh),(∀ b o v,w.cell? ⟨b,o,none⟩=some v→g.H b o=some v)→ ∀ (base:Nat) (held:Bool) (fuel:Nat) (cs:List Value) (x:DataW H × List MemPlace),
   DataW.trod enc P w base (fun _=>true) held fuel t cs=some x→(∀ n∈x.1.weights P t,n≤reachBytes)→ ∃ xs,F xs∧VRl g cs xs
theorem Opens.to {P:Program} {t:Nat} {F G:List PV→Prop} (h:Opens P t F) (hg: ∀ xs,F xs→G xs):Opens P t G:=fun H enc w g hc base held fuel cs x ht hw=>by
 obtain⟨xs,h1,h2⟩:=h H enc w g hc base held fuel cs x ht hw
 exact⟨xs,hg xs h1,h2⟩
theorem opens_int {P:Program} {t:Nat} {k:IntKind} (ht:P.underlying t=some (.int k)):Opens P t (fun xs=> ∃ n,(Lit.int k n).wf=true∧xs= [.raw (.int k n)]):=fun H enc w g hc base held fuel cs x h hw=>by
 obtain⟨n,rfl,rfl,h1⟩:=DataW.trod_int ht h
 exact⟨_,⟨n,h1,rfl⟩,.cons (.raw _) (.nil g)⟩
theorem opens_str {P:Program} {t:Nat} (ht:P.underlying t=some .string):Opens P t (fun xs=> ∃ s,xs= [.str s]):=fun H enc w g hc base held fuel cs x h hw=>by
 obtain⟨s,rfl,rfl,h1⟩:=DataW.trod_string ht h
 have h2:s.data.toList.length≤maxN:=by
  have:=hw s.data.toList.length (by simp[DataW.weights])
  have h3:=reachBytes_lt
  unfold maxN;omega
 refine⟨_,⟨s.data.toList,rfl⟩,.cons ?_ (.nil g)⟩
 have:=VR.str (g:=g) h2
 simpa using this
theorem weights_each {H:Type} {P:Program} {e:Nat}: ∀ {l:List (DataW H)} {d:DataW H},d∈l→ ∀ n∈d.weights P e,n∈DataW.weightsAll P e l
 |x::l,d,hd,n,hn=>by
  simp only[DataW.weightsAll,List.mem_append]
  rcases List.mem_cons.1 hd with rfl|hd
  ·exact .inl hn
  ·exact .inr (weights_each hd n hn)
theorem opens_slice {P:Program} {t e sz by_:Nat} {F:List PV→Prop} (ht:P.underlying t=some (.slice e)) (hc:P.cellsOf e=sz) (hb:P.bytesOf e=by_) (h0:0 < sz) (hsb:sz≤by_) (hF: ∀ ys,F ys→ys.length=sz) (h:Opens P e F):
  Opens P t (fun xs=> ∃ yss:List (List PV),(∀ ys∈yss,F ys)∧xs= [.slice yss .ro]):=fun H enc w g hg base held fuel cs x hx hw=>by
 rcases DataW.trod_slice ht hx with ⟨rfl,rfl⟩|⟨a,len,cap,elems,rest,n,rfl,rfl,rfl,h1,h2,h3,h4,h5,h6,h7⟩
 ·exact⟨_,⟨[],by simp,rfl⟩,.cons .nilR (.nil g)⟩
 subst hc
 have hwe: ∀ y∈elems,∀ n∈y.1.weights P e,n≤reachBytes:=fun y hy n hn=>hw n (by
  simp only[DataW.weights,ht,List.mem_cons,List.mem_append]
  exact .inr (.inl (weights_each (List.mem_map_of_mem hy) n hn)))
 have hbytes:len*by_≤reachBytes:=by
  have:=hw ((elems.length+rest.length)*P.bytesOf e) (by simp[DataW.weights,ht])
  rw[hb,h4]at this
  exact Nat.le_trans (Nat.mul_le_mul_right _ (by omega)) this
 obtain⟨hrl,hr⟩:=h6 rfl
 obtain⟨b,off,spot⟩:=a
 have cellspot: ∀ i cs',i=0→w.cells? base (Addr.add ⟨b,off,spot⟩ (i*P.cellsOf e)) (P.cellsOf e)=some cs'→spot=none:=fun i cs' hi hcs=>by
  subst hi
  obtain⟨_,hl,hc⟩:=World.cells?_some hcs
  have:=hc 0 h0
  rw[List.getElem?_eq_getElem (by omega)]at this
  have e0:Addr.add (Addr.add ⟨b,off,spot⟩ (0*P.cellsOf e)) 0=⟨b,off,spot⟩:=by simp[Addr.add]
  rw[e0]at this
  cases spot with
  |none=>rfl
  |some s=>rw[cell_spot]at this;cases this
 have hspot:spot=none∨(len=0∧cap=0):=by
  by_cases hl:len=0
  ·by_cases hcp:cap=0
   ·exact .inr ⟨hl,hcp⟩
   ·left
    have:=hr 0 (by omega)
    have hlt:0 < rest.length:=by omega
    rw[List.getElem?_eq_getElem hlt,Option.bind_eq_some_iff]at this
    obtain⟨cs',hcs,_⟩:=this
    exact cellspot _ cs' (by omega) hcs
  ·left
   have:=h5 0 (by omega)
   have hlt:0 < elems.length:=by omega
   rw[List.getElem?_eq_getElem hlt,Option.bind_eq_some_iff]at this
   obtain⟨cs',hcs,_⟩:=this
   exact cellspot _ cs' (by omega) hcs
 rcases hspot with rfl|⟨rfl,rfl⟩
 ·have key: ∀ m,m≤len→ ∃ (us:List Value) (yss:List (List PV)),yss.length=m∧us.length=m*P.cellsOf e∧(∀ ys∈yss,F ys)∧VRl g us yss.flatten∧ ∀ j (hj:j < us.length),w.cell? ⟨b,off+j,none⟩=some us[j]:=by
   intro m
   induction m with
   |zero=>intro _;exact⟨[],[],rfl,by simp,by simp,.nil g,fun j hj=>absurd hj (by simp)⟩
   |succ m ih=>
    intro hm
    obtain⟨us,yss,k1,k2,k3,k4,k5⟩:=ih (by omega)
    have hlt:m < elems.length:=by omega
    have:=h5 m (by omega)
    rw[List.getElem?_eq_getElem hlt,Option.bind_eq_some_iff]at this
    obtain⟨cs',hcs,hy⟩:=this
    obtain⟨_,hl,hcc⟩:=World.cells?_some hcs
    obtain⟨ys,f1,f2⟩:=h H enc w g hg base held n cs' _ hy (hwe _ (List.getElem_mem hlt))
    refine⟨us++cs',yss++ [ys],by simp[k1],by rw[List.length_append,k2,hl,Nat.add_mul];omega,fun z hz=>?_,?_,fun j hj=>?_⟩
    ·rcases List.mem_append.1 hz with hz|hz
     ·exact k3 z hz
     ·rw[List.mem_singleton.1 hz];exact f1
    ·rw[List.flatten_append]
     have:VRl g cs' [ys].flatten:=by simpa using f2
     exact k4.append this
    ·by_cases hju:j < us.length
     ·rw[List.getElem_append_left hju];exact k5 j hju
     ·rw[List.getElem_append_right (by omega)]
      have hj2:j - us.length < cs'.length:=by rw[List.length_append]at hj;omega
      have:=hcc (j - us.length) (by omega)
      rw[List.getElem?_eq_getElem hj2]at this
      have e2:off+j=off+m*P.cellsOf e+(j - us.length):=by rw[←k2];omega
      rw[←this,e2,add_plain,add_plain]
  obtain⟨us,yss,k1,k2,k3,k4,k5⟩:=key len (Nat.le_refl _)
  refine⟨_,⟨yss,k3,rfl⟩,.cons ?_ (.nil g)⟩
  have hr2:=reachBytes_lt
  have hb1:len*P.cellsOf e≤len*by_:=Nat.mul_le_mul_left _ hsb
  have hb2:len≤len*P.cellsOf e:=Nat.le_mul_of_pos_right _ h0
  have:=VR.of_cells (g:=g) (xs:=yss) (t:= .ro) (sz:=P.cellsOf e) (b:=b) (off:=off) (cap:=cap) (fun y hy=>hF y (k3 y hy)) (by omega) (by rw[k1];unfold maxN;omega) k4 (fun j hj=>hg _ _ _ (k5 j hj)) (by simp) (by simp)
  rw[k1]at this
  exact this
 ·exact⟨_,⟨[],by simp,rfl⟩,.cons .nilR (.nil g)⟩
def structRow:TypeDesc→Option (List (Nat × Nat))
 | .struct fs=>some (fs.toList.map fun f=>(f.type,f.offset))
 |_=>none
inductive FOpen (P:Program):List (Nat × Nat)→List (List PV→Prop)→Nat→Nat→Prop
 |nil (n:Nat):FOpen P [] [] n n
 |cons {t o n:Nat} {r:List (Nat × Nat)} {F:List PV→Prop} {Fs:List (List PV→Prop)} (sz:Nat) (hs:P.cellsOf t=sz) (h:Opens P t F) (k:FOpen P r Fs (o+sz) n):FOpen P ((t,o)::r) (F::Fs) o n
inductive AllF:List (List PV→Prop)→List (List PV)→Prop
 |nil:AllF [] []
 |cons {F:List PV→Prop} {Fs:List (List PV→Prop)} {y:List PV} {ys:List (List PV)} (h:F y) (k:AllF Fs ys):AllF (F::Fs) (y::ys)
theorem opens_fields {P:Program} {H:Type} {enc:TypeId × Value→H} {w:World} {g:Gh} (hg: ∀ b o v,w.cell? ⟨b,o,none⟩=some v→g.H b o=some v) {base fuel:Nat} {held:Bool} {cs:List Value}:
  ∀ {r:List (Nat × Nat)} {Fs:List (List PV→Prop)} {o n:Nat},FOpen P r Fs o n→cs.length=n→
    (∀ (i t o:Nat),r[i]? =some (t,o)→ ∃ x,DataW.trod enc P w base (fun _=>true) held fuel t ((cs.drop o).take (P.cellsOf t))=some x∧ ∀ n∈x.1.weights P t,n≤reachBytes)→ ∃ yss,AllF Fs yss∧VRl g (cs.drop o) yss.flatten
 |_,_,_,_,.nil n,hn,_=>⟨[],.nil,by rw[List.drop_eq_nil_of_le (by omega)];exact .nil g⟩
 |_,_,_,_,.cons (t:=t) (o:=o) sz hs h k,hn,hx=>by
  obtain⟨x,h1,h2⟩:=hx 0 t o rfl
  obtain⟨ys,f1,f2⟩:=h H enc w g hg base held fuel _ x h1 h2
  obtain⟨yss,k1,k2⟩:=opens_fields hg k hn (fun i t o hi=>hx (i+1) t o (by simpa using hi))
  refine⟨ys::yss,.cons f1 k1,?_⟩
  rw[hs]at f2
  have:=f2.append k2
  rw[←List.drop_drop,List.take_append_drop]at this
  simpa using this
theorem opens_struct {P:Program} {t n:Nat} {r:List (Nat × Nat)} {Fs:List (List PV→Prop)} (hr:(P.underlying t).bind structRow=some r) (hn:P.cellsOf t=n) (h:FOpen P r Fs 0 n):Opens P t (fun xs=> ∃ yss,AllF Fs yss∧xs=yss.flatten):=fun H enc w g hg base held fuel cs x hx hw=>by
 obtain⟨td,h1,h2⟩:=Option.bind_eq_some_iff.1 hr
 obtain⟨fs,rfl⟩: ∃ fs,td= .struct fs:=by
  cases td<;>simp[structRow]at h2
  exact⟨_,rfl⟩
 simp only[structRow,Option.some.injEq]at h2
 obtain⟨xs,m,rfl,rfl,k1,k2,k3⟩:=DataW.trod_struct h1 hx
 obtain⟨yss,j1,j2⟩:=opens_fields (enc:=enc) (w:=w) (base:=base) (held:=held) (fuel:=m) hg (cs:=cs) h (by rw[k1,hn]) (fun i t' o hi=>by
  rw[←h2,List.getElem?_map,Option.map_eq_some_iff]at hi
  obtain⟨f,hf,e⟩:=hi
  obtain⟨e1,e2⟩:=Prod.mk.inj e
  subst e1 e2
  have hf':fs[i]? =some f:=by simpa using hf
  have hlt:i < xs.length:=by
   rw[k2]
   exact(Array.getElem?_eq_some_iff.1 hf').1
  refine⟨xs[i],by rw[k3 i f hf',List.getElem?_eq_getElem hlt],fun n hn=>hw n ?_⟩
  simp only[DataW.weights,h1]
  exact DataW.weights_mem_each (j:=i) (t:=f.type) (d:=xs[i].1) (by simp[hf']) (by simp[hlt]) n hn)
 exact⟨_,⟨yss,j1,rfl⟩,by simpa using j2⟩
theorem exists_map {α:Type} {f:α→List PV}: ∀ {yss:List (List PV)},(∀ ys∈yss,∃ a,ys=f a)→ ∃ l:List α,yss=l.map f
 | [],_=>⟨[],rfl⟩
 |y::yss,h=>by
  obtain⟨a,ha⟩:=h y List.mem_cons_self
  obtain⟨l,hl⟩:=exists_map (yss:=yss) (fun z hz=>h z (List.mem_cons_of_mem _ hz))
  exact⟨a::l,by rw[ha,hl];rfl⟩
theorem Opens.list {P:Program} {t e sz by_:Nat} {α:Type} {f:α→List PV} (h:Opens P e (fun xs=> ∃ a,xs=f a)) (hf: ∀ a,(f a).length=sz) (ht:P.underlying t=some (.slice e)) (hc:P.cellsOf e=sz) (hb:P.bytesOf e=by_) (h0:0 < sz) (hsb:sz≤by_):Opens P t (fun xs=> ∃ l:List α,xs= [.slice (l.map f) .ro]):=
 Opens.to (opens_slice ht hc hb h0 hsb (fun ys ⟨a,ha⟩=>by rw[ha];exact hf a) h) fun xs ⟨yss,h1,h2⟩=>by
  obtain⟨l,rfl⟩:=exists_map h1
  exact⟨l,h2⟩
theorem opens_dig {P:Program} {t e:Nat} (ht:P.underlying t=some (.array 32 e)) (he:P.underlying e=some (.int .u8)) (hc:P.cellsOf t=32) (hce:P.cellsOf e=1):Opens P t (fun xs=> ∃ d,xs=eDig d):=fun H enc w g hg base held fuel cs x hx hw=>by
 obtain⟨xs,m,rfl,rfl,k1,k2,k3⟩:=DataW.trod_array ht hx
 rw[hc]at k1
 have each: ∀ i (hi:i < cs.length),∃ b:UInt8,cs[i]= .int .u8 b.toNat:=fun i hi=>by
  have:=k3 i (by omega)
  rw[List.getElem?_eq_getElem (by omega),hce,Nat.mul_one]at this
  obtain⟨n,e1,_,hwf⟩:=DataW.trod_int he this
  have e2:(cs.drop i).take 1= [cs[i]]:=by
   rw[List.drop_eq_getElem_cons hi];rfl
  rw[e2]at e1
  simp only[List.cons.injEq,and_true]at e1
  simp[Lit.wf,IntKind.min,IntKind.max,IntKind.signed,IntKind.bits]at hwf
  refine⟨n.toNat.toUInt8,?_⟩
  rw[e1]
  congr 1
  simp
  omega
 have: ∀ l:List Value,(∀ v∈l,∃ b:UInt8,v= .int .u8 b.toNat)→ ∃ bs:List UInt8,l=bs.map u8:=by
  intro l
  induction l with
  |nil=>intro _;exact⟨[],rfl⟩
  |cons v l ih=>
   intro h
   obtain⟨b,rfl⟩:=h v List.mem_cons_self
   obtain⟨bs,rfl⟩:=ih (fun v hv=>h v (List.mem_cons_of_mem _ hv))
   exact⟨b::bs,rfl⟩
 obtain⟨bs,rfl⟩:=this cs (fun v hv=>by
  obtain⟨i,hi,rfl⟩:=List.mem_iff_getElem.1 hv
  exact each i hi)
 refine⟨_,⟨⟨bs,by simpa using k1⟩,rfl⟩,?_⟩
 refine⟨by simp[eDig],fun i h1 h2=>?_⟩
 simp[eDig,eU8]
 exact .raw _
def gAll (w:World):Gh:=⟨fun b o=>w.cell? ⟨b,o,none⟩,fun b=>if b=globAt then some (.row pow10Tab)else none⟩
theorem inv_all {w:World} (h: ∃ T p,w.heap[globAt]? =some (.cells pow10Tab.toArray T p)):Inv w (gAll w) []:=
 ⟨fun _ _ _ h=>h,fun b z hz=>(by
  simp only[gAll]at hz
  split at hz
  ·rename_i e;subst e;cases hz;exact h
  ·cases hz),by simp,List.nodup_nil,⟨by simp[gAll]⟩⟩
theorem Step.below {w w':World} {g g':Gh} (h:Step [] w g w' g'):Go.RowKit.Below w.heap.size w w':=⟨h.os,h.tape,h.output.1,h.size,fun k hk=>h.keep k hk (by simp)⟩
end Go.Q
namespace Go.Q
open Go
section
variable {P:Program} {N:Nat} {Q:PPost} {all:Array Oper} {K:Env→List Res→Prop}
theorem pOp_putL {bar:Nat→Bool} {j:Nat} {oi oj:Oper} {x:PV} (hj:all[j]? =some oj) (hap:oi.apart all oj=true) {K:Env→List Res→Prop} {ρ:Env} {L:List Res}
  (hy: ∀ L,YQ P all oi ρ L x) (h:pOp P N all bar j K (updo ρ oi.dst x) L):pOp P N all bar j (fun ρ' L'=>(∀ L,YQ P all oi ρ' L x)∧K (updo ρ' oi.dst x) L') ρ L:=by
 obtain⟨h1,h2,h3⟩:=Oper.apart_spec hap
 unfold pOp at*
 simp only[hj]at*
 obtain⟨hd,h⟩:=h
 have cj: ∀ s,s∈oj.looksAt all→updo ρ oi.dst x s=ρ s:=fun s hs=>updo_slot fun d hd e=>h1 d hd (e ▸ hs)
 have ci: ∀ u,∀ L,YQ P all oi (updo ρ oj.dst u) L x:=fun u L=>(hy L).congr fun s hs=>(updo_slot fun d hd e=>h3 d hd (e ▸ hs)).symm
 refine⟨hd,?_⟩
 rcases h with ⟨u,hu,hk⟩|⟨hb,hg,ho⟩
 ·refine .inl ⟨u,hu.congr cj,ci u,?_⟩
  rw[updo_comm ρ u x (fun d hd e=>h2 d e hd)];exact hk
 ·refine .inr ⟨hb,hg.congr cj,(OpN.congr (ev_of_slots cj) ho).mono fun u L' hk=>⟨ci u,?_⟩⟩
  rw[updo_comm ρ u x (fun d hd e=>h2 d e hd)];exact hk
theorem pAny_firstL {bar:Nat→Bool} {i:Nat} {oi:Oper} {x:PV} (hi:all[i]? =some oi) (hdi: ∀ d,oi.dst=some d→d < N):
  ∀ (fuel:Nat) (listed:Array Bool) (ρ:Env) (L:List Res),Closed all listed→
    (∀ j oj,all[j]? =some oj→j≠i→listed.getD j true=false→(∀ e∈oj.after,Region.binds .any e=true→e.on≠i)→oi.apart all oj=true)→
    i∈Region.ready .any all listed→(∀ L,YQ P all oi ρ L x)→
    pAny P N all bar K fuel (listed.setIfInBounds i true) (updo ρ oi.dst x) L→pAny P N all bar K (fuel+1) listed ρ L:=by
 intro fuel
 have self: ∀ (listed:Array Bool) (ρ:Env) (L:List Res) (n:Nat),YQ P all oi ρ L x→pAny P N all bar K n (listed.setIfInBounds i true) (updo ρ oi.dst x) L→
   pOp P N all bar i (pAny P N all bar K n (listed.setIfInBounds i true)) ρ L:=fun listed ρ L n hy H=>by
  unfold pOp;simp only[hi];exact⟨hdi,.inl ⟨x,hy,H⟩⟩
 induction fuel with
 |zero=>
  intro listed ρ L hc _ hr hy H
  refine⟨fun h=>(by rw[h]at hr;cases hr),fun j hj=>?_⟩
  by_cases hji:j=i
  ·subst hji;exact self _ _ _ _ (hy L) H
  ·have:=ready_mono hj hji
   rw[H.1]at this
   cases this
 |succ fuel ih=>
  intro listed ρ L hc hfree hr hy H
  refine⟨fun h=>(by rw[h]at hr;cases hr),fun j hj=>?_⟩
  by_cases hji:j=i
  ·subst hji;exact self _ _ _ _ (hy L) H
  ·have h1:=H.2 j (ready_mono hj hji)
   obtain⟨hjun,oj,hoj,hall⟩:=mem_ready.1 hj
   have hiun:=(mem_ready.1 hr).1
   have hnot: ∀ e∈oj.after,Region.binds .any e=true→e.on≠i:=fun e he hb heq=>by
    have h1:=hall e he hb
    rw[heq]at h1
    rcases Nat.lt_or_ge i listed.size with h'|h'
    ·simp[h']at hiun h1;rw[hiun]at h1;cases h1
    ·simp[Array.getElem?_eq_none h']at h1
   have h2:=pOp_putL hoj (hfree j oj hoj hji hjun hnot) hy h1
   have hfree': ∀ k ok,all[k]? =some ok→k≠i→(listed.setIfInBounds j true).getD k true=false→
     (∀ e∈ok.after,Region.binds .any e=true→e.on≠i)→oi.apart all ok=true:=fun k ok hk hki hun hno=>by
    refine hfree k ok hk hki ?_ hno
    by_cases hjk:j=k
    ·subst hjk;exact hjun
    ·rw[getD_set_ne true hjk]at hun;exact hun
   refine pOp_mono (fun ρ' L' h3=>?_) h2
   obtain⟨h4,h5⟩:=h3
   refine ih (listed.setIfInBounds j true) ρ' L' (hc.set hj) hfree' (ready_mono hr (Ne.symm hji)) h4 ?_
   rw[Array.setIfInBounds_comm _ _ hji]
   exact h5
def closedB (all:Array Oper) (listed:Array Bool):Bool:=listed.size==all.size&&(List.range all.size).all fun j=>match all[j]? with
 |some oj=>!listed.getD j false||oj.after.all fun e=>!Region.binds .any e||listed.getD e.on false
 |none=>true
theorem closedB_spec {listed:Array Bool} (h:closedB all listed=true):Closed all listed:=by
 simp only[closedB,Bool.and_eq_true,beq_iff_eq,List.all_eq_true,List.mem_range]at h
 obtain⟨h1,h2⟩:=h
 refine⟨h1,fun j oj hj hl e he hb=>?_⟩
 have:=h2 j (Array.getElem?_eq_some_iff.1 hj).1
 simp only[hj,hl,Bool.not_true,Bool.false_or,Array.all_eq_true_iff_forall_mem]at this
 have:=this e he
 simpa [hb]using this
theorem pAny_quiet {bar:Nat→Bool} {fuel:Nat} {listed:Array Bool} {ρ:Env} {L:List Res} (i:Nat) {d:Nat} {op:Op} {ty:TypeId} {pos:String} {af:Array Edge} {x:PV} (h0:all[i]? =some ⟨some d,op,ty,pos,af,none⟩)
  (hB:(closedB all listed&&Region.free .any all listed i&&(Region.ready .any all listed).contains i)=true) (hd:Nat.blt d N=true)
  (hq: ∀ L,QOp P ⟨some d,op,ty,pos,af,none⟩ ρ L x) (k:pAny P N all bar K fuel (listed.setIfInBounds i true) (upd ρ d x) L):pAny P N all bar K (fuel+1) listed ρ L:=by
 simp only[Bool.and_eq_true]at hB
 obtain⟨⟨h1,h2⟩,h3⟩:=hB
 exact pAny_firstL (x:=x) h0 (dlt hd) fuel listed ρ L (closedB_spec h1) (Region.free_spec h0 h2) (by simpa using h3) (fun L=> .inr ⟨by unfold GYes;trivial,hq L⟩) k
theorem pwp_drawA {id:Nat} {l:List Oper} {ρ:Env} {L:List Res} (bs:List Nat) [hm:TMix P] (hG:guardsIn l.toArray N=true)
  (h:pAny P N l.toArray (fun k=>bs.contains k) (Q .normal) l.length (Array.replicate l.length false) ρ L):pwp P N (.region id l.toArray true) Q ρ L:=fun ro base a w g hst=>by
 refine wpIn_region_any hm.out ?_
 have hi:=hst.inv
 have hst0:Step (blocks L) w g { w with drawn:=w.drawn+1 } g:=⟨rfl,rfl,⟨rfl,Nat.le_succ _⟩,Nat.le_refl _,fun _ _ _=>rfl,.refl g,fun _ _ _=>⟨fun _=>rfl,rfl⟩⟩
 have hi':Inv { w with drawn:=w.drawn+1 } g L:=⟨hi.sat,fun b z hz=>(hi.satM b z hz).congr rfl,fun r hr=>by have:=hi.res r hr;cases r<;>first|exact this|(rename_i t _ _;cases t<;>exact this),hi.nodup,hi.glob⟩
 have k:=wpAny_of_pAny (ro:=ro) (base:=base) (Q:=Q) (w₀:=w) (g₀:=g) (L₀:=L) (fun _ _ h=>h) hG _ _ ρ L a _ g hst.agr hi' hst0 (.refl _ _) h
 simpa using k
end
theorem q_of_pops {P:Program} {N:Nat} {o:Oper} {ρ:Env} {d:Nat} {x:PV} {L:List Res} (hd:o.dst=some d) (hg:o.guard=none) (h:pops P N #[] (fun ρ' L'=>ρ' d=x∧L'=L) [false] [o] ρ L):QOp P o ρ L x:=by
 obtain⟨_,h⟩:=h
 rcases h with ⟨hno,_⟩|⟨_,⟨y,hq,h1,_⟩|⟨hf,_⟩⟩
 ·unfold GNo at hno
  rw[hg]at hno
  exact hno.elim
 ·rw[hd]at h1
  have:y=x:=by
   rw[←h1]
   show y=upd ρ d y d
   rw[upd_self]
  rw[←this];exact hq
 ·cases hf
end Go.Q
namespace Go.Proofs
open Go Go.Q
attribute [local irreducible] pwp pops pAny PCalls OpN
instance full_ct (x:Ident) (d:Dig):FnC Tryz.prog 222 [.agg (eIdent x),.pt (eDig d) 0] (.agg (eIdent (rWhole x d))):=⟨by
 refine fn_of Tryz.func222 Tryz.ntmps222 rfl (rs:= [.cell 3 115]) rfl rfl fun hb LF=>?_
 refine wkb fun b2=>?_
 refine s_alloc fun b3=>?_
 refine wf ?_
 refine pops_if (fun hp=>?_) (fun hp=>?_)
 ·have h0:x.patch=Dig.zero:=by simpa using hp
  refine wf ?_
  refine pwp_condD (fun h=>?_) (fun h=>?_)
  ·refine wf ?_
   refine endC rfl (.of_eq ?_)
   rw[rWhole,if_pos ⟨h0,h⟩]
  ·refine wf ?_
   refine endC rfl (.of_eq ?_)
   rw[rWhole,if_neg (fun h'=>h h'.2)]
 ·have h0: ¬x.patch=Dig.zero:=by simpa using hp
  refine wf ?_
  refine endC rfl (.of_eq ?_)
  rw[rWhole,if_neg (fun h'=>h0 h'.1)]⟩
def fP1 (d:Dig) (a:Atm):Atm:={ a with id:=rWhole a.id d }
def fP2 (d:Dig) (a:Atm):Atm:=if a.kind≠7 then { a with file:=rWhole a.file d }else a
def fP3 (d:Dig) (a:Atm):Atm:=if a.kind=2 then { a with parent:=rWhole a.parent d }else a
def fP4 (d:Dig) (a:Atm):Atm:=if a.kind=6 then { a with src:=rWhole a.src d,dst:=rWhole a.dst d }else a
def fP5 (d:Dig) (a:Atm):Atm:={ a with over:=sortI (a.over.map fun y=>rWhole y d) }
def fP (d:Dig) (a:Atm):Atm:=fP5 d (fP4 d (fP3 d (fP2 d (fP1 d a))))
def atomsP (p:Pat):List Atm × Int:=if(rEx p).2.2≠0 then([],(rEx p).2.2)else if(rId p).2≠0 then([],(rId p).2)else((rEx p).1.map (fP (rId p).1),0)
set_option maxHeartbeats 4000000 in
theorem complete_fn (p:Pat) (hs:rGreat p=false):FnC Tryz.prog 186 [.agg (ePat p)] (.tuple [.slice ((atomsP p).1.map eAtm) .ro,.raw (.int .i64 (atomsP p).2)]):=⟨by
 have i0:Small (rGreat p=false):=⟨hs⟩
 refine fn_of Tryz.func186 Tryz.ntmps186 rfl (rs:= [.tmp 2,.tmp 3]) rfl rfl fun hb LF=>?_
 repeat(refine pwp_seq ?_)
 refine pwp_region (by kernel_rfl) ?_
 refine wo ?_
 refine pops_nil ?_
 repeat(refine pwp_seq ?_)
 refine pwp_region (by kernel_rfl) ?_
 refine s_loadAL (by rfl) (hl:=(by infer_instance)) ?_
 refine s_callR (xs:= [.tmp 15]) [] LF (f:=131) (cs:= []) (le_func _) rfl rfl (.refl _) _ (examineB_fn p hs) fun r L' ⟨x,y,e,hor⟩=>?_
 subst e
 refine wf ?_
 refine wf ?_
 rcases hor with ⟨hne,rfl⟩|⟨he0,v,rfl,hrow,hll⟩
 ·refine pwp_condN (fun h=>?_) (fun h=>absurd h hne)
  refine wf ?_
  refine end2 ?_
  rw[atomsP,if_pos hne]
  exact .tuple2 (.ros rfl) (.refl _)
 refine pwp_condN (fun h=>absurd he0 h) (fun h=>?_)
 refine wf ?_
 refine s_alloc fun b7=>?_
 refine wo ?_
 refine pops_nil ?_
 refine pwp_freezeD 7 ?_
 refine wf ?_
 refine pwp_condN (fun h2=>?_) (fun h2=>?_)
 ·refine pwp_weaken (fun i=> .inl rfl) (List.sublist_append_right L' LF) ?_
  refine wf ?_
  refine end2 ?_
  rw[atomsP,if_neg (by simp[he0]),if_pos h2]
  exact .tuple2 (.ros rfl) (.refl _)
 have e1:atomsP p=((rEx p).1.map (fP (rId p).1),0):=by rw[atomsP,if_neg (by simp[he0]),if_neg (by simpa using h2)]
 rw[e1]
 have hov: ∀ a∈(rEx p).1,a.over.length≤40:=fun a ha=>by
  unfold rEx at ha
  split at ha
  ·cases ha
  ·split at ha
   ·cases ha
   ·exact(rCheckP_facts hs).2 a ha
 generalize (rEx p).1=l at hrow hll hov ⊢
 generalize (rId p).1=g
 obtain⟨⟨o,cc,ev⟩,_⟩:=hrow.slice
 rw[List.length_map]at ev
 subst ev
 refine wf ?_
 refine s_lenR rfl ?_
 refine wf ?_
 refine pwp_loopS (σ:=Nat × List Res) (fun k=>k.1≤l.length∧RowB 157 172 (.slice o l.length cc) (((l.take k.1).map (fP g)++l.drop k.1).map eAtm) k.2) (fun k=>l.length - k.1) (fun k=> [(4,.raw (.slice o l.length cc)),(8,.clo 222 [.pt (eDig g) 0]),(32,.raw (.slice o l.length cc)),(33,.raw (.int .i64 l.length)),(34,.raw (.int .i64 k.1))]) (fun k=>k.2++LF) (0,_) ⟨by simp,by simpa using hrow⟩ ⟨rfl,rfl,rfl,rfl,rfl⟩ (.refl _) ?_
 rintro⟨k,R⟩ ⟨hk,hR⟩
 dsimp only at hk hR ⊢
 refine wf ?_
 refine pwp_condD (fun hc=>?_) (fun hc=>?_)
 ·have hlt:k < l.length:=by omega
  obtain⟨xs,hxs⟩: ∃ xs,xs=((l.take k).map (fP g)++l.drop k).map eAtm:=⟨_,rfl⟩
  rw[←hxs]at hR
  have hlk:xs.length=l.length:=by rw[hxs];simp;omega
  have hel:xs[k]'(by omega)=eAtm l[k]:=by
   subst hxs
   rw[List.getElem_map,List.getElem_append_right (by simp;omega),List.getElem_drop]
   congr 2
   simp;omega
  obtain⟨r,rest,rfl,rfl,hn,hcl,hsz,hcc⟩:=hR.inv (by omega)
  have isub:Sub (xs.flatten++rest) (0+k*172) 172 (eAtm l[k]):=by
   rw[←hel];exact flat_sub hsz (by omega)
  refine wf ?_
  refine s_ixRow (k:=k) rfl rfl hlt ?_
  refine wf ?_
  refine s_alloc fun b10=>?_
  refine wf ?_
  refine pwp_join True [(4,.raw (.slice (some ⟨r,0,none⟩) l.length cc)),(8,.clo 222 [.pt (eDig g) 0]),(9,.raw (.int .i64 k)),(10,.raw (.pointer (some ⟨b10,0,none⟩))),(32,.raw (.slice (some ⟨r,0,none⟩) l.length cc)),(33,.raw (.int .i64 l.length)),(34,.raw (.int .i64 k))] (.box b10 157 (eAtm (fP2 g (fP1 g l[k]))):: .box r 157 (xs.flatten++rest)::LF) ?_ fun _=>?_
  ·refine pwp_condN (fun h=>?_) (fun h=>?_)
   ·refine wf ?_
    rw[show fP2 g (fP1 g l[k])= { fP1 g l[k]with file:=rWhole l[k].file g } by rw[fP2,if_pos (show(fP1 g l[k]).kind≠7 from h)];rfl]
    exact⟨trivial,⟨rfl,rfl,rfl,rfl,rfl,rfl,rfl⟩,.refl _⟩
   ·refine wf ?_
    rw[show fP2 g (fP1 g l[k])=fP1 g l[k] by rw[fP2,if_neg (show ¬(fP1 g l[k]).kind≠7 from fun h'=>h' h)]]
    exact⟨trivial,⟨rfl,rfl,rfl,rfl,rfl,rfl,rfl⟩,.refl _⟩
  have o2:(fP2 g (fP1 g l[k])).over.length≤40:=by
   have h:=hov _ (List.getElem_mem hlt)
   unfold fP2;split<;>exact h
  generalize hg2:fP2 g (fP1 g l[k])=a2 at o2 ⊢
  refine wf ?_
  refine pwp_join True [(4,.raw (.slice (some ⟨r,0,none⟩) l.length cc)),(8,.clo 222 [.pt (eDig g) 0]),(9,.raw (.int .i64 k)),(10,.raw (.pointer (some ⟨b10,0,none⟩))),(32,.raw (.slice (some ⟨r,0,none⟩) l.length cc)),(33,.raw (.int .i64 l.length)),(34,.raw (.int .i64 k))] (.box b10 157 (eAtm (fP3 g a2)):: .box r 157 (xs.flatten++rest)::LF) ?_ fun _=>?_
  ·refine pwp_condD (fun h=>?_) (fun h=>?_)
   ·refine wf ?_
    rw[show fP3 g a2= { a2 with parent:=rWhole a2.parent g } by rw[fP3,if_pos h]]
    exact⟨trivial,⟨rfl,rfl,rfl,rfl,rfl,rfl,rfl⟩,.refl _⟩
   ·refine wf ?_
    rw[show fP3 g a2=a2 by rw[fP3,if_neg h]]
    exact⟨trivial,⟨rfl,rfl,rfl,rfl,rfl,rfl,rfl⟩,.refl _⟩
  have o3:(fP3 g a2).over.length≤40:=by unfold fP3;split<;>exact o2
  generalize hg3:fP3 g a2=a3 at o3 ⊢
  refine wf ?_
  refine pwp_join True [(4,.raw (.slice (some ⟨r,0,none⟩) l.length cc)),(8,.clo 222 [.pt (eDig g) 0]),(9,.raw (.int .i64 k)),(10,.raw (.pointer (some ⟨b10,0,none⟩))),(32,.raw (.slice (some ⟨r,0,none⟩) l.length cc)),(33,.raw (.int .i64 l.length)),(34,.raw (.int .i64 k))] (.box b10 157 (eAtm (fP4 g a3)):: .box r 157 (xs.flatten++rest)::LF) ?_ fun _=>?_
  ·refine pwp_condD (fun h=>?_) (fun h=>?_)
   ·rw[show fP4 g a3= { a3 with src:=rWhole a3.src g,dst:=rWhole a3.dst g } by rw[fP4,if_pos h]]
    refine wn ?_
    refine pwp_drawA [2,6,9,11] (by decide+kernel) ?_
    refine pAny_quiet 0 rfl (by decide+kernel) rfl (fun L'=>q_of_pops (N:=97) rfl rfl (by refine wo ?_;refine pops_nil ?_;exact⟨upd_self _ _ _,rfl⟩)) ?_
    refine pAny_quiet 1 rfl (by decide+kernel) rfl (fun L'=>q_of_pops (N:=97) rfl rfl (by refine wo ?_;refine pops_nil ?_;exact⟨upd_self _ _ _,rfl⟩)) ?_
    refine pAny_quiet 4 rfl (by decide+kernel) rfl (fun L'=>q_of_pops (N:=97) rfl rfl (by refine wo ?_;refine pops_nil ?_;exact⟨upd_self _ _ _,rfl⟩)) ?_
    refine pAny_quiet 5 rfl (by decide+kernel) rfl (fun L'=>q_of_pops (N:=97) rfl rfl (by refine wo ?_;refine pops_nil ?_;exact⟨upd_self _ _ _,rfl⟩)) ?_
    refine pAny_next (fuel:=7) [2,6] (by decide+kernel) (by simp) fun i hi=>?_
    simp only[List.mem_cons,List.not_mem_nil,or_false]at hi
    rcases hi with rfl|rfl
    ·refine⟨_,rfl,?_⟩
     refine wf ?_
     refine pAny_quiet 3 rfl (by decide+kernel) rfl (fun L'=>q_of_pops (N:=97) rfl rfl (by refine wo ?_;refine pops_nil ?_;exact⟨upd_self _ _ _,rfl⟩)) ?_
     refine pAny_next (fuel:=5) [6] (by decide+kernel) (by simp) fun i hi=>?_
     simp only[List.mem_cons,List.not_mem_nil,or_false]at hi
     subst hi
     refine⟨_,rfl,?_⟩
     refine wf ?_
     refine pAny_quiet 7 rfl (by decide+kernel) rfl (fun L'=>q_of_pops (N:=97) rfl rfl (by refine wo ?_;refine pops_nil ?_;exact⟨upd_self _ _ _,rfl⟩)) ?_
     refine pAny_quiet 8 rfl (by decide+kernel) rfl (fun L'=>q_of_pops (N:=97) rfl rfl (by refine wo ?_;refine pops_nil ?_;exact⟨upd_self _ _ _,rfl⟩)) ?_
     refine pAny_next (fuel:=2) [9] (by decide+kernel) (by simp) fun i hi=>?_
     simp only[List.mem_cons,List.not_mem_nil,or_false]at hi
     subst hi
     refine⟨_,rfl,?_⟩
     refine wf ?_
     refine pAny_quiet 10 rfl (by decide+kernel) rfl (fun L'=>q_of_pops (N:=97) rfl rfl (by refine wo ?_;refine pops_nil ?_;exact⟨upd_self _ _ _,rfl⟩)) ?_
     refine pAny_next (fuel:=0) [11] (by decide+kernel) (by simp) fun i hi=>?_
     simp only[List.mem_cons,List.not_mem_nil,or_false]at hi
     subst hi
     refine⟨_,rfl,?_⟩
     refine wf ?_
     refine pAny_end (by decide+kernel) ?_
     refine wf ?_
     exact⟨trivial,⟨rfl,rfl,rfl,rfl,rfl,rfl,rfl⟩,.refl _⟩
    ·refine⟨_,rfl,?_⟩
     refine wf ?_
     refine pAny_next (fuel:=6) [2] (by decide+kernel) (by simp) fun i hi=>?_
     simp only[List.mem_cons,List.not_mem_nil,or_false]at hi
     subst hi
     refine⟨_,rfl,?_⟩
     refine wf ?_
     refine pAny_quiet 3 rfl (by decide+kernel) rfl (fun L'=>q_of_pops (N:=97) rfl rfl (by refine wo ?_;refine pops_nil ?_;exact⟨upd_self _ _ _,rfl⟩)) ?_
     refine pAny_quiet 7 rfl (by decide+kernel) rfl (fun L'=>q_of_pops (N:=97) rfl rfl (by refine wo ?_;refine pops_nil ?_;exact⟨upd_self _ _ _,rfl⟩)) ?_
     refine pAny_quiet 8 rfl (by decide+kernel) rfl (fun L'=>q_of_pops (N:=97) rfl rfl (by refine wo ?_;refine pops_nil ?_;exact⟨upd_self _ _ _,rfl⟩)) ?_
     refine pAny_next (fuel:=2) [9] (by decide+kernel) (by simp) fun i hi=>?_
     simp only[List.mem_cons,List.not_mem_nil,or_false]at hi
     subst hi
     refine⟨_,rfl,?_⟩
     refine wf ?_
     refine pAny_quiet 10 rfl (by decide+kernel) rfl (fun L'=>q_of_pops (N:=97) rfl rfl (by refine wo ?_;refine pops_nil ?_;exact⟨upd_self _ _ _,rfl⟩)) ?_
     refine pAny_next (fuel:=0) [11] (by decide+kernel) (by simp) fun i hi=>?_
     simp only[List.mem_cons,List.not_mem_nil,or_false]at hi
     subst hi
     refine⟨_,rfl,?_⟩
     refine wf ?_
     refine pAny_end (by decide+kernel) ?_
     refine wf ?_
     exact⟨trivial,⟨rfl,rfl,rfl,rfl,rfl,rfl,rfl⟩,.refl _⟩
   ·refine wf ?_
    rw[show fP4 g a3=a3 by rw[fP4,if_neg h]]
    exact⟨trivial,⟨rfl,rfl,rfl,rfl,rfl,rfl,rfl⟩,.refl _⟩
  have o4:(fP4 g a3).over.length≤40:=by unfold fP4;split<;>exact o3
  generalize hg4:fP4 g a3=a4 at o4 ⊢
  repeat(refine pwp_seq ?_)
  refine pwp_region (by kernel_rfl) ?_
  refine s_assign ?_
  refine pops_nil ?_
  rw[show Env.ev _ (Operand.const (Value.slice none 0 0))= .raw (.slice none 0 0) from rfl]
  refine wf ?_
  refine pwp_loopS (σ:=Nat × Value × List Res) (fun j=>j.1≤a4.over.length∧IRow j.2.1 ((a4.over.take j.1).map fun y=>rWhole y g) j.2.2) (fun j=>a4.over.length - j.1) (fun j=> [(4,.raw (.slice (some ⟨r,0,none⟩) l.length cc)),(8,.clo 222 [.pt (eDig g) 0]),(9,.raw (.int .i64 k)),(10,.raw (.pointer (some ⟨b10,0,none⟩))),(11,.raw j.2.1),(32,.raw (.slice (some ⟨r,0,none⟩) l.length cc)),(33,.raw (.int .i64 l.length)),(34,.raw (.int .i64 k)),(74,.slice (a4.over.map eIdent) .ro),(75,.raw (.int .i64 a4.over.length)),(76,.raw (.int .i64 j.1))]) (fun j=>j.2.2++(.box b10 157 (eAtm a4):: .box r 157 (xs.flatten++rest)::LF)) (0,.slice none 0 0,[]) ⟨by simp,.nil none (by simp)⟩ ⟨rfl,rfl,rfl,rfl,rfl,rfl,rfl,rfl,rfl,rfl,rfl⟩ (.refl _) ?_
  rintro⟨j,v2,R2⟩ ⟨hj,hI⟩
  dsimp only at hj hI ⊢
  refine wf ?_
  refine pwp_condD (fun hc2=>?_) (fun hc2=>?_)
  ·have hjl:j < a4.over.length:=by omega
   refine wz fun b13=>?_
   refine pwp_freezeD 13 ?_
   refine wf ?_
   refine s_appRow (f:=eIdent) (m:= [rWhole a4.over[j] g]) (R:=R2) (LF:= .box b10 157 (eAtm a4):: .box r 157 (xs.flatten++rest)::LF) (fun R'=>R'++(.box b10 157 (eAtm a4):: .box r 157 (xs.flatten++rest)::LF)) rfl rfl hI (.refl _) (fun R'=> .refl _) (by simp only[List.length_map,List.length_take,List.length_cons,List.length_nil];omega) (by simp only[List.length_map,List.length_take,List.length_cons,List.length_nil];omega) fun v3 R3 h3=>?_
   refine wf ?_
   refine wf ?_
   refine⟨(j+1,v3,R3),⟨by dsimp only;omega,?_⟩,by dsimp only;omega,⟨rfl,rfl,rfl,rfl,rfl,rfl,rfl,rfl,rfl,rfl,rfl⟩,.refl _⟩
   dsimp only
   rw[List.take_succ_eq_append_getElem hjl,List.map_append]
   exact h3
  ·rw[List.take_of_length_le (by omega)]at hI
   refine wf ?_
   refine s_callR (xs:= [.tmp 87,.func 208]) R2 (.box b10 157 (eAtm a4):: .box r 157 (xs.flatten++rest)::LF) (f:=223) (cs:= []) (le_func _) rfl rfl (.refl _) _ (sortI_fn _ _ R2 hI (by simp only[List.length_map];omega)) fun r' L3 ⟨v3,e3,h3⟩=>?_
   subst e3
   refine wo ?_
   refine pops_nil ?_
   repeat(refine pwp_seq ?_)
   have hms:(sortI (a4.over.map fun y=>rWhole y g)).length≤maxN∧(sortI (a4.over.map fun y=>rWhole y g)).length*33≤maxN:=by
    have h1:maxN=140737488355328:=rfl
    have h2:(sortI (a4.over.map fun y=>rWhole y g)).length=a4.over.length:=by rw[sortI,List.length_mergeSort,List.length_map]
    omega
   refine pwp_freezeRow (f:=eIdent) 11 h3 hms (.refl _) rfl ?_
   refine wf ?_
   have iput:Put (xs.flatten++rest) (0+k*172) (eAtm { a4 with over:=sortI (a4.over.map fun y=>rWhole y g) }) ((xs.set k (eAtm (fP5 g a4))).flatten++rest):=flat_put hsz (by omega) (by simp)
   refine s_ixRow (k:=k) rfl rfl hlt ?_
   refine wf ?_
   have hset:xs.set k (eAtm (fP5 g a4))=((l.take (k+1)).map (fP g)++l.drop (k+1)).map eAtm:=by
    have hf:fP5 g a4=fP g l[k]:=by rw[fP,hg2,hg3,hg4]
    rw[hf,hxs]
    refine List.ext_getElem (by simp;omega) fun i k1 k2=>?_
    rw[List.getElem_set]
    split
    ·rename_i e
     subst e
     rw[List.getElem_map,List.getElem_append_left (by simp;omega)]
     simp
    ·rename_i e
     rw[List.getElem_map,List.getElem_map]
     congr 1
     rcases Nat.lt_or_ge i k with h'|h'
     ·rw[List.getElem_append_left (by simp;omega),List.getElem_append_left (by simp;omega)]
      simp
     ·rw[List.getElem_append_right (by simp;omega),List.getElem_append_right (by simp;omega)]
      simp only[List.getElem_drop,List.length_map,List.length_take]
      congr 1
      omega
   have hnew: ∀ e∈xs.set k (eAtm (fP5 g a4)),e.length=172:=fun e he=>by
    rw[hset]at he
    obtain⟨a,_,rfl⟩:=List.mem_map.1 he
    simp
   refine⟨(k+1,[.box r 157 ((xs.set k (eAtm (fP5 g a4))).flatten++rest)]),⟨by dsimp only;omega,?_⟩,by dsimp only;omega,⟨rfl,rfl,rfl,rfl,rfl⟩,.cons _ (.refl _)⟩
   dsimp only
   rw[←hset]
   refine .row (by rw[List.length_set,hlk]) hcl hnew ?_
   have h1:=flatten_len hnew
   have h2:=flatten_len hsz
   rw[List.length_set]at h1
   omega
 ·have hkk:k=l.length:=by omega
  subst hkk
  rw[List.take_length,List.drop_length,List.append_nil]at hR
  have hmx:((l.map (fP g)).map eAtm).length≤maxN∧((l.map (fP g)).map eAtm).length*172≤maxN:=by
   have:maxN=140737488355328:=rfl
   simp only[List.length_map];omega
  refine pwp_freezeB 4 hR hmx (.refl _) rfl ?_
  refine wf ?_
  exact end2 (.tuple2 (.ros rfl) (.refl _))⟩
end Go.Proofs
namespace Go.Proofs
open Go Go.Q
attribute [local irreducible] pwp pops PCalls OpN
instance atomsP_ct (p:Pat) [hs:Small (rGreat p=false)]:FnC Tryz.prog 154 [.agg (ePat p)] (.tuple [.slice ((atomsP p).1.map eAtm) .ro,.raw (.int .i64 (atomsP p).2)]):=⟨by
 have i1:FnC Tryz.prog 186 [.agg (ePat p)] (.tuple [.slice ((atomsP p).1.map eAtm) .ro,.raw (.int .i64 (atomsP p).2)]):=complete_fn p hs.out
 refine fn_of Tryz.func154 Tryz.ntmps154 rfl (rs:= [.tmp 2,.tmp 3]) rfl rfl fun hb LF=>?_
 refine wf ?_
 exact end2 (.refl _)⟩
end Go.Proofs
namespace Go.Proofs
open Go Go.Q
attribute [local irreducible] pwp pops PCalls OpN
instance zr_res:ZeroE Tryz.prog 151 [.slice [] .ro,.raw (.map none)]:=ZeroE.of (us:= [PV.slice [] .ro,.raw (.map none)].map zv) (by kernel_rfl) (by kernel_rfl)
def eRsv (s:List Sto) (m:Nat):List PV:= [.slice (s.map eSto) .ro,.raw (.map (some m))]
def knownR (m:Nat) (known:List (Dig × List Atm)):List Res:= [.map m (eMap kDig (vSl eAtm) known)]
theorem newResolver_fn (s:List Sto) (t:Tag):PCalls Tryz.prog 85 [.slice (s.map eSto) t] [] (fun r L'=> ∃ m,r= .pt (eRsv s m) 0∧L'=knownR m []):=by
 refine pcalls_bd Tryz.func85 rfl Tryz.ntmps85 (rs:= [.tmp 2]) rfl rfl fun hb LF=>?_
 refine wf ?_
 refine s_makeMap fun m=>?_
 refine wf ?_
 exact⟨trivial,_,knownR m [],.cons (.tmp 2) .nil,.refl _,m,rfl,rfl⟩
end Go.Proofs
namespace Go.Proofs
open Go Go.Q
attribute [local irreducible] pwp pops PCalls OpN
theorem getS_idx (s:List Sto) (d:Dig):(idxF (fun x=>decide (x.id=d)) s < 0→getS s d=none)∧(∀ k:Nat,idxF (fun x=>decide (x.id=d)) s=(k:Int)→ ∃ h:k < s.length,getS s d=some s[k].patch):=by
 have key: ∀ l:List Sto,(l.any (fun x=>decide (x.id=d))=false→getS l d=none)∧(l.any (fun x=>decide (x.id=d))=true→ ∃ h:l.findIdx (fun x=>decide (x.id=d)) < l.length,getS l d=some (l[l.findIdx fun x=>decide (x.id=d)]).patch):=fun l=>by
  induction l with
  |nil=>exact⟨fun _=>rfl,fun h=>by cases h⟩
  |cons x l ih=>
   by_cases hx:x.id=d
   ·refine⟨fun h=>by simp[hx]at h,fun _=>?_⟩
    have e:(x::l).findIdx (fun x=>decide (x.id=d))=0:=by simp[List.findIdx_cons,hx]
    refine⟨by rw[e];simp,?_⟩
    simp only[e,List.getElem_cons_zero]
    rw[getS,if_pos hx]
   ·have eg:getS (x::l) d=getS l d:=by rw[getS,if_neg hx]
    refine⟨fun h=>by rw[eg];exact ih.1 (by simpa [hx]using h),fun h=>?_⟩
    obtain⟨h1,h2⟩:=ih.2 (by simpa [hx]using h)
    have e:(x::l).findIdx (fun x=>decide (x.id=d))=l.findIdx (fun x=>decide (x.id=d))+1:=by simp[List.findIdx_cons,hx]
    refine⟨by rw[e,List.length_cons];omega,?_⟩
    simp only[e,List.getElem_cons_succ]
    rw[eg,h2]
 obtain⟨k1,k2⟩:=key s
 refine⟨fun h=>k1 ?_,fun k h=>?_⟩
 ·unfold idxF at h
  by_cases ha:s.any (fun x=>decide (x.id=d))=true
  ·rw[if_pos ha]at h;omega
  ·simpa using ha
 ·unfold idxF at h
  by_cases ha:s.any (fun x=>decide (x.id=d))=true
  ·rw[if_pos ha]at h
   have hk:s.findIdx (fun x=>decide (x.id=d))=k:=by omega
   obtain⟨h1,h2⟩:=k2 ha
   subst hk
   exact⟨h1,h2⟩
  ·rw[if_neg ha]at h;omega
instance get1_ct (x:Sto) (d:Dig):FnC Tryz.prog 88 [.agg (eSto x),.pt (eDig d) 0] (.raw (.bool (decide (x.id=d)))):=⟨by
 refine fn_of Tryz.func88 Tryz.ntmps88 rfl (rs:= [.tmp 3]) rfl rfl fun hb LF=>?_
 refine wf ?_
 exact end1 (.refl _)⟩
instance GetP_ct (s:List Sto) (t:Tag) (d:Dig):FnC Tryz.prog 44 [.slice (s.map eSto) t,.agg (eDig d)] (.tuple [.agg (ePat ((getS s d).getD Pat.zero)),.raw (.bool (getS s d).isSome)]):=⟨by
 have i1: ∀ t,FnC Tryz.prog 80 [.slice (s.map eSto) t,.clo 88 [.pt (eDig d) 0]] (.raw (.int .i64 (idxF (fun x=>decide (x.id=d)) s))):=fun t=>indexS_fn _ _ _ s t
 obtain⟨g1,g2⟩:=getS_idx s d
 refine fn_of Tryz.func44 Tryz.ntmps44 rfl (rs:= [.cell 4 57,.tmp 5]) rfl rfl fun hb LF=>?_
 refine wf ?_
 refine s_alloc fun b4=>?_
 refine wf ?_
 refine pwp_condD (fun h=>?_) (fun h=>?_)
 ·rw[g1 h]
  rw[Option.isSome_none,Option.getD_none]
  refine wf ?_
  exact endC1 rfl (.refl _)
 ·obtain⟨k,hk⟩: ∃ k:Nat,idxF (fun x=>decide (x.id=d)) s=(k:Int):=⟨(idxF (fun x=>decide (x.id=d)) s).toNat,by omega⟩
  obtain⟨hlt,hg⟩:=g2 k hk
  rw[hk,hg,Option.isSome_some,Option.getD_some]
  refine wf ?_
  exact endC1 rfl (.refl _)⟩
end Go.Proofs
namespace Go.Proofs
open Go Go.Q
attribute [local irreducible] pwp pops PCalls OpN
def coreA (a:Atm):Atm:={ a with over:= [] }
theorem idsOk_changes: ∀ (l:List Chg) (own:List Atm),idsOk own→idsOk (rChanges l own).1
 | [],_,h=>h
 |c::l,own,h=>by
  unfold rChanges
  split
  ·exact fun i hi=>absurd hi (by simp)
  ·split
   ·exact fun i hi=>absurd hi (by simp)
   ·exact idsOk_changes l _ (idsOk_made c h)
theorem idsOk_check (p:Pat):idsOk (rCheckP p).1:=by
 have h0:idsOk ([]:List Atm):=fun i hi=>absurd hi (by simp)
 unfold rCheckP
 repeat' split
 all_goals first|exact h0|exact idsOk_changes _ _ h0
theorem fP_core (d:Dig) {a:Atm} (h1:a.id.patch=Dig.zero) (h2:0≤a.id.n):coreA (fP d a)=coreA (rFull d a):=by
 have e:fP1 d a=rFull1 d a:=by
  unfold fP1 rFull1 rWhole;rw[if_pos ⟨h1,h2⟩]
 rw[fP,rFull,e]
 rfl
theorem rEx_id (p:Pat):(rEx p).2.2=(rId p).2:=by
 rw[rEx_err,rId]
 by_cases h:(rEncodeP p).2≠0
 ·rw[if_pos h]
 ·rw[if_neg h];simpa using h
theorem rEx_own {p:Pat} (h:(rEx p).2.2=0):(rEx p).1=(rCheckP p).1∧(rCheckP p).2=0:=by
 unfold rEx at h ⊢
 by_cases g1:(rCheckP p).2≠0
 ·rw[if_pos g1]at h;exact absurd h g1
 by_cases g2:65536 < ((rEnc p).length:Int)
 ·rw[if_neg g1,if_pos g2]at h;exact absurd h (by decide)
 rw[if_neg g1,if_neg g2]
 exact⟨rfl,by simpa using g1⟩
theorem atoms_core (p:Pat):(atomsP p).1.map coreA=(rAtoms p).1.map coreA:=by
 unfold atomsP rAtoms
 rw[rEx_id]
 by_cases h:(rId p).2≠0
 ·rw[if_pos h,if_pos h]
 ·rw[if_neg h,if_neg h,if_neg h]
  have h3:(rEx p).2.2=0:=by rw[rEx_id];simpa using h
  dsimp only
  rw[(rEx_own h3).1,List.map_map,List.map_map]
  refine List.map_congr_left fun a ha=>?_
  obtain⟨i,hi,rfl⟩:=List.mem_iff_getElem.1 ha
  have e:=idsOk_check p i hi
  exact fP_core _ (by rw[e]) (by rw[e];exact Int.natCast_nonneg _)
def atomsPS (s:List Sto) (d:Dig):List Atm:=(atomsP ((getS s d).getD Pat.zero)).1
def atomPS (s:List Sto) (x:Ident):Option Atm:=if x.n < 0∨((atomsPS s x.patch).length:Int)≤x.n then none else(atomsPS s x.patch)[x.n.toNat]?
theorem atom_core (s:List Sto) (x:Ident):(atomPS s x).map coreA=(rAtom s x).map coreA:=by
 have e:=atoms_core ((getS s x.patch).getD Pat.zero)
 have el:=congrArg List.length e
 rw[List.length_map,List.length_map]at el
 unfold atomPS rAtom atomsPS rAtomsOf
 rw[el]
 by_cases h:x.n < 0∨((rAtoms ((getS s x.patch).getD Pat.zero)).1.length:Int)≤x.n
 ·rw[if_pos h,if_pos h]
 ·rw[if_neg h,if_neg h,←List.getElem?_map,←List.getElem?_map,e]
theorem refOk_core {f:Atm→Bool} (hf: ∀ a,f a=f (coreA a)) {o p:Option Atm} (e:o.map coreA=p.map coreA):rRefOk o f=rRefOk p f:=by
 cases o with
 |none=>cases p with
  |none=>rfl
  |some b=>cases e
 |some a=>cases p with
  |none=>cases e
  |some b=>
   have e2:coreA a=coreA b:=by simpa using e
   unfold rRefOk
   rw[Option.getD_some,Option.getD_some,hf a,hf b,e2];rfl
theorem refOk_set (s:List Sto) (x:Ident) {f:Atm→Bool} (hf: ∀ a,f a=f (coreA a)):rRefOk (atomPS s x) f=rRefOk (rAtom s x) f:=refOk_core hf (atom_core s x)
def predS (c:Chg) (g:Ident) (r:Rfc):Atm→Bool:=
 if r.f=148 then ffP c.kind else if r.f=150 then pf5 else if r.f=151 then sf4 r.id c.file g else sf5 (ovK c.kind) g
theorem mem_putR {l:List Rfc} {r x:Rfc} (h:r∈putR l x):r∈l∨r=x:=by
 unfold putR at h
 split at h
 ·exact .inl h
 ·simpa using h
theorem mem_foldR {α:Type} {f:α→Rfc} {r:Rfc}: ∀ {o:List α} {l:List Rfc},r∈o.foldl (fun l x=>putR l (f x)) l→r∈l∨ ∃ x∈o,r=f x
 | [],_,h=> .inl h
 |y::o,l,h=>by
  rw[List.foldl_cons]at h
  rcases mem_foldR (o:=o) h with h|⟨x,hx,e⟩
  ·rcases mem_putR h with h|h
   ·exact .inl h
   ·exact .inr ⟨y,by simp,h⟩
  ·exact .inr ⟨x,by simp[hx],e⟩
theorem fitsS_mem (id:Dig) (c:Chg) (r:Rfc) (h:r∈refsS id c):Fits Tryz.prog r (predS c (fileS id c) r):=by
 unfold refsS rs4 at h
 rcases mem_foldR h with h|⟨x,_,rfl⟩
 ·unfold rs3 at h
  have key:r∈rs2 c (rs1 c)∨ ∃ x:Ident,r=end1R (fileS id c) c x:=by
   split at h
   ·rcases mem_foldR h with h|⟨x,_,e⟩
    ·exact .inl h
    ·exact .inr ⟨x,e⟩
   ·exact .inl h
  rcases key with h|⟨x,rfl⟩
  ·unfold rs2 at h
   have key:r∈rs1 c∨r=⟨c.parent,150,[]⟩:=by
    split at h
    ·exact mem_putR h
    ·exact .inl h
   rcases key with h|rfl
   ·unfold rs1 at h
    have key:r=⟨c.file,148,[.pt (eChg c) 0]⟩:=by
     split at h
     ·rcases mem_putR h with h|h
      ·cases h
      ·exact h
     ·cases h
    subst key
    exact⟨inferInstance,fun a=>(sf2_ct c a).out⟩
   ·exact⟨inferInstance,fun a=>(sf3_ct a).out⟩
  ·exact⟨(inferInstance:TFun Tryz.prog 151),fun a=>(sf4_ct x (fileS id c) c a).out⟩
 ·exact⟨(inferInstance:TFun Tryz.prog 153),fun a=>(sf5_ct (ovK c.kind) (fileS id c) a).out⟩
def refSE (s:List Sto) (c:Chg) (g:Ident) (r:Rfc):Int:=rRefOk (atomPS s r.id) (predS c g r)
def chgSE (s:List Sto) (id:Dig) (c:Chg):Int:=firstErr (refSE s c (fileS id c)) (refsS id c)
def unfitP (s:List Sto) (p:Pat) (id:Dig):Int:=firstErr (chgSE s id) p.changes
theorem firstErr_putR (f:Rfc→Int) (l:List Rfc) (r:Rfc):firstErr f (putR l r)=if firstErr f l≠0 then firstErr f l else if r.id.patch=Dig.zero then 0 else f r:=by
 unfold putR
 by_cases h:r.id.patch=Dig.zero
 ·rw[if_pos h,if_pos h]
  by_cases h2:firstErr f l=0
  ·rw[if_neg (by simp[h2]),h2]
  ·rw[if_pos h2]
 ·rw[if_neg h,if_neg h,firstErr_append]
  have:firstErr f [r]=f r:=by
   rw[firstErr,firstErr];split
   ·rename_i h;exact h.symm
   ·rfl
  rw[this]
theorem firstErr_foldR {α:Type} (f:Rfc→Int) (h:α→Rfc): ∀ (o:List α) (l:List Rfc),firstErr f (o.foldl (fun l x=>putR l (h x)) l)=if firstErr f l≠0 then firstErr f l else firstErr (fun x=>if(h x).id.patch=Dig.zero then 0 else f (h x)) o
 | [],l=>by
   by_cases h2:firstErr f l=0
   ·simp[h2,firstErr]
   ·simp[h2]
 |x::o,l=>by
  rw[List.foldl_cons,firstErr_foldR f h o,firstErr_putR,firstErr]
  generalize (if(h x).id.patch=Dig.zero then 0 else f (h x))=v
  by_cases h2:firstErr f l=0<;>by_cases h3:v=0<;>simp[h2,h3]
theorem rEmpty_rest {c:Chg} (hf:rFields c=0):(¬(2≤c.kind∧c.kind≤6)→c.file=Ident.zero)∧(c.kind≠2→c.parent=Ident.zero)∧(¬(c.kind=5∨c.kind=6)→c.after=Ident.zero∧c.before=Ident.zero):=by
 have h2:=fields_empty hf
 unfold rEmpty rRest at h2
 simp only[Bool.and_eq_true,decide_eq_true_eq]at h2
 obtain⟨⟨⟨⟨⟨⟨⟨⟨⟨h1,_⟩,h3⟩,_⟩,_⟩,_⟩,h7⟩,h8⟩,_⟩,_⟩:=h2
 refine⟨fun h=>?_,fun h=>?_,fun h=>⟨?_,?_⟩⟩
 ·rwa [if_neg h]at h1
 ·rwa [if_neg h]at h3
 ·rwa [if_neg h]at h7
 ·rwa [if_neg h]at h8
theorem chgSE_eq (s:List Sto) (id:Dig) {c:Chg} {own:List Atm} (hf:rFields c=0) (hr:rRefs c own=0):chgSE s id c=rChgE s c id:=by
 have hk:=fields_kind hf
 obtain⟨z1,z2,z3⟩:=rEmpty_rest hf
 have hn:2≤c.kind∧c.kind≤6→0≤c.file.n:=fun h=>by
  have h1:rRefF c own=0:=by
   by_cases h0:rRefF c own=0
   ·exact h0
   ·rw[rRefs,if_pos h0]at hr;exact absurd hr h0
  rw[rRefF,if_pos h,rOne]at h1
  by_cases h2:rAllowed c.file own.length=false
  ·rw[if_pos h2]at h1;omega
  ·have h2:rAllowed c.file own.length=true:=by simpa using h2
   unfold rAllowed at h2
   split at h2<;>simp at h2<;>omega
 have hg:2≤c.kind∧c.kind≤6→fileS id c=rComplete c.file id:=fun h=>by
  unfold fileS rComplete
  by_cases h1:c.file.patch=Dig.zero
  ·rw[if_pos h1,if_pos ⟨hn h,h1⟩]
  ·rw[if_neg h1,if_neg (fun h=>h1 h.2)]
 have e1:firstErr (refSE s c (fileS id c)) (rs1 c)=rChgF s c:=by
  unfold rs1 rChgF
  by_cases h:c.kind≠1∧c.kind≠7
  ·rw[if_pos h,firstErr_putR,if_neg (by simp[firstErr])]
   unfold rOther
   by_cases h1:c.file.patch=Dig.zero
   ·rw[if_pos h1,if_neg (by simp[h1])]
   ·rw[if_neg h1,if_pos (by simp[h1]),refSE,show predS c (fileS id c) ⟨c.file,148,[.pt (eChg c) 0]⟩=ffP c.kind from rfl,refOk_set s c.file (fun a=>rfl)]
    congr 1
    funext a
    unfold ffP rFitsFile rText
    by_cases h5:c.kind=5∨c.kind=6
    ·rcases h5 with h|h<;>simp[h]
    ·have: ¬c.kind=5∧ ¬c.kind=6:=⟨fun h=>h5 (.inl h),fun h=>h5 (.inr h)⟩
     by_cases h4:c.kind=4<;>simp[this,h4]
  ·rw[if_neg h,z1 (by omega)]
   simp[firstErr,rOther,Ident.zero]
 have e2: ∀ l,firstErr (refSE s c (fileS id c)) (rs2 c l)=if firstErr (refSE s c (fileS id c)) l≠0 then firstErr (refSE s c (fileS id c)) l else rChgP s c:=fun l=>by
  unfold rs2 rChgP
  by_cases h:c.kind=2
  ·rw[if_pos h,firstErr_putR]
   unfold rOther
   by_cases h1:c.parent.patch=Dig.zero
   ·rw[if_pos h1,if_neg (by simp[h1]: ¬(!decide (c.parent.patch=Dig.zero))=true)]
   ·rw[if_neg h1,if_pos (by simp[h1]:(!decide (c.parent.patch=Dig.zero))=true),refSE,show predS c (fileS id c) ⟨c.parent,150,[]⟩=pf5 from rfl,refOk_set s c.parent (fun a=>rfl)]
    rfl
  ·rw[if_neg h,z2 h,if_neg (by simp[rOther,Ident.zero]: ¬rOther Ident.zero=true)]
   split
   ·rfl
   ·rename_i h;simpa using h
 have e3:rChgF s c=0→ ∀ l,firstErr (refSE s c (fileS id c)) (rs3 (fileS id c) c l)=if firstErr (refSE s c (fileS id c)) l≠0 then firstErr (refSE s c (fileS id c)) l else if rEndE s c.after c.file id≠0 then rEndE s c.after c.file id else rEndE s c.before c.file id:=fun hF l=>by
  unfold rs3
  by_cases h:c.kind=5∨c.kind=6
  ·have hx: ∀ x:Ident,(if(end1R (fileS id c) c x).id.patch=Dig.zero then 0 else refSE s c (fileS id c) (end1R (fileS id c) c x))=rEndE s x c.file id:=fun x=>by
    unfold rEndE rOther
    by_cases h1:x.patch=Dig.zero
    ·rw[if_pos (show(end1R (fileS id c) c x).id.patch=Dig.zero from h1),if_pos (by simp[h1])]
    ·rw[if_neg (show ¬(end1R (fileS id c) c x).id.patch=Dig.zero from h1),refSE,show predS c (fileS id c) (end1R (fileS id c) c x)=sf4 x c.file (fileS id c) from rfl,show(end1R (fileS id c) c x).id=x from rfl,refOk_set s x (fun a=>rfl)]
     by_cases h2:x=c.file
     ·rw[if_pos (.inr h2)]
      subst h2
      rw[rChgF,if_pos (by simp[rOther,h1]),rRefOk]at hF
      by_cases h3:(rAtom s c.file).isSome=false
      ·rw[if_pos h3]at hF;omega
      ·rw[rRefOk,if_neg h3,if_neg (by simp[sf4])]
     ·rw[if_neg (by simp[h1,h2]),hg (by omega)]
      congr 1
      funext a
      simp[sf4,rFitsEnd,h2]
   rw[if_pos h,firstErr_foldR,firstErr,firstErr,firstErr,hx,hx]
   by_cases q1:rEndE s c.after c.file id=0
   ·rw[if_pos q1,if_neg (by simp[q1]: ¬rEndE s c.after c.file id≠0)]
    by_cases q2:rEndE s c.before c.file id=0
    ·rw[if_pos q2,q2]
    ·rw[if_neg q2]
   ·rw[if_neg q1,if_pos q1]
  ·obtain⟨za,zb⟩:=z3 h
   have q:rEndE s Ident.zero c.file id=0:=by rw[rEndE,if_pos (.inl (by simp[rOther,Ident.zero]))]
   rw[if_neg h,za,zb,q]
   split
   ·rfl
   ·rename_i h;simpa using h
 have e4: ∀ l,firstErr (refSE s c (fileS id c)) (rs4 (fileS id c) c l c.over)=if firstErr (refSE s c (fileS id c)) l≠0 then firstErr (refSE s c (fileS id c)) l else firstErr (rChgO s c id) c.over:=fun l=>by
  unfold rs4
  rw[firstErr_foldR]
  congr 1
  refine firstErr_congr fun x hx=>?_
  have h15:c.kind≠1∧c.kind≠5:=⟨fun h=>(by rw[fields_over hf (.inl h)]at hx;simp at hx),fun h=>(by rw[fields_over hf (.inr h)]at hx;simp at hx)⟩
  unfold rChgO rOther
  by_cases h1:x.patch=Dig.zero
  ·rw[if_pos (show(over1R (fileS id c) c x).id.patch=Dig.zero from h1),if_pos (by simp[h1])]
  ·rw[if_neg (show ¬(over1R (fileS id c) c x).id.patch=Dig.zero from h1),if_neg (by simp[h1]),refSE,show predS c (fileS id c) (over1R (fileS id c) c x)=sf5 (ovK c.kind) (fileS id c) from rfl,show(over1R (fileS id c) c x).id=x from rfl,refOk_set s x (fun a=>rfl)]
   congr 1
   funext a
   unfold sf5 rFitsOver rWant ovK
   by_cases h7:c.kind=7
   ·simp[h7]
   ·have:c.kind=2∨c.kind=3∨c.kind=4∨c.kind=6:=by omega
    rw[if_pos this,if_neg h7,hg (by omega)]
 unfold chgSE refsS rChgE
 rw[e4]
 by_cases q0:rChgF s c=0
 ·rw[e3 q0,e2,e1,q0]
  by_cases q1:rChgP s c=0
  ·by_cases q2:rEndE s c.after c.file id=0
   ·by_cases q3:rEndE s c.before c.file id=0
    ·simp[q1,q2,q3]
    ·simp[q1,q2,q3]
   ·simp[q1,q2]
  ·simp[q1]
 ·have k2:firstErr (refSE s c (fileS id c)) (rs2 c (rs1 c))=rChgF s c:=by rw[e2,e1,if_pos q0]
  have k3:firstErr (refSE s c (fileS id c)) (rs3 (fileS id c) c (rs2 c (rs1 c)))=rChgF s c:=by
   unfold rs3
   split
   ·rw[firstErr_foldR,k2,if_pos q0]
   ·exact k2
  rw[k3,if_pos q0,if_pos q0]
theorem changes_ok: ∀ {l:List Chg} {own:List Atm},(rChanges l own).2=0→ ∀ c∈l,rFields c=0∧ ∃ own,rRefs c own=0
 | [],_,_,c,h=>by cases h
 |x::l,own,h,c,hc=>by
  unfold rChanges at h
  by_cases h1:rFields x≠0
  ·rw[if_pos h1]at h;exact absurd h h1
  by_cases h2:rRefs x own≠0
  ·rw[if_neg h1,if_pos h2]at h;exact absurd h h2
  rw[if_neg h1,if_neg h2]at h
  rcases List.mem_cons.1 hc with rfl|hc
  ·exact⟨by simpa using h1,own,by simpa using h2⟩
  ·exact changes_ok h c hc
theorem check_changes {p:Pat} (h:(rCheckP p).2=0): ∀ c∈p.changes,rFields c=0∧ ∃ own,rRefs c own=0:=by
 have e:rHead p=0:=by
  by_cases h0:rHead p=0
  ·exact h0
  ·rw[checkP_head,if_pos h0]at h;exact absurd h h0
 rw[rCheckP_ok e]at h
 exact changes_ok h
theorem unfit_eq (s:List Sto) {p:Pat} (id:Dig) (h:(rId p).2=0):unfitP s p id=rRefsS s p id:=by
 have h2:=(rEx_own (p:=p) (by rw[rEx_id];exact h)).2
 refine firstErr_congr fun c hc=>?_
 obtain⟨hf,own,hr⟩:=check_changes h2 c hc
 exact chgSE_eq s id hf hr
end Go.Proofs
namespace Go.Proofs
open Go Go.Q
theorem u8_toNat {n:Nat} (h:n < 256):(UInt8.ofNat n).toNat=n:=by
 rw[UInt8.toNat_ofNat'];omega
theorem rDec_digit (n:Nat): ∀ c∈rDec n,48≤c.toNat∧c.toNat≤57:=by
 induction n using Nat.strongRecOn with
 |_ n ih=>
  by_cases h:n < 10
  ·rw[rDec_small h]
   intro c hc
   rw[List.mem_singleton.1 hc,u8_toNat (by omega)]
   omega
  ·rw[rDec_big h]
   intro c hc
   rcases List.mem_append.1 hc with hc|hc
   ·exact ih (n / 10) (by omega) c hc
   ·rw[List.mem_singleton.1 hc,u8_toNat (by omega)]
    omega
theorem rDec_ne (n:Nat):rDec n≠ []:=by
 by_cases h:n < 10
 ·rw[rDec_small h];simp
 ·rw[rDec_big h];simp
def undec (l:Str):Nat:=l.foldl (fun a c=>10*a+(c.toNat - 48)) 0
theorem undec_rDec (n:Nat):undec (rDec n)=n:=by
 induction n using Nat.strongRecOn with
 |_ n ih=>
  by_cases h:n < 10
  ·rw[rDec_small h]
   show 10*0+((UInt8.ofNat (48+n)).toNat - 48)=n
   rw[u8_toNat (by omega)];omega
  ·rw[rDec_big h]
   have e:=ih (n / 10) (by omega)
   unfold undec at e ⊢
   rw[List.foldl_append,e]
   show 10*(n / 10)+((UInt8.ofNat (48+n % 10)).toNat - 48)=n
   rw[u8_toNat (by omega)];omega
theorem rDec_inj {n m:Nat} (h:rDec n=rDec m):n=m:=by rw[←undec_rDec n,h,undec_rDec]
theorem rDec_no45 (n:Nat) (l:Str) (r:Str): ¬45::l=rDec n++r:=fun h=>by
 cases hd:rDec n with
 |nil=>exact rDec_ne n hd
 |cons c t=>
  rw[hd,List.cons_append]at h
  injection h with h1 _
  have:=rDec_digit n c (by rw[hd];simp)
  rw[←h1]at this
  exact absurd this.1 (by decide)
theorem rDecI_inj {n m:Int} (h:rDecI n=rDecI m):n=m:=by
 unfold rDecI at h
 by_cases h1:n < 0
 ·by_cases h2:m < 0
  ·rw[if_pos h1,if_pos h2]at h
   injection h with _ h
   have:=rDec_inj h
   omega
  ·rw[if_pos h1,if_neg h2]at h
   exact absurd (by rw[h,List.append_nil]) (rDec_no45 m.toNat _ [])
 ·by_cases h2:m < 0
  ·rw[if_neg h1,if_pos h2]at h
   exact absurd (by rw[←h,List.append_nil]) (rDec_no45 n.toNat (rDec (-m).toNat) [])
  ·rw[if_neg h1,if_neg h2]at h
   have:=rDec_inj h
   omega
theorem split58: ∀ {a b r s:Str},(∀ c∈a,c.toNat≤57)→(∀ c∈b,c.toNat≤57)→a++58::r=b++58::s→a=b∧r=s
 | [],[],r,s,_,_,h=>⟨rfl,by simpa using h⟩
 | [],y::b,r,s,_,hb,h=>by
   rw[List.nil_append,List.cons_append]at h
   injection h with h1 _
   have:=hb y (by simp)
   rw[←h1]at this
   exact absurd this (by decide)
 |x::a,[],r,s,ha,_,h=>by
  rw[List.nil_append,List.cons_append]at h
  injection h with h1 _
  have:=ha x (by simp)
  rw[h1]at this
  exact absurd this (by decide)
 |x::a,y::b,r,s,ha,hb,h=>by
  rw[List.cons_append,List.cons_append]at h
  injection h with h1 h2
  obtain⟨e1,e2⟩:=split58 (fun c hc=>ha c (List.mem_cons_of_mem _ hc)) (fun c hc=>hb c (List.mem_cons_of_mem _ hc)) h2
  exact⟨by rw[h1,e1],e2⟩
theorem encX_head: ∀ {d:Nat} {x:Sx},wfX d x→ ∃ c t,encX d x=c::t∧c≠41∧(c=40↔x.isList=true)
 |0,_,h=>h.elim
 |d+1,x,_=>by
  cases hl:x.isList with
  |true=>exact⟨40,_,by rw[encX,if_pos hl],by decide,by simp⟩
  |false=>
   have e:encX (d+1) x=rDec x.atom.length++58::x.atom:=by rw[encX,if_neg (by simp[hl])]
   cases hd:rDec x.atom.length with
   |nil=>exact absurd hd (rDec_ne _)
   |cons c t=>
    have hc:=rDec_digit x.atom.length c (by rw[hd];simp)
    refine⟨c,t++58::x.atom,by rw[e,hd];rfl,?_,?_⟩
    ·rintro rfl;exact absurd hc.1 (by decide)
    ·constructor
     ·rintro rfl;exact absurd hc.1 (by decide)
     ·intro h';cases h'
theorem encL_inj {d:Nat} (ih: ∀ {x y:Sx} {r s:Str},wfX d x→wfX d y→encX d x++r=encX d y++s→x=y∧r=s): ∀ {l m:List Sx} {r s:Str},(∀ y∈l,wfX d y)→(∀ y∈m,wfX d y)→l.flatMap (encX d)++41::r=m.flatMap (encX d)++41::s→l=m∧r=s
 | [],[],r,s,_,_,h=>⟨rfl,by simpa using h⟩
 | [],y::m,r,s,_,hm,h=>by
   obtain⟨c,t,e,h41,_⟩:=encX_head (hm y (by simp))
   rw[List.flatMap_nil,List.nil_append,List.flatMap_cons,e,List.cons_append,List.cons_append]at h
   injection h with h1 _
   exact absurd h1.symm h41
 |x::l,[],r,s,hl,_,h=>by
  obtain⟨c,t,e,h41,_⟩:=encX_head (hl x (by simp))
  rw[List.flatMap_nil,List.nil_append,List.flatMap_cons,e,List.cons_append,List.cons_append]at h
  injection h with h1 _
  exact absurd h1 h41
 |x::l,y::m,r,s,hl,hm,h=>by
  rw[List.flatMap_cons,List.flatMap_cons,List.append_assoc,List.append_assoc]at h
  obtain⟨e1,e2⟩:=ih (hl x (by simp)) (hm y (by simp)) h
  obtain⟨e3,e4⟩:=encL_inj ih (fun z hz=>hl z (List.mem_cons_of_mem _ hz)) (fun z hz=>hm z (List.mem_cons_of_mem _ hz)) e2
  exact⟨by rw[e1,e3],e4⟩
theorem encX_inj: ∀ (d:Nat) {x y:Sx} {r s:Str},wfX d x→wfX d y→encX d x++r=encX d y++s→x=y∧r=s
 |0,_,_,_,_,h,_,_=>h.elim
 |d+1,x,y,r,s,hx,hy,h=>by
  obtain⟨c1,t1,e1,_,k1⟩:=encX_head hx
  obtain⟨c2,t2,e2,_,k2⟩:=encX_head hy
  have hc:c1=c2:=by
   rw[e1,e2,List.cons_append,List.cons_append]at h
   injection h
  subst hc
  have hkind:x.isList=y.isList:=by
   rw[Bool.eq_iff_iff];exact k1.symm.trans k2
  clear k1 k2 e1 e2
  obtain⟨b1,a1,l1⟩:=x
  obtain⟨b2,a2,l2⟩:=y
  change b1=b2 at hkind
  subst hkind
  rcases hx with ⟨h1,h2,h3⟩|⟨h1,h2,h3⟩
  ·rcases hy with ⟨_,g2,_⟩|⟨g1,_⟩
   ·change b1=false at h1
    change l1= []at h2
    change l2= []at g2
    subst h1 h2 g2
    have q1:encX (d+1) (.mk false a1 [])=rDec a1.length++58::a1:=rfl
    have q2:encX (d+1) (.mk false a2 [])=rDec a2.length++58::a2:=rfl
    rw[q1,q2,List.append_assoc,List.append_assoc,List.cons_append,List.cons_append]at h
    obtain⟨e1,e2⟩:=split58 (fun c hc=>(rDec_digit _ c hc).2) (fun c hc=>(rDec_digit _ c hc).2) h
    obtain⟨e3,e4⟩:=List.append_inj e2 (rDec_inj e1)
    exact⟨by rw[e3],e4⟩
   ·change b1=false at h1
    change b1=true at g1
    rw[h1]at g1;cases g1
  ·rcases hy with ⟨g1,_⟩|⟨_,g2,g3⟩
   ·change b1=true at h1
    change b1=false at g1
    rw[h1]at g1;cases g1
   ·change b1=true at h1
    change a1= []at h2
    change a2= []at g2
    subst h1 h2 g2
    have q1:encX (d+1) (.mk true [] l1)=40::(l1.flatMap (encX d)++ [41]):=rfl
    have q2:encX (d+1) (.mk true [] l2)=40::(l2.flatMap (encX d)++ [41]):=rfl
    rw[q1,q2,List.cons_append,List.cons_append,List.append_assoc,List.append_assoc]at h
    injection h with _ h
    obtain⟨e1,e2⟩:=encL_inj (fun hx hy h=>encX_inj d hx hy h) h3 g3 h
    exact⟨congrArg (Sx.mk true []) e1,e2⟩
theorem map_inj_on {α β:Type} {f:α→β}: ∀ {l m:List α},(∀ x∈l,∀ y∈m,f x=f y→x=y)→l.map f=m.map f→l=m
 | [],[],_,_=>rfl
 | [],y::m,_,h=>by simp at h
 |x::l,[],_,h=>by simp at h
 |x::l,y::m,hf,h=>by
  rw[List.map_cons,List.map_cons]at h
  injection h with h1 h2
  rw[hf x (by simp) y (by simp) h1,map_inj_on (fun a ha b hb=>hf a (List.mem_cons_of_mem _ ha) b (List.mem_cons_of_mem _ hb)) h2]
theorem sAtom_inj {a b:Str} (h:sAtom a=sAtom b):a=b:=congrArg Sx.atom h
theorem sList_inj {l m:List Sx} (h:sList l=sList m):l=m:=congrArg Sx.list h
theorem sDig_inj {a b:Dig} (h:sDig a=sDig b):a=b:=by
 unfold sDig at h
 by_cases h1:a=Dig.zero
 ·by_cases h2:b=Dig.zero
  ·rw[h1,h2]
  ·rw[if_pos h1,if_neg h2]at h
   have:=congrArg List.length (sAtom_inj h)
   rw[b.len]at this;simp at this
 ·by_cases h2:b=Dig.zero
  ·rw[if_neg h1,if_pos h2]at h
   have:=congrArg List.length (sAtom_inj h)
   rw[a.len]at this;simp at this
  ·rw[if_neg h1,if_neg h2]at h
   exact Dig.ext (sAtom_inj h)
def inR (n:Int):Prop:= -1099511627776≤n∧n≤1099511627776
theorem sNum_inj {n m:Int} (hn:inR n) (hm:inR m) (h:sNum n=sNum m):n=m:=by
 unfold inR at hn hm
 unfold sNum rInt at h
 rw[if_neg (by omega),if_neg (by omega)]at h
 exact rDecI_inj (sAtom_inj h)
theorem sRef_inj {x y:Ident} (hx:inR x.n) (hy:inR y.n) (h:sRef x=sRef y):x=y:=by
 have h:=sList_inj h
 injection h with h1 h2
 injection h2 with h2 _
 obtain⟨p,n⟩:=x
 obtain⟨q,m⟩:=y
 have e1:=sDig_inj h1
 have e2:=sNum_inj hx hy h2
 subst e1 e2;rfl
structure chgR (c:Chg):Prop where
 fields:rFields c=0
 file:inR c.file.n
 parent:inR c.parent.n
 after:inR c.after.n
 before:inR c.before.n
 over: ∀ x∈c.over,inR x.n
 mode:c.kind=3→inR c.mode
 type:c.kind=1→inR c.type
theorem sOver_inj {l m:List Ident} (hl: ∀ x∈l,inR x.n) (hm: ∀ x∈m,inR x.n) (h:sOver l=sOver m):l=m:=
 map_inj_on (fun x hx y hy e=>sRef_inj (hl x hx) (hm y hy) e) (sList_inj h)
theorem sChg_list (c:Chg):(sChg c).list=([sNum c.kind]++sChg1 c++sChg2 c)++sChg3 c:=rfl
theorem sChg_inj {c e:Chg} (hc:chgR c) (he:chgR e) (h:sChg c=sChg e):c=e:=by
 have k1:=fields_kind hc.fields
 have k2:=fields_kind he.fields
 have z1:=fields_empty hc.fields
 have z2:=fields_empty he.fields
 have h:=congrArg Sx.list h
 rw[sChg_list,sChg_list]at h
 have hk:c.kind=e.kind:=by
  have h1:=congrArg List.head? h
  simp only[List.singleton_append,List.cons_append,List.head?_cons,Option.some.injEq]at h1
  exact sNum_inj (by unfold inR;omega) (by unfold inR;omega) h1
 obtain⟨ck,cfile,ctype,cparent,cname,cmode,cdata,cafter,cbefore,clines,cover⟩:=c
 obtain⟨ek,efile,etype,eparent,ename,emode,edata,eafter,ebefore,elines,eover⟩:=e
 change ck=ek at hk
 subst hk
 obtain⟨_,c1,c2,c3,c4,c5,c6,c7⟩:=hc
 obtain⟨_,e1,e2,e3,e4,e5,e6,e7⟩:=he
 simp only at k1 c1 c2 c3 c4 c5 c6 c7 e1 e2 e3 e4 e5 e6 e7
 unfold rEmpty rRest at z1 z2
 simp only[Bool.and_eq_true,decide_eq_true_eq]at z1 z2
 obtain⟨⟨⟨⟨⟨⟨⟨⟨⟨p1,p2⟩,p3⟩,p4⟩,p5⟩,p6⟩,p7⟩,p8⟩,p9⟩,p10⟩:=z1
 obtain⟨⟨⟨⟨⟨⟨⟨⟨⟨q1,q2⟩,q3⟩,q4⟩,q5⟩,q6⟩,q7⟩,q8⟩,q9⟩,q10⟩:=z2
 have n9: ∀ {α:Type} {l:List α},(l.length:Int)=0→l= []:=fun h=>List.eq_nil_of_length_eq_zero (by omega)
 have p9:=n9 p9
 have p10:=n9 p10
 have q9:=n9 q9
 have q10:=n9 q10
 clear n9
 have hlin: ∀ {l m:List Str},sList (l.map sAtom)=sList (m.map sAtom)→l=m:=fun h=>map_inj_on (fun _ _ _ _ e=>sAtom_inj e) (sList_inj h)
 rcases kinds k1 with rfl|rfl|rfl|rfl|rfl|rfl|rfl<;>
  simp (decide:=true) only[sChg1,sChg2,sChg3,if_true,if_false,ite_true,ite_false,List.nil_append,List.append_nil,List.singleton_append,List.cons_append,List.cons.injEq,true_and,and_true,and_self,true_or,or_true,or_self,ne_eq,not_true_eq_false,not_false_eq_true]at h p1 p2 p3 p4 p5 p6 p7 p8 p9 p10 q1 q2 q3 q4 q5 q6 q7 q8 q9 q10
 ·have:=sNum_inj (c7 rfl) (e7 rfl) h
  simp only[*]
 ·obtain⟨h1,h2,h3,h4⟩:=h
  have:=sRef_inj c1 e1 h1
  have:=sRef_inj c2 e2 h2
  have:=sAtom_inj h3
  have:=sOver_inj c5 e5 h4
  simp only[*]
 ·obtain⟨h1,h2,h3⟩:=h
  have:=sRef_inj c1 e1 h1
  have:=sNum_inj (c6 rfl) (e6 rfl) h2
  have:=sOver_inj c5 e5 h3
  simp only[*]
 ·obtain⟨h1,h2,h3⟩:=h
  have:=sRef_inj c1 e1 h1
  have:=sAtom_inj h2
  have:=sOver_inj c5 e5 h3
  simp only[*]
 ·obtain⟨h1,h2,h3,h4⟩:=h
  have:=sRef_inj c1 e1 h1
  have:=sRef_inj c3 e3 h2
  have:=sRef_inj c4 e4 h3
  have:=hlin h4
  simp only[*]
 ·obtain⟨h1,h2,h3,h4⟩:=h
  have:=sRef_inj c1 e1 h1
  have:=sRef_inj c3 e3 h2
  have:=sRef_inj c4 e4 h3
  have:=sOver_inj c5 e5 h4
  simp only[*]
 ·have:=sOver_inj c5 e5 h
  simp only[*]
theorem changes_okN (N:Nat): ∀ {l:List Chg} {own:List Atm},(rChanges l own).2=0→own.length+4001*l.length≤N→ ∀ c∈l,rFields c=0∧ ∃ own:List Atm,own.length≤N∧rRefs c own=0
 | [],_,_,_,c,h=>by cases h
 |x::l,own,h,hN,c,hc=>by
  unfold rChanges at h
  by_cases h1:rFields x≠0
  ·rw[if_pos h1]at h;exact absurd h h1
  by_cases h2:rRefs x own≠0
  ·rw[if_neg h1,if_pos h2]at h;exact absurd h h2
  rw[if_neg h1,if_neg h2]at h
  have h1:rFields x=0:=by simpa using h1
  rw[List.length_cons]at hN
  rcases List.mem_cons.1 hc with rfl|hc
  ·exact⟨h1,own,by omega,by simpa using h2⟩
  ·refine changes_okN N h ?_ c hc
   have:=rMade_len x own.length
   have:=rFields_lines h1
   rw[List.length_append]
   omega
theorem rOne_inR {x:Ident} {own:List Atm} {b:Bool} (hN:own.length≤1000000000) (h:rOne x own b=0):inR x.n:=by
 unfold rOne at h
 by_cases h1:rAllowed x own.length=false
 ·rw[if_pos h1]at h;exact absurd h (by decide)
 ·have h1:rAllowed x own.length=true:=by simpa using h1
  unfold rAllowed at h1
  unfold inR
  split at h1<;>simp at h1<;>omega
theorem inR_zero:inR Ident.zero.n:=by unfold inR;exact⟨by decide,by decide⟩
theorem chgR_of {c:Chg} {own:List Atm} (hN:own.length≤1000000000) (hf:rFields c=0) (hr:rRefs c own=0):chgR c:=by
 obtain⟨z1,z2,z3⟩:=rEmpty_rest hf
 have r1:rRefF c own=0:=by
  by_cases h0:rRefF c own=0
  ·exact h0
  ·rw[rRefs,if_pos h0]at hr;exact absurd hr h0
 rw[rRefs,if_neg (by simp[r1])]at hr
 have r2:rRefP c own=0:=by
  by_cases h0:rRefP c own=0
  ·exact h0
  ·rw[if_pos h0]at hr;exact absurd hr h0
 rw[if_neg (by simp[r2])]at hr
 have r3:rRefEs c own=0:=by
  by_cases h0:rRefEs c own=0
  ·exact h0
  ·rw[if_pos h0]at hr;exact absurd hr h0
 rw[if_neg (by simp[r3])]at hr
 have r4:firstErr (rRefO c own) c.over=0:=by
  by_cases h0:firstErr (rRefO c own) c.over=0
  ·exact h0
  ·rw[if_pos h0]at hr;exact absurd hr h0
 have hE:(c.kind=5∨c.kind=6)→ ∀ x∈ [c.after,c.before],inR x.n:=fun h x hx=>by
  rw[rRefEs,if_pos (by unfold rText;simpa using h)]at r3
  exact rOne_inR hN (firstErr_eq_zero r3 x hx)
 refine⟨hf,?_,?_,?_,?_,fun x hx=>rOne_inR hN (firstErr_eq_zero r4 x hx),fun h=>?_,fun h=>?_⟩
 ·by_cases h:2≤c.kind∧c.kind≤6
  ·rw[rRefF,if_pos h]at r1;exact rOne_inR hN r1
  ·rw[z1 h];exact inR_zero
 ·by_cases h:c.kind=2
  ·by_cases h2:c.parent=rRoot
   ·rw[h2];unfold inR;exact⟨by decide,by decide⟩
   ·rw[rRefP,if_pos ⟨h,h2⟩]at r2;exact rOne_inR hN r2
  ·rw[z2 h];exact inR_zero
 ·by_cases h:c.kind=5∨c.kind=6
  ·exact hE h _ (by simp)
  ·rw[(z3 h).1];exact inR_zero
 ·by_cases h:c.kind=5∨c.kind=6
  ·exact hE h _ (by simp)
  ·rw[(z3 h).2];exact inR_zero
 ·unfold inR
  unfold rFields at hf
  have: ¬(c.mode < 0∨511 < c.mode):=fun hm=>by
   rw[if_neg (by omega)]at hf
   split at hf
   ·omega
   ·rw[if_neg (by omega),if_neg (by omega),if_pos ⟨h,hm⟩]at hf;omega
  omega
 ·unfold inR
  unfold rFields at hf
  have: ¬(c.type < 1∨4 < c.type):=fun hm=>by
   rw[if_neg (by omega)]at hf
   split at hf
   ·omega
   ·rw[if_pos ⟨h,hm⟩]at hf;omega
  omega
theorem check_chgR {p:Pat} (h:(rCheckP p).2=0):(∀ c∈p.changes,chgR c)∧inR p.time:=by
 have e:rHead p=0:=by
  by_cases h0:rHead p=0
  ·exact h0
  ·rw[checkP_head,if_pos h0]at h;exact absurd h h0
 rw[rCheckP_ok e]at h
 have ht: ¬(p.time < 0∨1099511627776 < p.time)∧ ¬400 < (p.changes.length:Int):=by
  unfold rHead at e
  split at e
  ·omega
  split at e
  ·omega
  split at e
  ·omega
  rename_i ht
  split at e
  ·rename_i hd;exact absurd e hd
  split at e
  ·omega
  split at e
  ·omega
  rename_i hc
  exact⟨ht,hc⟩
 refine⟨fun c hc=>?_,by unfold inR;omega⟩
 obtain⟨hf,own,hN,hr⟩:=changes_okN 1600400 h (by simp;omega) c hc
 exact chgR_of (by omega) hf hr
theorem rEnc_inj {p q:Pat} (hp:encOk p) (hq:encOk q) (cp:(rCheckP p).2=0) (cq:(rCheckP q).2=0) (h:rEnc p=rEnc q):p=q:=by
 obtain⟨c1,t1⟩:=check_chgR cp
 obtain⟨c2,t2⟩:=check_chgR cq
 have h1:=(encX_inj 8 (r:= []) (s:= []) hp.ok.1 hq.ok.1 (by rw[List.append_nil,List.append_nil];exact h)).1
 have h1:=sList_inj h1
 simp only[List.cons.injEq,and_true,true_and]at h1
 obtain⟨e1,e2,e3,e4,e5⟩:=h1
 replace e1:=sAtom_inj e1
 replace e2:=sAtom_inj e2
 replace e3:=sNum_inj t1 t2 e3
 replace e4:=map_inj_on (fun _ _ _ _ e=>sDig_inj e) (sList_inj e4)
 replace e5:=map_inj_on (fun x hx y hy e=>sChg_inj (c1 x hx) (c2 y hy) e) (sList_inj e5)
 obtain⟨a1,a2,a3,a4,a5⟩:=p
 obtain⟨b1,b2,b3,b4,b5⟩:=q
 simp only at e1 e2 e3 e4 e5
 subst e1 e2 e3 e4 e5;rfl
end Go.Proofs
namespace Go.Proofs
open Go Go.Q
attribute [local irreducible] pwp pops PCalls OpN
section
variable {P:Program} {N:Nat} {all:Array Oper} {K:Env→List Res→Prop} {fl:List Bool} {os:List Oper} {ρ:Env} {L:List Res} {d:Nat} {ty:TypeId} {pos:String} {af:Array Edge}
theorem s_nilCheckF {x:Operand} {cs:List PV} {off:Nat} (hx:ρ.ev x= .pt cs off) (k:pops P N all K fl.tail os (upd ρ d (.pt cs off)) L) (hd:Nat.blt d N=true:=by rfl):pops P N all K fl (⟨some d,.nilCheck x,ty,pos,af,none⟩::os) ρ L:=
 step_q hd (qop_of_run fun a w g ha hi=>by
  have h1:=ha x (by simp[Op.operands])
  rw[hx]at h1
  generalize hv:a.eval x=v at h1
  cases h1 with
  |pt ff hH hv'=>
   rename_i b o
   exact⟨.pointer (some ⟨b,o+off,none⟩),by simp[execOp,hv],.pt ff hH hv'⟩) k
end
instance fld_rsv0 (s:List Sto) (m:Nat):Fld (eRsv s m) 0 [.slice (s.map eSto) .ro]:=⟨by simp[eRsv]⟩
instance fld_rsv1 (s:List Sto) (m:Nat):Fld (eRsv s m) 1 [.raw (.map (some m))]:=⟨by simp[eRsv]⟩
def KnownOk (s:List Sto) (known:List (Dig × List Atm)):Prop:= ∀ d l,mGet d known=some l→l=atomsPS s d
theorem KnownOk.set {s:List Sto} {known:List (Dig × List Atm)} (h:KnownOk s known) (d:Dig):KnownOk s (mSet d (atomsPS s d) known):=fun x l e=>by
 rw[mGet_mSet]at e
 split at e
 ·rename_i hx;subst hx;injection e with e;exact e.symm
 ·exact h x l e
set_option maxHeartbeats 1000000 in
theorem atomR_fn (s:List Sto) (hg:goodS s) (m:Nat) (known:List (Dig × List Atm)) (hk:KnownOk s known) (x:Ident):PCalls Tryz.prog 119 [.pt (eRsv s m) 0,.agg (eIdent x)] (knownR m known) (fun r L'=>r= .tuple [.agg (eAtm ((atomPS s x).getD Atm.zero)),.raw (.bool (atomPS s x).isSome)]∧ ∃ known',L'=knownR m known'∧KnownOk s known'):=by
 have i1:Small (rGreat ((getS s x.patch).getD Pat.zero)=false):=⟨hg.great _⟩
 refine pcalls_bd Tryz.func119 rfl Tryz.ntmps119 (rs:= [.cell 4 157,.tmp 5]) rfl rfl fun hb LF=>?_
 rw[show knownR m known++LF= .map m (eMap kDig (vSl eAtm) known)::LF from rfl]
 refine wf ?_
 refine s_alloc fun b4=>?_
 refine wf ?_
 refine s_nilCheckF rfl ?_
 refine wf ?_
 refine pwp_perm (.swap _ _ _) ?_
 refine pwp_joinG (σ:=List (Dig × List Atm)) (fun k=>KnownOk s k) (fun k=> [(3,.pt (eIdent x) 0),(4,.raw (.pointer (some ⟨b4,0,none⟩))),(6,.slice ((atomsPS s x.patch).map eAtm) .ro)]) (fun k=> .map m (eMap kDig (vSl eAtm) k):: .box b4 157 (eAtm Atm.zero)::LF) ?_ ?_
 ·refine pwp_condB (fun h=>?_) (fun h=>?_)
  ·refine wn ?_
   refine pwp_drawA [10,11] (by decide+kernel) ?_
   refine pAny_quiet 0 rfl (by decide+kernel) rfl (fun L'=>q_of_pops (N:=60) rfl rfl (by refine wo ?_;refine pops_nil ?_;exact⟨upd_self _ _ _,rfl⟩)) ?_
   refine pAny_quiet 1 rfl (by decide+kernel) rfl (fun L'=>q_of_pops (N:=60) rfl rfl (by refine s_nilCheckF rfl ?_;refine pops_nil ?_;exact⟨upd_self _ _ _,rfl⟩)) ?_
   refine pAny_quiet 2 rfl (by decide+kernel) rfl (fun L'=>q_of_pops (N:=60) rfl rfl (by refine wo ?_;refine pops_nil ?_;exact⟨upd_self _ _ _,rfl⟩)) ?_
   refine pAny_quiet 3 rfl (by decide+kernel) rfl (fun L'=>q_of_pops (N:=60) rfl rfl (by refine wo ?_;refine pops_nil ?_;exact⟨upd_self _ _ _,rfl⟩)) ?_
   refine pAny_quiet 4 rfl (by decide+kernel) rfl (fun L'=>q_of_pops (N:=60) rfl rfl (by refine wo ?_;refine pops_nil ?_;exact⟨upd_self _ _ _,rfl⟩)) ?_
   refine pAny_quiet 5 rfl (by decide+kernel) rfl (fun L'=>q_of_pops (N:=60) rfl rfl (by refine wo ?_;refine pops_nil ?_;exact⟨upd_self _ _ _,rfl⟩)) ?_
   refine pAny_quiet 6 rfl (by decide+kernel) rfl (fun L'=>q_of_pops (N:=60) rfl rfl (by refine wo ?_;refine pops_nil ?_;exact⟨upd_self _ _ _,rfl⟩)) ?_
   refine pAny_quiet 7 rfl (by decide+kernel) rfl (fun L'=>q_of_pops (N:=60) rfl rfl (by refine wo ?_;refine pops_nil ?_;exact⟨upd_self _ _ _,rfl⟩)) ?_
   refine pAny_quiet 8 rfl (by decide+kernel) rfl (fun L'=>q_of_pops (N:=60) rfl rfl (by refine wo ?_;refine pops_nil ?_;exact⟨upd_self _ _ _,rfl⟩)) ?_
   refine pAny_quiet 9 rfl (by decide+kernel) rfl (fun L'=>q_of_pops (N:=60) rfl rfl (by refine wo ?_;refine pops_nil ?_;exact⟨upd_self _ _ _,rfl⟩)) ?_
   refine pAny_next (fuel:=2) [10] (by decide+kernel) (by simp) fun i hi=>?_
   simp only[List.mem_cons,List.not_mem_nil,or_false]at hi
   subst hi
   refine⟨_,rfl,?_⟩
   refine s_alloc fun b8=>?_
   refine pops_nil ?_
   refine pAny_next (fuel:=1) [11] (by decide+kernel) (by simp) fun i hi=>?_
   simp only[List.mem_cons,List.not_mem_nil,or_false]at hi
   subst hi
   refine⟨_,rfl,?_⟩
   refine wo ?_
   refine pops_nil ?_
   refine pAny_next (fuel:=0) [12] (by decide+kernel) (by simp) fun i hi=>?_
   simp only[List.mem_cons,List.not_mem_nil,or_false]at hi
   subst hi
   refine⟨_,rfl,?_⟩
   refine wo ?_
   refine pops_nil ?_
   refine pAny_end (by decide+kernel) ?_
   refine pwp_freezeD 8 ?_
   refine wn ?_
   refine pwp_drawN 7 ?_ ?_
   ·decide+kernel
   refine wf ?_
   refine s_nilCheckF rfl ?_
   refine wf ?_
   exact⟨mSet x.patch (atomsPS s x.patch) known,hk.set _,⟨rfl,rfl,rfl⟩,.refl _⟩
  ·have h1:(mGet x.patch known).isSome=true:=by simpa using h
   obtain⟨l,hl⟩:=Option.isSome_iff_exists.1 h1
   have e:=hk _ _ hl
   subst e
   refine wf ?_
   refine⟨known,hk,⟨rfl,rfl,by rw[hl];rfl⟩,.refl _⟩
 intro k hkn
 refine pwp_perm (.swap _ _ _) ?_
 refine wf ?_
 refine pops_cutE [(53,.raw (.bool (decide (x.n < 0∨((atomsPS s x.patch).length:Int)≤x.n)))),(3,.pt (eIdent x) 0),(4,.raw (.pointer (some ⟨b4,0,none⟩))),(6,.slice ((atomsPS s x.patch).map eAtm) .ro)] (.box b4 157 (eAtm Atm.zero):: .map m (eMap kDig (vSl eAtm) k)::LF) ?_ ?_
 ·repeat' (first|(refine pwp_condD (fun h=>?_) (fun h=>?_)<;>refine wf ?_)|(refine pwp_condN (fun h=>?_) (fun h=>?_)<;>refine wf ?_)|(refine pwp_condB (fun h=>?_) (fun h=>?_)<;>refine wf ?_)|(refine pops_if (fun h=>?_) (fun h=>?_)<;>(have h2:=h;(try simp only[decide_eq_true_eq,decide_eq_false_iff_not,Bool.not_eq_true',Bool.not_eq_false']at h2);refine wf ?_)))
  all_goals (refine⟨⟨holdsB (by rfl) ?_,rfl,rfl,rfl⟩,.refl _⟩;first|(simp_all;done)|grind)
 refine wf ?_
 refine pwp_condD (fun h=>?_) (fun h=>?_)
 ·refine wf ?_
  refine⟨trivial,_,knownR m k,.cons (.cell 4 157 rfl List.mem_cons_self (inferInstance:TAgg Tryz.prog 157 172).out (by simp)) (.cons (.tmp 5) .nil),.cons _ (.refl _),?_,k,rfl,hkn⟩
  rw[atomPS,if_pos h];rfl
 ·have hlt:x.n.toNat < (atomsPS s x.patch).length:=by omega
  refine wf ?_
  refine⟨trivial,_,knownR m k,.cons (.cell 4 157 rfl List.mem_cons_self (inferInstance:TAgg Tryz.prog 157 172).out (by simp)) (.cons (.tmp 5) .nil),.cons _ (.refl _),?_,k,rfl,hkn⟩
  rw[atomPS,if_neg h,List.getElem?_eq_getElem hlt];rfl
end Go.Proofs
