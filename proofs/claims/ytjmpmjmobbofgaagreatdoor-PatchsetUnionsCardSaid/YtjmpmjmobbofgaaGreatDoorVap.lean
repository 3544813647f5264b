/- The small logic: an entry of a map opened and then written (a list in a map that grows). Library, no statement of its own. -/
import Derived.Test.YtjmpmjmobbofgaaGreatDoorVao
import Derived.Test.YtjmpmjmobbofgaaGreatDoorVam
import Derived.Test.YtjmpmjmobbofgaaGreatDoorVan
import Derived.Test.YtjmpmjmobbofgaaGreatDoorVaj
import Derived.Test.YtjmpmjmobbofgaaGreatDoorVal
import Derived.Shelf.SlSortCmp.NoneTotal
import Derived.Shelf.SlGeneric
import Derived.Ground.SlsfProg
import Derived.Test.YtjmpmjmobbofgaaGreatDoorProg
import Derived.Test.YtjmpmjmobbofgaaGreatDoorVag
set_option linter.unusedSimpArgs false
set_option linter.unusedVariables false
namespace Go.Q
open Go
theorem kIdx_append_none {κ:Type} [DecidableEq κ] {k:κ}: ∀ {l:List κ},kIdx k l=none→kIdx k (l++ [k])=some l.length
 | [],_=>by simp[kIdx]
 |a::l,h=>by
  simp only[kIdx]at h
  by_cases e:k=a
  ·simp[e]at h
  ·simp only[e,if_false,Option.map_eq_none_iff]at h
   simp[kIdx,e,kIdx_append_none h]
theorem mSet_mSet {κ α:Type} [DecidableEq κ] (k:κ) (x y:α): ∀ l:List (κ × α),mSet k x (mSet k y l)=mSet k x l
 | []=>by simp[mSet]
 |(a,z)::l=>by
  by_cases e:k=a
  ·subst e;simp[mSet]
  ·simp[mSet,e,mSet_mSet k x y l]
structure OpenAt {κ α:Type} [DecidableEq κ] (es:Array MapEntry) (cl:Nat) (l:List (κ × α)) (k0:κ) (i:Nat) (n:Int):Prop where
 st:Stamped es cl
 idx:kIdx k0 (l.map (·.1))=some i
 len:es.size=l.length
 born: ∀ h:i < es.size,(es[i].born:Int)=n
def kvsKnow (es:Array MapEntry) (kvs:List (PV × PV)):Res:= .know (es.toList.map (·.key)++es.toList.map (·.val)) (kvs.map (·.1)++kvs.map (·.2))
theorem Entries.know {g:Gh} {es:Array MapEntry} {kvs:List (PV × PV)} (h:Entries g es kvs):VRl g (es.toList.map (·.key)++es.toList.map (·.val)) (kvs.map (·.1)++kvs.map (·.2)):=by
 have hl:=h.len
 refine VRl.append ⟨by simp[hl],fun i h1 h2=>?_⟩ ⟨by simp[hl],fun i h1 h2=>?_⟩
 ·simpa using h.key i (by simpa using h1) (by simpa using h2)
 ·simpa using h.val i (by simpa using h1) (by simpa using h2)
theorem Entries.of_know {g:Gh} {es:Array MapEntry} {kvs:List (PV × PV)} (hl:es.size=kvs.length) (h:VRl g (es.toList.map (·.key)++es.toList.map (·.val)) (kvs.map (·.1)++kvs.map (·.2))):Entries g es kvs:=by
 refine⟨hl,fun i h1 h2=>?_,fun i h1 h2=>?_⟩
 ·have:=h.at_ i (by simp;omega) (by simp;omega)
  rw[List.getElem_append_left (by simpa using h1),List.getElem_append_left (by simpa using h2)]at this
  simpa using this
 ·have:=h.at_ (es.size+i) (by simp;omega) (by simp;omega)
  rw[List.getElem_append_right (by simp),List.getElem_append_right (by simp;omega)]at this
  simpa [hl]using this
section
variable {P:Program} {N:Nat} {all:Array Oper} {K:Env→List Res→Prop} {fl:List Bool} {os:List Oper} {ρ:Env} {L:List Res} {d:Nat} {ty:TypeId} {pos:String} {af:Array Edge}
variable {κ α:Type} [DecidableEq κ] {ek:κ→PV} {ev:α→PV} {T KT ET:Nat}
theorem s_mapEntry [hT:TMap P T KT ET] [hK:TKey P KT ek] {a0:α} [hz:ZV P ET ev a0] {x y:Operand} {b:Nat} {l:List (κ × α)} {k0:κ} {L':List Res} (hx:ρ.ev x= .raw (.map (some b))) (hp:L.Perm (.map b (eMap ek ev l)::L')) (hk:Le (ρ.ev y) (ek k0))
  (k: ∀ es cl i n,OpenAt es cl (mSet k0 ((mGet k0 l).getD a0) l) k0 i n→pops P N all K fl.tail os (upd ρ d (.tuple [ev ((mGet k0 l).getD a0),.raw (.int .i64 n)])) (.raw b (.map es cl)::kvsKnow es (eMap ek ev (mSet k0 ((mGet k0 l).getD a0) l))::L')) (hd:Nat.blt d N=true:=by rfl) (hfl:fl.headD true=true:=by rfl):
  pops P N all K fl (⟨some d,.mapEntry T x y,ty,pos,af,none⟩::os) ρ L:=
 pops_n rfl (dlt hd) hfl (OpN.perm hp fun a w g ha hi=>by
  have h1:=evRaw ha (x:=x) (by simp[Op.operands]) hx
  have h2:=hk g _ (ha y (by simp[Op.operands]))
  obtain⟨es,cl,hb,hE,hH,hM,hS⟩:=hi.res _ (List.mem_cons_self)
  have hl:es.size=l.length:=by simpa [eMap]using hE.len
  have hf:=hK.out.find g (a.eval y) k0 es.toList (l.map (·.1)) w h2 (by simpa using hl) (fun i h h'=>by
   have:=hE.key i (by simpa using h) (by simpa [eMap]using h')
   simpa [eMap]using this)
  have hlt:b < w.heap.size:=(Array.getElem?_eq_some_iff.1 hb).1
  have hnd:=hi.nodup
  simp only[blocks,List.filterMap_cons,Res.block]at hnd
  have hrest:Inv w g L':=hi.sub (List.sublist_cons_self _ _)
  have fin: ∀ (es':Array MapEntry) (cl' i:Nat) (n:Int) (u:Value),Entries g es' (eMap ek ev (mSet k0 ((mGet k0 l).getD a0) l))→OpenAt es' cl' (mSet k0 ((mGet k0 l).getD a0) l) k0 i n→VR g u (ev ((mGet k0 l).getD a0))→(Instr.mapEntry T (a.eval x) (a.eval y)).run P w= .ok (.tuple #[u,goInt n]) (w.putObj b (.map es' cl'))→
    Oper.wq P ⟨some d,.mapEntry T x y,ty,pos,af,none⟩ a w (fun a' w'=> ∃ v x g' L'',a'=a.put (some d) v∧VR g' v x∧Inv w' g' L''∧Step (blocks (.map b (eMap ek ev l)::L')) w g w' g'∧Within w (.map b (eMap ek ev l)::L') L''∧pops P N all K fl.tail os (upd ρ d x) L''):=fun es' cl' i n u hE' hO hu hr=>by
   have hr':(execOp a.eval ⟨some d,.mapEntry T x y,ty,pos,af,none⟩).run P w= .ok (.value (.tuple #[u,goInt n])) (w.putObj b (.map es' cl')):=by
    simp only[execOp,hr,Sem.run_bind,Result.andThen_ok,Sem.run_pure]
   refine Oper.wq_of_run hr' ?_
   have i2:=hrest.put (.map es' cl') hH hM (List.nodup_cons.1 hnd).1
   refine⟨_,.tuple [ev ((mGet k0 l).getD a0),.raw (.int .i64 n)],g,.raw b (.map es' cl')::kvsKnow es' (eMap ek ev (mSet k0 ((mGet k0 l).getD a0) l))::L',rfl,VRl.tuple (.cons hu (.cons (.raw _) (.nil g))),⟨i2.sat,i2.satM,fun r hr=>?_,?_,hi.glob⟩,.put _ (by simp[blocks,Res.block]),fun b' hb' _=>?_,k es' cl' i n hO⟩
   ·rcases List.mem_cons.1 hr with rfl|hr
    ·exact⟨World.putObj_heap_same hlt,hH,hM⟩
    ·rcases List.mem_cons.1 hr with rfl|hr
     ·exact hE'.know
     ·exact i2.res r hr
   ·simpa only[blocks,List.filterMap_cons,Res.block,kvsKnow]using hnd
   ·simpa only[blocks,List.filterMap_cons,Res.block,kvsKnow]using hb'
  cases hi':kIdx k0 (l.map (·.1))with
  |none=>
   rw[hi']at hf
   obtain⟨i0,z,z1,z2,z3⟩:=hz.out
   have e0:(mGet k0 l).getD a0=a0:=by rw[mGet_none k0 hi'];rfl
   rw[e0]at fin
   rw[mSet_keys_new k0 a0 hi']at fin
   refine fin (es.push { key:=a.eval y,val:=z,born:=cl }) (cl+1) l.length cl z ?_ ⟨hS.push rfl,?_,by simp[hl],fun h=>?_⟩ (z3 g) ?_
   ·rw[eMap,List.map_append]
    refine⟨by simp[hl],fun i j1 j2=>?_,fun i j1 j2=>?_⟩
    ·by_cases hi2:i < es.size
     ·rw[Array.getElem_push_lt hi2,List.getElem_append_left (by simp;omega)]
      exact hE.key i hi2 (by simp[eMap];omega)
     ·have e:i=es.size:=by simp at j1;omega
      subst e
      rw[List.getElem_append_right (by simp[hl])]
      rw[Array.getElem_push_eq];simpa [hl]using h2
    ·by_cases hi2:i < es.size
     ·rw[Array.getElem_push_lt hi2,List.getElem_append_left (by simp;omega)]
      exact hE.val i hi2 (by simp[eMap];omega)
     ·have e:i=es.size:=by simp at j1;omega
      subst e
      rw[List.getElem_append_right (by simp[hl])]
      rw[Array.getElem_push_eq];simpa [hl]using z3 g
   ·rw[List.map_append]
    have:=kIdx_append_none hi'
    simpa using this
   ·simp[←hl]
   ·unfold Instr.mapEntry
    simp only[Sem.run_bind,run_underlying hT.out,Result.andThen_ok,h1,MapKept.run_getObj_map hb,hK.out.check false g _ k0 w h2,hf,Option.bind_none,zeroValue,typeInfo,run_program,z1,z2,Sem.run_pure,MapKept.run_setObj_map _ hb]
    rfl
  |some i=>
   rw[hi']at hf
   obtain⟨y0,e1,e2,e3⟩:=mSet_keys_old k0 ((mGet k0 l).getD a0) hi'
   have hli:i < l.length:=(List.getElem?_eq_some_iff.1 e1).1
   have hli':i < es.size:=by omega
   have hy0:l[i]=(k0,y0):=(List.getElem?_eq_some_iff.1 e1).2
   have e0:(mGet k0 l).getD a0=y0:=by rw[e3];rfl
   rw[e0]at e2 fin
   have e4:l.set i (k0,y0)=l:=by rw[←hy0];exact List.set_getElem_self hli
   rw[e4]at e2
   rw[e2]at fin
   have hkey:VR g es[i].key (ek k0):=by
    have:=hE.key i hli' (by simp[eMap];exact hli)
    simpa [eMap,hy0]using this
   have hval:VR g es[i].val (ev y0):=by
    have:=hE.val i hli' (by simp[eMap];exact hli)
    simpa [eMap,hy0]using this
   have hsame:=hK.out.same g _ _ k0 hkey h2
   refine fin (es.modify i fun e=>{ e with key:=a.eval y }) cl i es[i].born es[i].val ?_ ⟨hS.modify fun _=>rfl,hi',by simpa using hl,fun h=>by simp[Array.getElem_modify]⟩ hval ?_
   ·refine⟨by simp[eMap,hl],fun j j1 j2=>?_,fun j j1 j2=>?_⟩
    ·simp only[Array.size_modify]at j1
     rw[Array.getElem_modify (by simpa using j1)]
     by_cases hj:i=j
     ·subst hj
      simp[eMap,hy0];exact h2
     ·simp only[hj,if_false]
      exact hE.key j j1 j2
    ·simp only[Array.size_modify]at j1
     rw[Array.getElem_modify (by simpa using j1)]
     by_cases hj:i=j
     ·subst hj
      simp[eMap,hy0];exact hval
     ·simp only[hj,if_false]
      exact hE.val j j1 j2
   ·have hf2:(Instr.findKey KT (a.eval y) es.toList).run P w= .ok (some (i,es[i].val)) w:=by rw[hf];simp[hli']
    have hst:(Instr.keyThatStays es[i].key (a.eval y)).run P w= .ok (a.eval y) w:=by unfold Instr.keyThatStays;rw[if_pos hsame];rfl
    unfold Instr.mapEntry
    simp only[Sem.run_bind,run_underlying hT.out,Result.andThen_ok,h1,MapKept.run_getObj_map hb,hK.out.check false g _ k0 w h2,hf2,Array.getElem?_eq_getElem hli',Option.map_some,Option.getD_some,hst,MapKept.run_setObj_map _ hb]
    rfl)
theorem s_entryStore {es:Array MapEntry} {cl i:Nat} {n:Int} {x y z:Operand} {b:Nat} {l:List (κ × α)} {k0:κ} {x0:α} {L':List Res} (hO:OpenAt es cl l k0 i n) (hx:ρ.ev x= .raw (.map (some b))) (hy:ρ.ev y= .raw (.int .i64 n)) (hz:Le (ρ.ev z) (ev x0)) (hp:L.Perm (.raw b (.map es cl)::kvsKnow es (eMap ek ev l)::L'))
  (k:pops P N all K fl.tail os ρ (.map b (eMap ek ev (mSet k0 x0 l))::L')) (hfl:fl.headD true=true:=by rfl):pops P N all K fl (⟨none,.entryStore T x y z,ty,pos,af,none⟩::os) ρ L:=
 pops_n rfl (fun _ e=>by cases e) hfl (OpN.perm hp fun a w g ha hi=>by
  have h1:=evRaw ha (x:=x) (by simp[Op.operands]) hx
  have h2:=evRaw ha (x:=y) (by simp[Op.operands]) hy
  have h3:=hz g _ (ha z (by simp[Op.operands]))
  obtain⟨hb,hH,hM⟩:=hi.res _ (List.mem_cons_self)
  have hkn:=hi.res _ (List.mem_cons_of_mem _ List.mem_cons_self)
  have hE:Entries g es (eMap ek ev l):= .of_know (by simpa [eMap]using hO.len) hkn
  obtain⟨y0,e1,e2,_⟩:=mSet_keys_old k0 x0 hO.idx
  have hli:i < l.length:=(List.getElem?_eq_some_iff.1 e1).1
  have hli':i < es.size:=by have:=hO.len;omega
  have hy0:l[i]=(k0,y0):=(List.getElem?_eq_some_iff.1 e1).2
  have hlt:b < w.heap.size:=(Array.getElem?_eq_some_iff.1 hb).1
  have hbn:=hO.born hli'
  have hnd:=hi.nodup
  simp only[blocks,List.filterMap_cons,Res.block,kvsKnow]at hnd
  have hrest:Inv w g L':=hi.sub ((List.sublist_cons_self _ _).trans (List.sublist_cons_self _ _))
  have hfi:es.findIdx? (fun e=>(e.born:Int)==n)=some i:=by
   rw[Array.findIdx?_eq_some_iff_getElem]
   refine⟨hli',by simpa using hbn,fun j hj=>?_⟩
   have hj':j < es.size:=by omega
   intro h
   have:(es[j].born:Int)=n:=by simpa using h
   have:=hO.st.inj hj' hli' (by omega)
   omega
  have hr:(Instr.entryStore T (a.eval x) (a.eval y) (a.eval z)).run P w= .ok () (w.putObj b (.map (es.modify i fun e=>{ e with val:=a.eval z }) cl)):=by
   unfold Instr.entryStore
   simp only[Sem.run_bind,h1,h2,MapKept.run_getObj_map hb,asInt,asIntOf,Sem.run_pure,Result.andThen_ok,hfi,MapKept.run_setObj_map _ hb]
   rfl
  have hr':(execOp a.eval ⟨none,.entryStore T x y z,ty,pos,af,none⟩).run P w= .ok .skip (w.putObj b (.map (es.modify i fun e=>{ e with val:=a.eval z }) cl)):=by
   simp only[execOp,hr,Sem.run_bind,Result.andThen_ok,Sem.run_pure]
  refine Oper.wq_of_run hr' ?_
  have i2:=hrest.put (.map (es.modify i fun e=>{ e with val:=a.eval z }) cl) hH hM (List.nodup_cons.1 hnd).1
  refine⟨undef,.raw undef,g,.map b (eMap ek ev (mSet k0 x0 l))::L',rfl,.raw _,⟨i2.sat,i2.satM,fun r hr=>?_,?_,hi.glob⟩,.put _ (by simp[blocks,Res.block]),fun b' hb' _=>?_,k⟩
  ·rcases List.mem_cons.1 hr with rfl|hr
   ·refine⟨_,cl,World.putObj_heap_same hlt,?_,hH,hM,hO.st.modify fun _=>rfl⟩
    rw[e2]
    refine⟨by simp[eMap,hO.len],fun j j1 j2=>?_,fun j j1 j2=>?_⟩
    ·simp only[Array.size_modify]at j1
     have j3:j < l.length:=by have:=hO.len;omega
     rw[Array.getElem_modify (by simpa using j1)]
     have:=hE.key j j1 (by simp[eMap];exact j3)
     by_cases hj:i=j
     ·subst hj
      simpa [eMap,hy0]using this
     ·simp only[hj,if_false]
      simpa [eMap,List.getElem_set_ne hj]using this
    ·simp only[Array.size_modify]at j1
     have j3:j < l.length:=by have:=hO.len;omega
     rw[Array.getElem_modify (by simpa using j1)]
     by_cases hj:i=j
     ·subst hj
      simp[eMap];exact h3
     ·simp only[hj,if_false]
      have:=hE.val j j1 (by simp[eMap];exact j3)
      simpa [eMap,List.getElem_set_ne hj]using this
   ·exact i2.res r hr
  ·simpa only[blocks,List.filterMap_cons,Res.block]using hnd
  ·simpa only[blocks,List.filterMap_cons,Res.block,kvsKnow]using hb')
end
end Go.Q
namespace Go.Proofs
open Go Go.Q
attribute [local irreducible] pwp pops PCalls OpN
def vTg (x:List Dig × Tag):PV:= .slice (x.1.map eDig) x.2
instance zv_tg:ZV Tryz.prog 24 vTg ([],.nil):=zvof (v:= .slice none 0 0) (by kernel_rfl) fun _=> .nilN none (by simp)
def tokE (x:List Dig × Tag):Res:= .tok x.2 x.1.length 32
def toks (m:List (Dig × (List Dig × Tag))):List Res:=m.map fun e=>tokE e.2
def Split (k:Dig) (m:List (Dig × (List Dig × Tag))) (R:List Res):Prop:=(mGet k m=none∧R=toks m)∨ ∃ v,mGet k m=some v∧(toks m).Perm (tokE v::R)
theorem toks_split (k:Dig): ∀ m:List (Dig × (List Dig × Tag)),∃ R,Split k m R∧ ∀ v,(toks (mSet k v m)).Perm (tokE v::R)
 | []=>⟨[],.inl ⟨rfl,rfl⟩,fun v=> .refl _⟩
 |(a,y)::l=>by
  by_cases e:k=a
  ·exact⟨toks l,.inr ⟨y,by simp[mGet,e],.refl _⟩,fun v=>by simp[mSet,e,toks]⟩
  ·obtain⟨R,h1,h2⟩:=toks_split k l
   refine⟨tokE y::R,?_,fun v=>?_⟩
   ·rcases h1 with ⟨h,rfl⟩|⟨v,h,hp⟩
    ·exact .inl ⟨by simp[mGet,e,h],rfl⟩
    ·exact .inr ⟨v,by simp[mGet,e,h],(List.Perm.cons (tokE y) hp).trans (.swap _ _ _)⟩
   ·have e2:mSet k v ((a,y)::l)=(a,y)::mSet k v l:=by simp[mSet,e]
    rw[e2]
    exact(List.Perm.cons (tokE y) (h2 v)).trans (.swap _ _ _)
theorem pwp_toks {P:Program} {N:Nat} {c:Code} {Q:PPost} {ρ:Env} {A LF R:List Res} {m:List (Dig × (List Dig × Tag))} {k:Dig} (h:Split k m R) (hk:pwp P N c Q ρ (A++tokE ((mGet k m).getD ([],.nil))::(R++LF))):pwp P N c Q ρ (A++(toks m++LF)):=by
 rcases h with ⟨h,rfl⟩|⟨v,h,hp⟩
 ·rw[h]at hk
  refine pwp_tok 32 ?_
  exact pwp_perm List.perm_middle.symm hk
 ·rw[h]at hk
  exact pwp_perm (List.Perm.append_left A (hp.append_right LF)) hk
def ndT (m:List (Dig × (List Dig × Tag))) (d:Dig):List Dig:=((mGet d m).getD ([],.nil)).1
def gK (G:List (Dig × List Dig)) (i:Nat):Dig:=(G.getD i (Dig.zero,[])).1
def gV (G:List (Dig × List Dig)) (i:Nat):List Dig:=(G.getD i (Dig.zero,[])).2
def lstT (G:List (Dig × List Dig)) (done:List Nat) (d:Dig):List Dig:=(done.filter fun i=>decide (d∈gV G i)).map (gK G)
structure TInv (G:List (Dig × List Dig)) (done:List Nat) (y:Dig) (part ex:List Dig) (m:List (Dig × (List Dig × Tag))):Prop where
 val: ∀ d,ndT m d=lstT G done d++(if d∈part then [y]else [])
 is: ∀ d,(mGet d m).isSome=true↔(∃ i∈done,d=gK G i∨d∈gV G i)∨d∈ex
theorem TInv.start (G:List (Dig × List Dig)) (y:Dig):TInv G [] y [] [] []:=⟨fun d=>by simp[ndT,mGet,lstT],fun d=>by simp[mGet]⟩
theorem ndT_set (m:List (Dig × (List Dig × Tag))) (k d:Dig) (v:List Dig × Tag):ndT (mSet k v m) d=if d=k then v.1 else ndT m d:=by
 unfold ndT
 rw[mGet_mSet]
 by_cases h:d=k
 ·rw[if_pos h,if_pos h];rfl
 ·rw[if_neg h,if_neg h]
theorem TInv.own {G:List (Dig × List Dig)} {done:List Nat} {z y:Dig} {m:List (Dig × (List Dig × Tag))} (h:TInv G done z [] [] m) (t:Tag):TInv G done y [] [y] (mSet y (ndT m y++ [],t) m):=by
 refine⟨fun d=>?_,fun d=>?_⟩
 ·rw[ndT_set]
  have:=h.val d
  by_cases e:d=y
  ·subst e;simpa using this
  ·rw[if_neg e];simpa using this
 ·rw[mGet_mSet]
  by_cases e:d=y
  ·subst e;simp
  ·rw[if_neg e,h.is d];simp[e]
theorem TInv.step {G:List (Dig × List Dig)} {done:List Nat} {y x:Dig} {part:List Dig} {m:List (Dig × (List Dig × Tag))} (h:TInv G done y part (y::part) m) (hx:x∉part) (t:Tag):TInv G done y (part++ [x]) (y::(part++ [x])) (mSet x (ndT m x++ [y],t) m):=by
 refine⟨fun d=>?_,fun d=>?_⟩
 ·rw[ndT_set]
  have:=h.val d
  by_cases e:d=x
  ·subst e
   rw[if_neg hx]at this
   rw[if_pos rfl,this,if_pos (by simp)];simp
  ·rw[if_neg e,this]
   by_cases e2:d∈part<;>simp[e,e2]
 ·rw[mGet_mSet]
  by_cases e:d=x
  ·subst e;simp
  ·rw[if_neg e,h.is d];simp[e]
theorem TInv.next {G:List (Dig × List Dig)} {done:List Nat} {z:Dig} {i:Nat} {m:List (Dig × (List Dig × Tag))} (h:TInv G done (gK G i) (gV G i) (gK G i::gV G i) m):TInv G (done++ [i]) z [] [] m:=by
 refine⟨fun d=>?_,fun d=>?_⟩
 ·rw[h.val d]
  unfold lstT
  by_cases e:d∈gV G i<;>simp[e]
 ·rw[h.is d]
  constructor
  ·rintro(⟨j,hj,h2⟩|h2)
   ·exact .inl ⟨j,by simp[hj],h2⟩
   ·exact .inl ⟨i,by simp,by simpa using h2⟩
  ·rintro(⟨j,hj,h2⟩|h2)
   ·rcases List.mem_append.1 hj with hj|hj
    ·exact .inl ⟨j,hj,h2⟩
    ·rw[List.mem_singleton.1 hj]at h2
     exact .inr (by simpa using h2)
   ·cases h2
theorem TInv.len {G:List (Dig × List Dig)} {done:List Nat} {y:Dig} {part ex:List Dig} {m:List (Dig × (List Dig × Tag))} (h:TInv G done y part ex m) (d:Dig):(ndT m d).length≤done.length+1:=by
 rw[h.val d]
 have:(lstT G done d).length≤done.length:=by unfold lstT;rw[List.length_map];exact List.length_filter_le _ _
 rw[List.length_append]
 split<;>simp<;>omega
theorem done_len {done:List Nat} {n:Nat} (h1:done.Nodup) (h2: ∀ i∈done,i < n):done.length≤n:=by
 have:=nodup_len h1 (m:=List.range n) fun i hi=>List.mem_range.2 (h2 i hi)
 simpa using this
theorem le_tg (m:List (Dig × (List Dig × Tag))):Le (.fmap (eMap kDig vTg m)) (.fmap (eMap kDig (vSl eDig) (m.map fun e=>(e.1,e.2.1)))):=fun g v h=>by
 generalize hk:eMap kDig vTg m=kvs at h
 cases h with
 |fmap hM hl hk2 hv=>
  subst hk
  refine .fmap hM (by simpa [eMap]using hl) (fun i h1 h2=>?_) (fun i h1 h2=>?_)
  ·have:=hk2 i h1 (by simpa [eMap]using h2)
   simpa [eMap]using this
  ·have:=hv i h1 (by simpa [eMap]using h2)
   simp only[eMap,List.getElem_map]at this ⊢
   exact this.ro
 |nilM=>
  have:m= []:=by simpa [eMap]using hk
  subst this
  exact .nilM
theorem mGet_map (m:List (Dig × (List Dig × Tag))) (d:Dig):mGet d (m.map fun e=>(e.1,e.2.1))=(mGet d m).map (·.1):=by
 induction m with
 |nil=>rfl
 |cons x m ih=>
  obtain⟨a,y⟩:=x
  simp only[List.map_cons,mGet,ih]
  split<;>rfl
theorem ndG_map (m:List (Dig × (List Dig × Tag))) (d:Dig):ndG (m.map fun e=>(e.1,e.2.1)) d=ndT m d:=by
 unfold ndG ndT
 rw[mGet_map]
 cases mGet d m<;>rfl
set_option maxHeartbeats 2000000 in
theorem turned_fn (G:List (Dig × List Dig)) (hl:G.length≤1000) (hnd: ∀ i,(gV G i).Nodup) (hvl: ∀ i,(gV G i).length≤1000):
  PCalls Tryz.prog 97 [.fmap (eMap kDig (vSl eDig) G)] [] (fun r L'=>(∃ m done,r= .fmap (eMap kDig vTg m)∧done.Nodup∧(∀ i,i∈done↔i < G.length)∧TInv G done Dig.zero [] [] m)∧L'= []):=by
 refine pcalls_bd Tryz.func97 rfl Tryz.ntmps97 (rs:= [.tmp 2]) rfl rfl fun hb LF=>?_
 rw[List.nil_append]
 refine wf ?_
 refine j_makeMap fun m=>?_
 refine wf ?_
 refine s_range (kvs:=eMap kDig (vSl eDig) G) rfl fun b=>?_
 refine wf ?_
 refine pwp_loopS (σ:=List Nat × List (Dig × (List Dig × Tag))) (fun k=>k.1.Nodup∧(∀ i∈k.1,i < G.length)∧TInv G k.1 Dig.zero [] [] k.2) (fun k=>G.length - k.1.length) (fun k=> [(3,.raw (.map (some m))),(10,.raw (.pointer (some ⟨b,0,none⟩)))]) (fun k=> .iter b (eMap kDig (vSl eDig) G) k.1:: .map m (eMap kDig vTg k.2)::(toks k.2++LF)) ([],[]) ⟨.nil,by simp,.start _ _⟩ ⟨rfl,rfl⟩ (.refl _) ?_
 rintro⟨done,T⟩ ⟨hdn,hdl,hT⟩
 dsimp only at hdn hdl hT ⊢
 have hkl:(eMap kDig (vSl eDig) G).length=G.length:=by simp[eMap]
 refine wf ?_
 refine s_next rfl (.refl _) (fun hall=>?_) (fun i hi hni=>?_)
 ·refine wo ?_
  refine pops_nil ?_
  refine pwp_seq ?_
  refine pwp_cond (t:=false) rfl (fun h=>by cases h) (fun _=>?_)
  refine pwp_exit ?_
  refine pwp_freezeM [(3,.fmap (eMap kDig vTg T))] (.inr ⟨rfl,rfl⟩) (.swap _ _ _) ?_
  refine wf ?_
  refine⟨trivial,_,[],.cons (.tmp 2) .nil,?_,⟨T,done,rfl,hdn,fun i=>⟨hdl i,fun h=>hall i (by rw[hkl];exact h)⟩,hT⟩,rfl⟩
  exact .cons _ (List.sublist_append_right _ _)
 have hi2:i < G.length:=by rw[←hkl];exact hi
 have hgd:G.getD i (Dig.zero,[])=G[i]:=by simp[List.getD,hi2]
 have hgk:gK G i=G[i].1:=by unfold gK;rw[hgd]
 have hgv:gV G i=G[i].2:=by unfold gV;rw[hgd]
 have e1:(eMap kDig (vSl eDig) G)[i].1= .agg (eDig (gK G i)):=by rw[hgk];simp[eMap,kDig]
 have e2:(eMap kDig (vSl eDig) G)[i].2= .slice ((gV G i).map eDig) .ro:=by rw[hgv];simp[eMap,vSl]
 have hdl2:=done_len hdn hdl
 rw[e1,e2]
 refine wf ?_
 refine s_entry rfl List.mem_cons_self hi ?_
 rw[e1,e2]
 refine wf ?_
 refine s_alloc fun b4=>?_
 refine wo ?_
 refine pops_nil ?_
 refine pwp_freezeD 4 ?_
 have hok: ∀ z,(ndT T z).length≤1001:=fun z=>by have:=hT.len z;omega
 obtain⟨R,hR1,hR2⟩:=toks_split (gK G i) T
 refine pwp_toks (A:= [.iter b (eMap kDig (vSl eDig) G) (done++ [i]),.map m (eMap kDig vTg T)]) hR1 ?_
 have hl0:=hok (gK G i)
 have hown:=fun t=>hT.own (y:=gK G i) t
 unfold ndT at hl0 hown
 generalize hv0:(mGet (gK G i) T).getD ([],Tag.nil)=v0 at hl0 hown ⊢
 obtain⟨l0,t0⟩:=v0
 dsimp only at hl0 hown
 refine wf ?_
 refine s_mapEntry (ek:=kDig) (ev:=vTg) (k0:=gK G i) (l:=T) (L':= .iter b (eMap kDig (vSl eDig) G) (done++ [i]):: .tok t0 l0.length 32::(R++LF)) rfl (.swap _ _ _) (.refl _) fun es cl ix n hO=>?_
 rw[hv0]at hO ⊢
 refine wf ?_
 refine s_append (f:=eDig) (l:=l0) (m:= []) (t:=t0) (L':=fun t'=> .raw m (.map es cl)::kvsKnow es (eMap kDig vTg (mSet (gK G i) (l0,t0) T)):: .iter b (eMap kDig (vSl eDig) G) (done++ [i]):: .tok t' (l0++ []).length 32::(R++LF)) rfl rfl (by simp only[List.length_nil];omega) (by simp only[List.length_nil];omega) (fun t'=> .there (.there (.there .here))) fun t'=>?_
 refine wf ?_
 refine s_entryStore (ek:=kDig) (ev:=vTg) (x0:=(l0++ [],t')) (L':= .iter b (eMap kDig (vSl eDig) G) (done++ [i]):: .tok t' (l0++ []).length 32::(R++LF)) hO rfl rfl (.refl _) (.refl _) ?_
 rw[mSet_mSet]
 refine pops_nil ?_
 have hT1:=hown t'
 have hp1:=hR2 (l0++ [],t')
 generalize mSet (gK G i) (l0++ [],t') T=T1 at hT1 hp1 ⊢
 refine pwp_perm (L':= .iter b (eMap kDig (vSl eDig) G) (done++ [i]):: .map m (eMap kDig vTg T1)::(toks T1++LF)) ((List.Perm.swap _ _ _).trans (.cons _ (.cons _ ((hp1.append_right LF).symm)))) ?_
 clear hp1 hown hl0 hv0 hR1 hR2 hO
 have hni2:=hnd i
 have hvli:=hvl i
 have hnx:=fun m=>TInv.next (G:=G) (done:=done) (z:=Dig.zero) (i:=i) (m:=m)
 generalize gK G i=y at hT1 hnx ⊢
 generalize gV G i=nv at hni2 hvli hnx ⊢
 refine wf ?_
 refine pwp_loopS (σ:=Nat × List (Dig × (List Dig × Tag))) (fun j=>j.1≤nv.length∧TInv G done y (nv.take j.1) (y::nv.take j.1) j.2) (fun j=>nv.length - j.1) (fun j=> [(3,.raw (.map (some m))),(4,.pt (eDig y) 0),(10,.raw (.pointer (some ⟨b,0,none⟩))),(23,.slice (nv.map eDig) .ro),(24,.raw (.int .i64 nv.length)),(25,.raw (.int .i64 j.1))]) (fun j=> .iter b (eMap kDig (vSl eDig) G) (done++ [i]):: .map m (eMap kDig vTg j.2)::(toks j.2++LF)) (0,T1) ⟨by simp,hT1⟩ ⟨rfl,rfl,rfl,rfl,rfl,rfl⟩ (.refl _) ?_
 clear hT1
 rintro⟨j,T2⟩ ⟨hj,hT2⟩
 dsimp only at hj hT2 ⊢
 refine wf ?_
 refine pwp_condD (fun hc=>?_) (fun hc=>?_)
 ·have hlt:j < nv.length:=by omega
  have hnj:nv[j]∉nv.take j:=fun h=>by
   obtain⟨q,hq,e⟩:=List.mem_iff_getElem.1 h
   rw[List.length_take]at hq
   rw[List.getElem_take]at e
   have:=(List.pairwise_iff_getElem.1 hni2) q j (by omega) hlt (by omega)
   exact this e
  have hl0:(ndT T2 nv[j]).length≤1001:=by have:=hT2.len nv[j];omega
  have hown:=fun t=>hT2.step hnj t
  rw[←List.take_succ_eq_append_getElem hlt]at hown
  obtain⟨R,hR1,hR2⟩:=toks_split nv[j] T2
  refine wf ?_
  refine s_alloc fun b7=>?_
  refine wo ?_
  refine pops_nil ?_
  refine pwp_freezeD 7 ?_
  refine pwp_toks (A:= [.iter b (eMap kDig (vSl eDig) G) (done++ [i]),.map m (eMap kDig vTg T2)]) hR1 ?_
  unfold ndT at hl0 hown
  generalize hv0:(mGet nv[j] T2).getD ([],Tag.nil)=v0 at hl0 hown ⊢
  obtain⟨l0,t0⟩:=v0
  dsimp only at hl0 hown
  refine wf ?_
  refine s_mapEntry (ek:=kDig) (ev:=vTg) (k0:=nv[j]) (l:=T2) (L':= .iter b (eMap kDig (vSl eDig) G) (done++ [i]):: .tok t0 l0.length 32::(R++LF)) rfl (.swap _ _ _) (.refl _) fun es cl ix n hO=>?_
  rw[hv0]at hO ⊢
  refine wf ?_
  refine s_append (f:=eDig) (l:=l0) (m:= [y]) (t:=t0) (L':=fun t'=> .raw m (.map es cl)::kvsKnow es (eMap kDig vTg (mSet nv[j] (l0,t0) T2)):: .iter b (eMap kDig (vSl eDig) G) (done++ [i]):: .tok t' (l0++ [y]).length 32::(R++LF)) rfl rfl (by simp only[List.length_cons,List.length_nil];omega) (by simp only[List.length_cons,List.length_nil];omega) (fun t'=> .there (.there (.there .here))) fun t'=>?_
  refine wf ?_
  refine s_entryStore (ek:=kDig) (ev:=vTg) (x0:=(l0++ [y],t')) (L':= .iter b (eMap kDig (vSl eDig) G) (done++ [i]):: .tok t' (l0++ [y]).length 32::(R++LF)) hO rfl rfl (.refl _) (.refl _) ?_
  rw[mSet_mSet]
  refine pops_nil ?_
  have hT3:=hown t'
  have hp3:=hR2 (l0++ [y],t')
  generalize mSet nv[j] (l0++ [y],t') T2=T3 at hT3 hp3 ⊢
  refine pwp_perm (L':= .iter b (eMap kDig (vSl eDig) G) (done++ [i]):: .map m (eMap kDig vTg T3)::(toks T3++LF)) ((List.Perm.swap _ _ _).trans (.cons _ (.cons _ ((hp3.append_right LF).symm)))) ?_
  refine wf ?_
  exact⟨(j+1,T3),⟨by dsimp only;omega,hT3⟩,by dsimp only;omega,⟨rfl,rfl,rfl,rfl,rfl,rfl⟩,.refl _⟩
 ·rw[List.take_of_length_le (by omega)]at hT2
  refine wf ?_
  refine⟨(done++ [i],T2),⟨List.nodup_append.2 ⟨hdn,by simp,fun a ha c hc=>?_⟩,fun q hq=>?_,hnx _ hT2⟩,?_,⟨rfl,rfl⟩,.refl _⟩
  ·rw[List.mem_singleton.1 hc];rintro rfl;exact hni ha
  ·rcases List.mem_append.1 hq with hq|hq
   ·exact hdl q hq
   ·rw[List.mem_singleton.1 hq];exact hi2
  ·dsimp only
   have h3:(done++ [i]).length≤G.length:=done_len (List.nodup_append.2 ⟨hdn,by simp,fun a ha c hc=>by rw[List.mem_singleton.1 hc];rintro rfl;exact hni ha⟩) fun q hq=>by
    rcases List.mem_append.1 hq with hq|hq
    ·exact hdl q hq
    ·rw[List.mem_singleton.1 hq];exact hi2
   rw[List.length_append,List.length_singleton]at h3 ⊢
   omega
end Go.Proofs
namespace Go.Proofs
open Go Go.Q
attribute [local irreducible] pwp pops PCalls OpN
theorem kIdx_none {κ:Type} [DecidableEq κ] {k:κ}: ∀ {l:List κ},k∉l→kIdx k l=none
 | [],_=>rfl
 |a::l,h=>by
  have h1:k≠a:=fun e=>h (by simp[e])
  rw[kIdx,if_neg h1,kIdx_none fun h'=>h (List.mem_cons_of_mem _ h')];rfl
theorem gr_append: ∀ (s:List Sto) (m:List (Dig × List Dig)),(∀ x∈s,x.id∉m.map (·.1))→(ids s).Nodup→s.foldl (fun m x=>mSet x.id (rNeeds x.patch) m) m=m++s.map fun x=>(x.id,rNeeds x.patch)
 | [],m,_,_=>by simp
 |x::s,m,h,hn=>by
  have hn2:=List.pairwise_cons.1 hn
  rw[List.foldl_cons,mSet_keys_new _ _ (kIdx_none (h x (by simp))),gr_append s _ (fun y hy=>?_) hn2.2]
  ·simp
  ·rw[List.map_append,List.mem_append]
   rintro(h2|h2)
   ·exact h y (by simp[hy]) h2
   ·have e:y.id=x.id:=by simpa using h2
    exact hn2.1 y.id (List.mem_map.2 ⟨y,hy,rfl⟩) e.symm
theorem gr_map {s:List Sto} (h:Asc (ids s)):gr s=s.map fun x=>(x.id,rNeeds x.patch):=by
 rw[gr,gr_append s [] (by simp) h.nodup,List.nil_append]
theorem gK_gr {s:List Sto} (h:Asc (ids s)) {i:Nat} (hi:i < s.length):gK (gr s) i=s[i].id∧gV (gr s) i=rNeeds s[i].patch:=by
 have e:(gr s).getD i (Dig.zero,[])=(s[i].id,rNeeds s[i].patch):=by
  rw[gr_map h];simp[List.getD,hi]
 exact⟨by rw[gK,e],by rw[gV,e]⟩
theorem gV_out {s:List Sto} (h:Asc (ids s)) {i:Nat} (hi: ¬i < s.length):gV (gr s) i= []:=by
 have e:(gr s).getD i (Dig.zero,[])=(Dig.zero,[]):=by
  rw[gr_map h,List.getD,List.getElem?_eq_none (by rw[List.length_map];omega)];rfl
 rw[gV,e]
theorem gr_len {s:List Sto} (h:Asc (ids s)):(gr s).length=s.length:=by rw[gr_map h,List.length_map]
theorem Valid.turned_of {s:List Sto} (v:Valid s) {done:List Nat} {m:List (Dig × (List Dig × Tag))} (hn:done.Nodup) (hd: ∀ i,i∈done↔i < (gr s).length) (h:TInv (gr s) done Dig.zero [] [] m):Turned (Go.Proofs.ndS s) (ids s) (m.map fun e=>(e.1,e.2.1)):=by
 have hl:=gr_len v.asc
 have hval: ∀ x,ndT m x=lstT (gr s) done x:=fun x=>by have:=h.val x;simpa using this
 refine⟨fun d=>?_,fun x y=>?_,fun x=>?_⟩
 ·rw[mGet_map,Option.isSome_map]
  have:=h.is d
  by_cases hd2:d∈ids s
  ·obtain⟨x,hx,rfl⟩:=List.mem_map.1 hd2
   obtain⟨i,hi,rfl⟩:=List.mem_iff_getElem.1 hx
   rw[decide_eq_true hd2]
   exact this.2 (.inl ⟨i,(hd i).2 (by omega),.inl (gK_gr v.asc hi).1.symm⟩)
  ·rw[decide_eq_false hd2]
   cases hm:(mGet d m).isSome with
   |false=>rfl
   |true=>
    rcases this.1 hm with ⟨i,hi,h2⟩|h2
    ·have hi2:i < s.length:=by have:=(hd i).1 hi;omega
     obtain⟨e1,e2⟩:=gK_gr v.asc hi2
     rcases h2 with h2|h2
     ·exact absurd (by rw[h2,e1];exact List.mem_map.2 ⟨s[i],List.getElem_mem hi2,rfl⟩) hd2
     ·rw[e2]at h2
      exact absurd (v.close.2 _ (List.getElem_mem hi2) d h2) hd2
    ·cases h2
 ·rw[ndG_map,hval]
  unfold lstT
  constructor
  ·intro hy
   obtain⟨i,hi,rfl⟩:=List.mem_map.1 hy
   obtain⟨h1,h2⟩:=List.mem_filter.1 hi
   have hi2:i < s.length:=by have:=(hd i).1 h1;omega
   obtain⟨e1,e2⟩:=gK_gr v.asc hi2
   have h2:=of_decide_eq_true h2
   rw[e2]at h2
   rw[e1]
   exact⟨List.mem_map.2 ⟨s[i],List.getElem_mem hi2,rfl⟩,by rw[v.ndS (List.getElem_mem hi2)];exact h2⟩
  ·rintro⟨hy,hx⟩
   obtain⟨z,hz,rfl⟩:=List.mem_map.1 hy
   obtain⟨i,hi,rfl⟩:=List.mem_iff_getElem.1 hz
   obtain⟨e1,e2⟩:=gK_gr v.asc hi
   rw[v.ndS hz]at hx
   exact List.mem_map.2 ⟨i,List.mem_filter.2 ⟨(hd i).2 (by omega),decide_eq_true (by rw[e2];exact hx)⟩,e1⟩
 ·rw[ndG_map]
  have h1:=h.len x
  have h2:=done_len hn (n:=(gr s).length) fun i hi=>(hd i).1 hi
  have:=v.close.1.1
  omega
theorem needs_len {s:List Sto} (v:Valid s) {x:Sto} (hx:x∈s):(rNeeds x.patch).length≤40:=by
 have h1:=nodup_len (rNeeds_asc x.patch).nodup (fun d hd=>v.close.2 x hx d hd)
 have:=v.close.1.1
 rw[ids_len]at h1
 omega
theorem pcalls_le {P:Program} {f:FuncId} {args:List PV} {L:List Res} {R R':PV→List Res→Prop} (h:PCalls P f args L R) (hr: ∀ x L',R x L'→ ∃ y,Le x y∧R' y L'):PCalls P f args L R':=by
 unfold PCalls at h ⊢
 intro vs w g LF hv hi
 refine(h vs w g LF hv hi).mono ?_
 rintro e w' ⟨v,x,g',L',h1,h2,h3,h4,h5,h6⟩
 obtain⟨y,hy,h7⟩:=hr x L' h6
 exact⟨v,y,g',L',h1,hy g' v h2,h3,h4,h5,h7⟩
theorem turnedV_fn (s:List Sto) (v:Valid s):PCalls Tryz.prog 97 [.fmap (eMap kDig (vSl eDig) (gr s))] [] (fun r L'=>(∃ T,r= .fmap (eMap kDig (vSl eDig) T)∧Turned (ndS s) (ids s) T)∧L'= []):=by
 have hl:=gr_len v.asc
 have h40:=v.close.1.1
 refine pcalls_le (turned_fn (gr s) (by omega) (fun i=>?_) (fun i=>?_)) ?_
 ·by_cases hi:i < s.length
  ·rw[(gK_gr v.asc hi).2];exact(rNeeds_asc _).nodup
  ·rw[gV_out v.asc hi];exact .nil
 ·by_cases hi:i < s.length
  ·rw[(gK_gr v.asc hi).2];have:=needs_len v (List.getElem_mem hi);omega
  ·rw[gV_out v.asc hi];simp
 ·rintro x L' ⟨⟨m,done,rfl,h1,h2,h3⟩,rfl⟩
  exact⟨_,le_tg m,⟨_,rfl,v.turned_of h1 h2 h3⟩,rfl⟩
set_option maxHeartbeats 1000000 in
instance UsersP_ct (s:List Sto) (l:List Dig) (t u:Tag) [hs:Small (Valid s)] [hl:Small (l.length≤400)]:FnC Tryz.prog 48 [.slice (s.map eSto) t,.slice (l.map eDig) u] (.tuple [.slice ((rUsers s l).1.map eDig) .ro,.raw (.int .i64 (rUsers s l).2)]):=⟨by
 have v:=hs.out
 have h40:=v.close.1.1
 have i1:Small (goodS s):=⟨v.close.1⟩
 refine fn_of Tryz.func48 Tryz.ntmps48 rfl (rs:= [.tmp 4,.tmp 5]) rfl rfl fun hb LF=>?_
 refine wf ?_
 refine s_callR (xs:= [.tmp 10]) [] LF (f:=97) (cs:= []) (le_func _) rfl rfl (.refl _) _ (turnedV_fn s v) fun r L' ⟨⟨T,e1,hT⟩,e2⟩=>?_
 subst e1;rw[e2,List.nil_append]
 obtain⟨e1,e2⟩:=v.turned hT l
 have i2:=fun t=>reached_fn T (ids s) (hT.ok (by rw[ids_len];omega)) l t hl.out
 refine wf ?_
 refine pwp_condB (fun h=>?_) (fun h=>?_)
 ·have h0:(clG T (ids s) l).2=false:=by simpa using h
  rw[if_pos h0]at e2
  have e3:(rUsers s l).1= []:=by
   unfold rUsers at e2 ⊢
   split
   ·rfl
   ·rename_i h3
    rw[if_neg h3]at e2
    simp at e2
  refine wf ?_
  refine end2 ?_
  rw[e2,e3]
  exact .tuple2 (.ro _ _) (.refl _)
 ·have h0:(clG T (ids s) l).2=true:=by simpa using h
  rw[h0]at e2
  simp at e2
  refine wf ?_
  refine end2 ?_
  rw[e2,←e1]
  exact .refl _⟩
instance KnowsP_ct (s:List Sto) (p q:Dig) (t:Tag) [hs:Small (Valid s)]:FnC Tryz.prog 49 [.slice (s.map eSto) t,.agg (eDig p),.agg (eDig q)] (.raw (.bool (rKnows s p q))):=⟨by
 have v:=hs.out
 have cx:=fun t u=>ClosureP_ct s [p] t u (hl:=⟨by simp⟩)
 rw[v.knows]
 refine fn_of Tryz.func49 Tryz.ntmps49 rfl (rs:= [.tmp 6]) rfl rfl fun hb LF=>?_
 refine wf ?_
 refine pops_if (fun hp=>?_) (fun hp=>?_)
 ·refine wf ?_
  refine end1 (.of_eq ?_)
  rw[hp];rfl
 ·refine wf ?_
  refine end1 (.of_eq ?_)
  rw[hp];rfl⟩
end Go.Proofs
namespace Go.Proofs
open Go Go.Q
attribute [local irreducible] pwp pops PCalls OpN
instance supers_ct (k:Int):FnC Tryz.prog 152 [.raw (.int .i64 k)] (.raw (.int .i64 (ovK k))):=⟨by
 refine fn_of Tryz.func152 Tryz.ntmps152 rfl (rs:= [.tmp 2]) rfl rfl fun hb LF=>?_
 refine wf ?_
 repeat' (first|(refine pwp_condD (fun h=>?_) (fun h=>?_)<;>refine wf ?_)|(refine pwp_condN (fun h=>?_) (fun h=>?_)<;>refine wf ?_)|(refine pwp_condB (fun h=>?_) (fun h=>?_)<;>refine wf ?_)|(refine pops_if (fun h=>?_) (fun h=>?_)<;>(have h2:=h;(try simp only[decide_eq_true_eq,decide_eq_false_iff_not,Bool.not_eq_true',Bool.not_eq_false']at h2);refine wf ?_)))
 all_goals (refine end1 (.of_eq ?_);simp only[ovK];first|(simp_all;done)|grind)⟩
def ffP (k:Int) (a:Atm):Bool:=if a.kind≠1 then false else if k=5∨k=6 then decide (a.type=1)else if k=4 then decide (a.type=2∨a.type=3)else true
instance fitsFile_ct (k:Int) (a:Atm):FnC Tryz.prog 149 [.raw (.int .i64 k),.agg (eAtm a)] (.raw (.bool (ffP k a))):=⟨by
 refine fn_of Tryz.func149 Tryz.ntmps149 rfl (rs:= [.tmp 4]) rfl rfl fun hb LF=>?_
 refine wf ?_
 repeat' (first|(refine pwp_condD (fun h=>?_) (fun h=>?_)<;>refine wf ?_)|(refine pwp_condN (fun h=>?_) (fun h=>?_)<;>refine wf ?_)|(refine pwp_condB (fun h=>?_) (fun h=>?_)<;>refine wf ?_)|(refine pops_if (fun h=>?_) (fun h=>?_)<;>(have h2:=h;(try simp only[decide_eq_true_eq,decide_eq_false_iff_not,Bool.not_eq_true',Bool.not_eq_false']at h2);refine wf ?_)))
 all_goals (refine end1 (.of_eq ?_);simp only[ffP];first|(simp_all;done)|grind)⟩
def sf4 (x f g:Ident) (a:Atm):Bool:=decide (x=f)||(decide (a.kind=5)&&decide (a.file=g))
def sf5 (k:Int) (g:Ident) (a:Atm):Bool:=decide (k=0)||(decide (a.kind=k)&&decide (a.file=g))
instance sf2_ct (c:Chg) (a:Atm):FnC Tryz.prog 148 [.agg (eAtm a),.pt (eChg c) 0] (.raw (.bool (ffP c.kind a))):=⟨by
 refine fn_of Tryz.func148 Tryz.ntmps148 rfl (rs:= [.tmp 3]) rfl rfl fun hb LF=>?_
 refine wf ?_
 exact end1 (.refl _)⟩
instance sf3_ct (a:Atm):FnC Tryz.prog 150 [.agg (eAtm a)] (.raw (.bool (pf5 a))):=⟨by
 refine fn_of Tryz.func150 Tryz.ntmps150 rfl (rs:= [.tmp 2]) rfl rfl fun hb LF=>?_
 refine wf ?_
 repeat' (first|(refine pwp_condD (fun h=>?_) (fun h=>?_)<;>refine wf ?_)|(refine pwp_condN (fun h=>?_) (fun h=>?_)<;>refine wf ?_)|(refine pwp_condB (fun h=>?_) (fun h=>?_)<;>refine wf ?_)|(refine pops_if (fun h=>?_) (fun h=>?_)<;>(have h2:=h;(try simp only[decide_eq_true_eq,decide_eq_false_iff_not,Bool.not_eq_true',Bool.not_eq_false']at h2);refine wf ?_)))
 all_goals (refine end1 (.of_eq ?_);simp only[pf5];first|(simp_all;done)|grind)⟩
instance sf4_ct (x g:Ident) (c:Chg) (a:Atm):FnC Tryz.prog 151 [.agg (eAtm a),.pt (eIdent x) 0,.pt (eChg c) 0,.pt (eIdent g) 0] (.raw (.bool (sf4 x c.file g a))):=⟨by
 refine fn_of Tryz.func151 Tryz.ntmps151 rfl (rs:= [.tmp 5]) rfl rfl fun hb LF=>?_
 refine wf ?_
 repeat' (first|(refine pwp_condD (fun h=>?_) (fun h=>?_)<;>refine wf ?_)|(refine pwp_condN (fun h=>?_) (fun h=>?_)<;>refine wf ?_)|(refine pwp_condB (fun h=>?_) (fun h=>?_)<;>refine wf ?_)|(refine pops_if (fun h=>?_) (fun h=>?_)<;>(have h2:=h;(try simp only[decide_eq_true_eq,decide_eq_false_iff_not,Bool.not_eq_true',Bool.not_eq_false']at h2);refine wf ?_)))
 all_goals (refine end1 (.of_eq ?_);simp only[sf4];first|(simp_all;done)|grind)⟩
instance sf5_ct (k:Int) (g:Ident) (a:Atm):FnC Tryz.prog 153 [.agg (eAtm a),.pt [.raw (.int .i64 k)] 0,.pt (eIdent g) 0] (.raw (.bool (sf5 k g a))):=⟨by
 refine fn_of Tryz.func153 Tryz.ntmps153 rfl (rs:= [.tmp 4]) rfl rfl fun hb LF=>?_
 refine wf ?_
 repeat' (first|(refine pwp_condD (fun h=>?_) (fun h=>?_)<;>refine wf ?_)|(refine pwp_condN (fun h=>?_) (fun h=>?_)<;>refine wf ?_)|(refine pwp_condB (fun h=>?_) (fun h=>?_)<;>refine wf ?_)|(refine pops_if (fun h=>?_) (fun h=>?_)<;>(have h2:=h;(try simp only[decide_eq_true_eq,decide_eq_false_iff_not,Bool.not_eq_true',Bool.not_eq_false']at h2);refine wf ?_)))
 all_goals (refine end1 (.of_eq ?_);simp only[sf5];first|(simp_all;done)|grind)⟩
def putR (l:List Rfc) (r:Rfc):List Rfc:=if r.id.patch=Dig.zero then l else l++ [r]
def addS (b:Nat) (l:List Rfc) (t:Tag):List Res:= [.box b 143 [.slice (l.map eRfc) t],.tok t l.length 34]
set_option maxHeartbeats 1000000 in
theorem addS_fn (x:Ident) (f:Nat) (cs:List PV) (b:Nat) (l:List Rfc) (t:Tag) (hl:l.length≤1000000):
  PCalls Tryz.prog 147 [.agg (eIdent x),.clo f cs,.raw (.pointer (some ⟨b,0,none⟩))] (addS b l t) (fun _ L'=> ∃ t',L'=addS b (putR l ⟨x,f,cs⟩) t'):=by
 refine pcalls_bd Tryz.func147 rfl Tryz.ntmps147 (rs:= []) rfl rfl fun hb LF=>?_
 rw[show addS b l t++LF= .box b 143 [.slice (l.map eRfc) t]:: .tok t l.length 34::LF from rfl]
 refine wf ?_
 refine pwp_condN (fun h=>?_) (fun h=>?_)
 ·refine wfa fun t'=>?_
  exact⟨trivial,[],addS b (l++ [⟨x,f,cs⟩]) t',.nil,.refl _,t',by rw[putR,if_neg h]⟩
 ·refine wf ?_
  have h0:x.patch=Dig.zero:=by simpa using h
  exact⟨trivial,[],addS b l t,.nil,.refl _,t,by rw[putR,if_pos h0]⟩
end Go.Proofs
namespace Go.Proofs
open Go Go.Q
attribute [local irreducible] pwp pops PCalls OpN
section
variable {N:Nat} {all:Array Oper} {K:Env→List Res→Prop} {fl:List Bool} {os:List Oper} {ρ:Env} {L:List Res} {Q:PPost} {c:Code} {d:Nat} {ty:TypeId} {pos:String} {af:Array Edge}
theorem j_addS {x x0 x1:Operand} {ats:Array TypeId} {b f:Nat} {l:List Rfc} {t:Tag} {id:Ident} {cs:List PV} {a1:PV} {LF:List Res}
  (qx:ρ.ev x= .clo 147 [.raw (.pointer (some ⟨b,0,none⟩))]) (q0:ρ.ev x0= .agg (eIdent id)) (q1:ρ.ev x1=a1) [h1:IsClo a1 f cs] (hl:l.length≤1000000)
  (k: ∀ t' u,pops Tryz.prog N all K fl.tail os (upd ρ d u) (.box b 143 [.slice ((putR l (Rfc.mk id f cs)).map eRfc) t']:: .tok t' (putR l (Rfc.mk id f cs)).length 34::LF)) (hd:Nat.blt d N=true:=by rfl) (hfl:fl.headD true=true:=by rfl):
  pops Tryz.prog N all K fl (⟨some d,.call { callee:= .value x,args:= #[x0,x1],argTypes:=ats },ty,pos,af,none⟩::os) ρ (.box b 143 [.slice (l.map eRfc) t]:: .tok t l.length 34::LF):=
 s_callR (xs:= [x0,x1]) (addS b l t) LF (.of_eq qx) rfl rfl (.refl _) (fun _ L'=> ∃ t',L'=addS b (putR l ⟨id,f,cs⟩) t')
  (PCalls.args (bs:= [.agg (eIdent id),.clo f cs,.raw (.pointer (some ⟨b,0,none⟩))]) rfl (fun i g1 g2=>by
   match i,g1,g2 with
   |0,_,_=>exact .of_eq q0
   |1,_,_=>show Le (ρ.ev x1) _;rw[q1];exact h1.out
   |2,_,_=>exact .refl _
   |m+3,g1,_=>exact absurd g1 (by simp)) (addS_fn id f cs b l t hl)) (fun r L' ⟨t',e⟩=>by subst e;exact k t' r) hd hfl
end
theorem putR_len (l:List Rfc) (r:Rfc):(putR l r).length≤l.length+1:=by unfold putR;split<;>simp
def fileS (id:Dig) (c:Chg):Ident:=if c.file.patch=Dig.zero then { c.file with patch:=id }else c.file
def rs1 (c:Chg):List Rfc:=if c.kind≠1∧c.kind≠7 then putR [] ⟨c.file,148,[.pt (eChg c) 0]⟩else []
def rs2 (c:Chg) (l:List Rfc):List Rfc:=if c.kind=2 then putR l ⟨c.parent,150,[]⟩else l
def end1R (g:Ident) (c:Chg) (x:Ident):Rfc:=⟨x,151,[.pt (eIdent x) 0,.pt (eChg c) 0,.pt (eIdent g) 0]⟩
def rs3 (g:Ident) (c:Chg) (l:List Rfc):List Rfc:=if c.kind=5∨c.kind=6 then [c.after,c.before].foldl (fun l x=>putR l (end1R g c x)) l else l
def over1R (g:Ident) (c:Chg) (x:Ident):Rfc:=⟨x,153,[.pt [.raw (.int .i64 (ovK c.kind))] 0,.pt (eIdent g) 0]⟩
def rs4 (g:Ident) (c:Chg) (l:List Rfc) (o:List Ident):List Rfc:=o.foldl (fun l x=>putR l (over1R g c x)) l
def refsS (id:Dig) (c:Chg):List Rfc:=rs4 (fileS id c) c (rs3 (fileS id c) c (rs2 c (rs1 c))) c.over
theorem foldR_len' {α:Type} (f:α→Rfc): ∀ (o:List α) (l:List Rfc),(o.foldl (fun l x=>putR l (f x)) l).length≤l.length+o.length
 | [],l=>by simp
 |x::o,l=>by
  have:=foldR_len' f o (putR l (f x))
  have:=putR_len l (f x)
  simp only[List.foldl_cons,List.length_cons]
  omega
theorem rs1_len (c:Chg):(rs1 c).length≤1:=by
 unfold rs1;split
 ·exact putR_len _ _
 ·simp
theorem rs2_len (c:Chg) (l:List Rfc):(rs2 c l).length≤l.length+1:=by
 unfold rs2;split
 ·exact putR_len _ _
 ·omega
theorem rs3_len (g:Ident) (c:Chg) (l:List Rfc):(rs3 g c l).length≤l.length+2:=by
 unfold rs3;split
 ·exact foldR_len' _ _ _
 ·omega
set_option maxHeartbeats 4000000 in
instance referencesS_ct (id:Dig) (c:Chg) [hs:Small (c.over.length≤400)]:FnC Tryz.prog 114 [.agg (eDig id),.agg (eChg c)] (.slice ((refsS id c).map eRfc) .ro):=⟨by
 have hover:=hs.out
 have r1:=rs1_len c
 have r2:=rs2_len c (rs1 c)
 have r3:=rs3_len (fileS id c) c (rs2 c (rs1 c))
 refine fn_of Tryz.func114 Tryz.ntmps114 rfl (rs:= [.tmp 4]) rfl rfl fun hb LF=>?_
 refine wf ?_
 refine s_alloc fun b5=>?_
 refine wf ?_
 refine pwp_join True [(2,.pt (eDig id) 0),(3,.pt (eChg c) 0),(5,.raw (.pointer (some ⟨b5,0,none⟩)))] (.box b5 73 (eIdent (fileS id c))::LF) ?_ fun _=>?_
 ·refine pwp_condD (fun h=>?_) (fun h=>?_)
  ·refine wf ?_
   rw[fileS,if_pos h]
   exact⟨trivial,⟨rfl,rfl,rfl⟩,.refl _⟩
  ·refine wf ?_
   rw[fileS,if_neg h]
   exact⟨trivial,⟨rfl,rfl,rfl⟩,.refl _⟩
 generalize hg:fileS id c=g at r3 ⊢
 refine pwp_freezeD 5 ?_
 refine wf ?_
 refine s_alloc fun b6=>?_
 refine wo ?_
 refine pops_nil ?_
 refine pwp_tok 34 ?_
 refine pwp_perm (.swap _ _ _) ?_
 refine ws ?_
 refine pops_cutE [(29,.raw (.bool (decide (c.kind≠1∧c.kind≠7)))),(3,.pt (eChg c) 0),(5,.pt (eIdent g) 0),(6,.raw (.pointer (some ⟨b6,0,none⟩))),(7,.clo 147 [.raw (.pointer (some ⟨b6,0,none⟩))])] (.box b6 143 [.slice [] .nil]:: .tok .nil 0 34::LF) ?_ ?_
 ·repeat' (first|(refine pwp_condD (fun h=>?_) (fun h=>?_)<;>refine wf ?_)|(refine pwp_condN (fun h=>?_) (fun h=>?_)<;>refine wf ?_)|(refine pwp_condB (fun h=>?_) (fun h=>?_)<;>refine wf ?_)|(refine pops_if (fun h=>?_) (fun h=>?_)<;>(have h2:=h;(try simp only[decide_eq_true_eq,decide_eq_false_iff_not,Bool.not_eq_true',Bool.not_eq_false']at h2);refine wf ?_)))
  all_goals (refine⟨⟨holdsB (by rfl) ?_,rfl,rfl,rfl,rfl⟩,.refl _⟩;first|(simp_all;done)|grind)
 refine pwp_joinG (σ:=List Rfc × Tag) (fun s=>s.1=rs1 c) (fun s=> [(3,.pt (eChg c) 0),(5,.pt (eIdent g) 0),(6,.raw (.pointer (some ⟨b6,0,none⟩))),(7,.clo 147 [.raw (.pointer (some ⟨b6,0,none⟩))])]) (fun s=> .box b6 143 [.slice (s.1.map eRfc) s.2]:: .tok s.2 s.1.length 34::LF) ?_ ?_
 ·refine pwp_condD (fun h=>?_) (fun h=>?_)
  ·refine wf ?_
   refine j_addS (l:= []) rfl rfl (by(conv=>lhs;whnf);done) (h1:=(by first|infer_instance|fail)) (by simp) fun t' u=>?_
   refine wf ?_
   exact⟨(putR [] ⟨c.file,148,[.pt (eChg c) 0]⟩,t'),by rw[rs1,if_pos h],⟨rfl,rfl,rfl,rfl⟩,.refl _⟩
  ·refine wf ?_
   exact⟨([],.nil),by rw[rs1,if_neg h],⟨rfl,rfl,rfl,rfl⟩,.refl _⟩
 rintro⟨l1,t1⟩ hl1
 dsimp only at hl1 ⊢
 have k1:l1.length≤1:=by rw[hl1];exact r1
 rw[←hl1]at r2 r3
 refine wf ?_
 refine pwp_joinG (σ:=List Rfc × Tag) (fun s=>s.1=rs2 c l1) (fun s=> [(3,.pt (eChg c) 0),(5,.pt (eIdent g) 0),(6,.raw (.pointer (some ⟨b6,0,none⟩))),(7,.clo 147 [.raw (.pointer (some ⟨b6,0,none⟩))])]) (fun s=> .box b6 143 [.slice (s.1.map eRfc) s.2]:: .tok s.2 s.1.length 34::LF) ?_ ?_
 ·refine pwp_condD (fun h=>?_) (fun h=>?_)
  ·refine wf ?_
   refine j_addS rfl rfl (by(conv=>lhs;whnf);done) (h1:=(by first|infer_instance|fail)) (by omega) fun t' u=>?_
   refine wf ?_
   exact⟨(putR l1 ⟨c.parent,150,[]⟩,t'),by rw[rs2,if_pos h],⟨rfl,rfl,rfl,rfl⟩,.refl _⟩
  ·refine wf ?_
   exact⟨(l1,t1),by rw[rs2,if_neg h],⟨rfl,rfl,rfl,rfl⟩,.refl _⟩
 rintro⟨l2,t2⟩ hl2
 dsimp only at hl2 ⊢
 rw[←hl2]at r2 r3
 refine ws ?_
 refine pops_cutE [(49,.raw (.bool (decide (c.kind=5∨c.kind=6)))),(3,.pt (eChg c) 0),(5,.pt (eIdent g) 0),(6,.raw (.pointer (some ⟨b6,0,none⟩))),(7,.clo 147 [.raw (.pointer (some ⟨b6,0,none⟩))])] (.box b6 143 [.slice (l2.map eRfc) t2]:: .tok t2 l2.length 34::LF) ?_ ?_
 ·repeat' (first|(refine pwp_condD (fun h=>?_) (fun h=>?_)<;>refine wf ?_)|(refine pwp_condN (fun h=>?_) (fun h=>?_)<;>refine wf ?_)|(refine pwp_condB (fun h=>?_) (fun h=>?_)<;>refine wf ?_)|(refine pops_if (fun h=>?_) (fun h=>?_)<;>(have h2:=h;(try simp only[decide_eq_true_eq,decide_eq_false_iff_not,Bool.not_eq_true',Bool.not_eq_false']at h2);refine wf ?_)))
  all_goals (refine⟨⟨holdsB (by rfl) ?_,rfl,rfl,rfl,rfl⟩,.refl _⟩;first|(simp_all;done)|grind)
 refine pwp_joinG (σ:=List Rfc × Tag) (fun s=>s.1=rs3 g c l2) (fun s=> [(3,.pt (eChg c) 0),(5,.pt (eIdent g) 0),(6,.raw (.pointer (some ⟨b6,0,none⟩))),(7,.clo 147 [.raw (.pointer (some ⟨b6,0,none⟩))])]) (fun s=> .box b6 143 [.slice (s.1.map eRfc) s.2]:: .tok s.2 s.1.length 34::LF) ?_ ?_
 ·refine pwp_condD (fun h=>?_) (fun h=>?_)
  ·refine wf ?_
   refine pwp_loopS (σ:=Nat × List Rfc × Tag) (fun k=>k.1≤2∧k.2.1=([c.after,c.before].take k.1).foldl (fun l x=>putR l (end1R g c x)) l2) (fun k=>2 - k.1) (fun k=> [(3,.pt (eChg c) 0),(5,.pt (eIdent g) 0),(6,.raw (.pointer (some ⟨b6,0,none⟩))),(7,.clo 147 [.raw (.pointer (some ⟨b6,0,none⟩))]),(54,.slice ([c.after,c.before].map eIdent) .ro),(55,.raw (.int .i64 2)),(56,.raw (.int .i64 k.1))]) (fun k=> .box b6 143 [.slice (k.2.1.map eRfc) k.2.2]:: .tok k.2.2 k.2.1.length 34::LF) (0,l2,t2) ⟨by simp,rfl⟩ ⟨rfl,rfl,rfl,rfl,rfl,rfl,rfl⟩ (.refl _) ?_
   rintro⟨k,m,t3⟩ ⟨hk,hm⟩
   dsimp only at hk hm ⊢
   have hml:m.length≤10:=by
    have:=foldR_len' (end1R g c) ([c.after,c.before].take k) l2
    rw[←hm,List.length_take]at this
    simp only[List.length_cons,List.length_nil]at this
    omega
   refine wf ?_
   refine pwp_condD (fun hc=>?_) (fun hc=>?_)
   ·have hlt:k < [c.after,c.before].length:=by simp only[List.length_cons,List.length_nil];omega
    refine wz fun b9=>?_
    refine pwp_freezeD 9 ?_
    refine wf ?_
    refine j_addS rfl rfl (by(conv=>lhs;whnf);done) (h1:=(by first|infer_instance|fail)) (by omega) fun t' u=>?_
    refine wf ?_
    refine⟨(k+1,putR m (end1R g c [c.after,c.before][k]),t'),⟨by dsimp only;omega,?_⟩,by dsimp only;omega,⟨rfl,rfl,rfl,rfl,rfl,rfl,rfl⟩,.refl _⟩
    dsimp only
    rw[List.take_succ_eq_append_getElem hlt,List.foldl_append,←hm];rfl
   ·rw[List.take_of_length_le (by simp only[List.length_cons,List.length_nil];omega)]at hm
    refine wf ?_
    exact⟨(m,t3),by rw[rs3,if_pos h];exact hm,⟨rfl,rfl,rfl,rfl⟩,.refl _⟩
  ·refine wf ?_
   exact⟨(l2,t2),by rw[rs3,if_neg h],⟨rfl,rfl,rfl,rfl⟩,.refl _⟩
 rintro⟨l3,t3⟩ hl3
 dsimp only at hl3 ⊢
 rw[←hl3]at r3
 refine wf ?_
 refine s_alloc fun b10=>?_
 refine wo ?_
 refine pops_nil ?_
 refine pwp_freezeD 10 ?_
 refine wf ?_
 refine pwp_loopS (σ:=Nat × List Rfc × Tag) (fun k=>k.1≤c.over.length∧k.2.1=rs4 g c l3 (c.over.take k.1)) (fun k=>c.over.length - k.1) (fun k=> [(5,.pt (eIdent g) 0),(6,.raw (.pointer (some ⟨b6,0,none⟩))),(7,.clo 147 [.raw (.pointer (some ⟨b6,0,none⟩))]),(10,.pt [.raw (.int .i64 (ovK c.kind))] 0),(69,.slice (c.over.map eIdent) .ro),(70,.raw (.int .i64 c.over.length)),(71,.raw (.int .i64 k.1))]) (fun k=> .box b6 143 [.slice (k.2.1.map eRfc) k.2.2]:: .tok k.2.2 k.2.1.length 34::LF) (0,l3,t3) ⟨by simp,rfl⟩ ⟨rfl,rfl,rfl,rfl,rfl,rfl,rfl⟩ (.refl _) ?_
 rintro⟨k,m,t4⟩ ⟨hk,hm⟩
 dsimp only at hk hm ⊢
 have hml:m.length≤1000:=by
  have:=foldR_len' (over1R g c) (c.over.take k) l3
  rw[List.length_take]at this
  have e:m.length=((c.over.take k).foldl (fun l x=>putR l (over1R g c x)) l3).length:=by rw[hm];rfl
  omega
 refine wf ?_
 refine pwp_condD (fun hc=>?_) (fun hc=>?_)
 ·have hlt:k < c.over.length:=by omega
  refine wz fun b12=>?_
  refine pwp_freezeD 12 ?_
  refine wf ?_
  refine j_addS rfl rfl (by(conv=>lhs;whnf);done) (h1:=(by first|infer_instance|fail)) (by omega) fun t' u=>?_
  refine wf ?_
  refine⟨(k+1,putR m (over1R g c c.over[k]),t'),⟨by dsimp only;omega,?_⟩,by dsimp only;omega,⟨rfl,rfl,rfl,rfl,rfl,rfl,rfl⟩,.refl _⟩
  dsimp only
  rw[List.take_succ_eq_append_getElem hlt,rs4,List.foldl_append,hm];rfl
 ·rw[List.take_of_length_le (by omega)]at hm
  refine wf ?_
  refine end1 (.ros ?_)
  rw[hm,refsS,hg,←hl1,←hl2,←hl3]⟩
end Go.Proofs
namespace Go.Proofs
open Go Go.Q
attribute [local irreducible] pwp pops PCalls OpN
instance trw_Atm:TRw Tryz.prog 120 130 172 296:=⟨by
 have h2:(Tryz.prog.info? 130).map (fun i=>(i.size,i.bytes,i.zero.isSome,(i.zero.getD undef).cells.size))=some (172,296,true,172):=by kernel_rfl
 obtain⟨i,hi,e⟩:=Option.map_eq_some_iff.1 h2
 simp only[Prod.mk.injEq]at e
 obtain⟨e1,e2,e3,e4⟩:=e
 obtain⟨z,hz⟩:=Option.isSome_iff_exists.1 e3
 rw[hz]at e4
 exact⟨i,z,by kernel_rfl,hi,e1,e2,hz,e4,by decide,by decide⟩⟩
def bxA (b:Nat) (v:Value) (R LF:List Res):List Res:= .box b 120 [.raw v]::(R++LF)
set_option maxHeartbeats 2000000 in
theorem examineB_fn (p:Pat) (hs:rBig p=false):PCalls Tryz.prog 88 [.agg (ePat p)] [] (fun r L'=> ∃ x y,r= .tuple [x,y,.raw (.int .i64 (rEx p).2.2)]∧(((rEx p).2.2≠0∧L'= [])∨((rEx p).2.2=0∧ ∃ v,x= .raw v∧RowB 130 172 v ((rEx p).1.map eAtm) L'∧(rEx p).1.length≤100000))):=by
 obtain⟨hg1,hg2,hg3,hg4,hg5⟩:=big_facts hs
 refine pcalls_bd Tryz.func88 rfl Tryz.ntmps88 (rs:= [.tmp 2,.tmp 3,.tmp 4]) rfl rfl fun hb LF=>?_
 have zr:ZeroE Tryz.prog 120 [.raw (.slice none 0 0)]:=zero1 (v:= .slice none 0 0) (by kernel_rfl) rfl fun _=> .raw _
 refine wf ?_
 refine pwp_condN (fun h1=>?_) (fun h1=>?_)
 ·refine wf ?_
  have e:rCheckP p=([],rHead p):=by rw[checkP_head,if_pos h1]
  have e2:rEx p=([],[],rHead p):=by rw[rEx,e,if_pos h1]
  rw[e2]
  exact⟨trivial,_,[],.cons (.tmp 2) (.cons (.tmp 3) (.cons (.tmp 4) .nil)),.refl _,_,_,rfl,.inl ⟨h1,rfl⟩⟩
 have hH:=rCheckP_ok h1
 refine wf ?_
 refine s_alloc (hZ:=zr) fun b6=>?_
 refine wf ?_
 refine pwp_loopS (σ:=Nat × Value × List Res × List Atm) (fun k=>k.1≤p.changes.length∧RowB 130 172 k.2.1 (k.2.2.2.map eAtm) k.2.2.1∧k.2.2.2.length≤k.1*81∧idsOk k.2.2.2∧(∀ c∈p.changes.take k.1,1≤c.kind∧c.kind≤7)∧rCheckP p=rChanges (p.changes.drop k.1) k.2.2.2) (fun k=>p.changes.length - k.1) (fun k=> [(1,.pt (ePat p) 0),(6,.raw (.pointer (some ⟨b6,0,none⟩))),(20,.slice (p.changes.map eChg) .ro),(21,.raw (.int .i64 p.changes.length)),(22,.raw (.int .i64 k.1))]) (fun k=>bxA b6 k.2.1 k.2.2.1 LF) (0,.slice none 0 0,[],[]) ⟨by simp,.nil none (by simp),by simp,fun i h=>absurd h (by simp),by simp,hH⟩ ⟨rfl,rfl,rfl,rfl,rfl⟩ (.refl _) ?_
 rintro⟨k,v,R,own⟩ ⟨hk,hrow,hlen,hid,hkd,he⟩
 dsimp only at hk hrow hlen hid hkd he
 rw[show bxA b6 (k,v,R,own).2.1 (k,v,R,own).2.2.1 LF= .box b6 120 [.raw v]::(R++LF) from rfl]
 refine wf ?_
 refine pwp_condD (fun hc=>?_) (fun hc=>?_)
 ·have hlt:k < p.changes.length:=by omega
  rw[rChanges_step hlt]at he
  refine wz fun b8=>?_
  refine pwp_freezeD 8 ?_
  refine wf ?_
  refine pwp_condN (fun h2=>?_) (fun h2=>?_)
  ·refine wf ?_
   rw[if_pos h2]at he
   have e2:rEx p=([],[],rFields p.changes[k]):=by rw[rEx,he,if_pos h2]
   rw[e2]
   exact⟨trivial,_,[],.cons (.tmp 2) (.cons (.tmp 3) (.cons (.tmp 4) .nil)),.cons _ (List.sublist_append_right R LF),_,_,rfl,.inl ⟨h2,rfl⟩⟩
  rw[if_neg (by simp[h2])]at he
  have hll:p.changes[k].lines.length≤2000:=rFields_lines h2
  have hkk:1≤p.changes[k].kind∧p.changes[k].kind≤7:=rFields_kind h2
  have hmm:=rMade_len p.changes[k] own.length
  have hl40:=(hg5 _ (List.getElem_mem hlt)).lines
  have i1:Small (rFields p.changes[k]=0∧own.length≤100000∧idsOk own):=⟨h2,by omega,hid⟩
  have hmx:(own.map eAtm).length≤maxN∧(own.map eAtm).length*172≤maxN:=by
   have:maxN=140737488355328:=rfl
   rw[List.length_map];omega
  refine wf ?_
  refine s_callR (xs:= [.tmp 31,.tmp 32]) R (.box b6 120 [.raw v]::LF) (f:=124) (cs:= []) (le_func _) rfl rfl List.perm_middle.symm _ (hrow.lend [.agg (eChg p.changes[k])] [] hmx (inferInstance:FnC Tryz.prog 124 [.agg (eChg p.changes[k]),.slice (own.map eAtm) .ro] (.raw (.int .i64 (rRefs p.changes[k] own)))).out) fun r L' ⟨e1,e2⟩=>?_
  subst e1
  rw[e2]
  refine wf ?_
  refine wf ?_
  refine pwp_perm List.perm_middle ?_
  refine pwp_condN (fun h3=>?_) (fun h3=>?_)
  ·refine wf ?_
   rw[if_pos h3]at he
   have e2:rEx p=([],[],rRefs p.changes[k] own):=by rw[rEx,he,if_pos h3]
   rw[e2]
   exact⟨trivial,_,[],.cons (.tmp 2) (.cons (.tmp 3) (.cons (.tmp 4) .nil)),.cons _ (List.sublist_append_right R LF),_,_,rfl,.inl ⟨h3,rfl⟩⟩
  rw[if_neg (by simp[h3])]at he
  have hrow':=hrow
  obtain⟨⟨o,cc,ev⟩,_⟩:=hrow.slice
  rw[List.length_map]at ev
  subst ev
  refine wf ?_
  refine s_lenR rfl ?_
  refine wf ?_
  refine pwp_rangeFunc (made_iter p.changes[k] own.length hkk ⟨hll,by omega,by omega⟩) [41] (σ:=Value × List Res × List Atm) (fun pre s=>RowB 130 172 s.1 (s.2.2.map eAtm) s.2.1∧s.2.2=own++pre) (fun _ _=>False) (fun s LF'=>bxA b6 s.1 s.2.1 LF') (.slice o own.length cc,R,own) LF ?_ rfl (fun _=>rfl) (by simp) (fun _ _=>by simp[bxA]) (.refl _) ⟨hrow',by simp⟩ ?_ ?_ (fun _ _ h=>h.elim)
  ·exact .refl _
  ·rintro pre x ⟨v1,R1,own1⟩ LF' hpre ⟨hr1,hI⟩
   dsimp only at hr1 hI
   have hpl:=hpre.length_le
   have hol:own1.length≤90000:=by
    rw[hI,List.length_append]
    rw[List.length_append,List.length_singleton]at hpl
    omega
   rw[show bxA b6 (v1,R1,own1).1 (v1,R1,own1).2.1 LF'= .box b6 120 [.raw v1]::(R1++LF') from rfl]
   refine wz fun b11=>?_
   refine pwp_freezeD 11 ?_
   refine wf ?_
   refine s_appB (f:=eAtm) (m:= [x]) (R:=R1) (LF:= .box b6 120 [.raw v1]::LF') (fun R'=> .box b6 120 [.raw v1]::(R'++LF')) rfl rfl hr1 List.perm_middle.symm (fun R'=>List.perm_middle) (by simp only[List.length_map,List.length_cons,List.length_nil];omega) (by simp only[List.length_map,List.length_cons,List.length_nil];omega) fun v2 R2 hr2=>?_
   have h1c:v2.oneCell'=true:=by
    obtain⟨⟨o2,c2,e2⟩,_⟩:=hr2.slice
    rw[e2];rfl
   refine s_storeV [.raw v2] rfl rfl h1c rfl (by simp) ?_
   refine wf ?_
   exact⟨(v2,R2,own1++ [x]),⟨by dsimp only;rw[List.map_append];exact hr2,by dsimp only;rw[hI,List.append_assoc]⟩,.refl _⟩
  ·rintro⟨v1,R1,own1⟩ ⟨hr1,hI⟩
   dsimp only at hr1 hI
   refine wf ?_
   refine⟨(k+1,v1,R1,own1),⟨by dsimp only;omega,hr1,?_,?_,?_,?_⟩,by dsimp only;omega,⟨rfl,rfl,rfl,rfl,rfl⟩,.refl _⟩
   ·dsimp only
    rw[hI,List.length_append];omega
   ·dsimp only
    rw[hI];exact idsOk_made _ hid
   ·dsimp only
    intro c hcm
    rw[List.take_succ_eq_append_getElem hlt]at hcm
    rcases List.mem_append.1 hcm with h|h
    ·exact hkd c h
    ·rw[List.mem_singleton.1 h];exact hkk
   ·dsimp only
    rw[hI];exact he
 have hkk:k=p.changes.length:=by omega
 rw[List.drop_eq_nil_of_le (by omega)]at he
 rw[List.take_of_length_le (by omega)]at hkd
 have he':rCheckP p=(own,0):=he
 have i1:Small (encOkP p):=⟨⟨encOk_of hs,rDeps_nz (rHead_deps h1),hkd⟩⟩
 refine wf ?_
 have h0: ¬(rCheckP p).2≠0:=by rw[he'];simp
 refine pwp_condD (fun h=>?_) (fun h=>?_)
 ·refine wf ?_
  have e2:rEx p=([],[],4):=by rw[rEx,if_neg h0,if_pos h]
  rw[e2]
  exact⟨trivial,_,[],.cons (.tmp 2) (.cons (.tmp 3) (.cons (.tmp 4) .nil)),.cons _ (List.sublist_append_right R LF),_,_,rfl,.inl ⟨by decide,rfl⟩⟩
 ·refine wf ?_
  have e2:rEx p=(own,rEnc p,0):=by rw[rEx,if_neg h0,if_neg h,he']
  rw[e2]
  exact⟨trivial,_,R,.cons (.tmp 2) (.cons (.tmp 3) (.cons (.tmp 4) .nil)),.cons _ (.refl _),_,_,rfl,.inr ⟨rfl,_,rfl,hrow,by dsimp only;omega⟩⟩
end Go.Proofs
namespace Go.Proofs
open Go.Shelf
def Tryz.sortI_ren:Go.Shelf.Ren:=⟨fun|6=>239|15=>108|14=>260|28=>141|29=>142|20=>274|21=>275|22=>276|23=>277|24=>278|25=>279|26=>280|27=>281|46=>287|47=>188|48=>189|49=>288|50=>289|57=>295|n=>n,fun|22=>75|24=>73|25=>191|3=>3|39=>135|0=>0|53=>171|55=>173|4=>4|46=>165|45=>164|50=>117|5=>5|9=>9|66=>209|70=>213|76=>247|77=>248|n=>n,fun|n=>n⟩
theorem Tryz.sortI:Go.Proofs.SlLaysF0.n6 Tryz.prog Tryz.sortI_ren:={
 mixed:=by kernel_rfl
 f6:=⟨Tryz.f239.name,by decide,Tryz.func239.trans (congrArg some (by kernel_rfl))⟩
 f14:=⟨Tryz.f260.name,by decide,Tryz.func260.trans (congrArg some (by kernel_rfl))⟩
 f15:=Tryz.func108.trans (congrArg some (by kernel_rfl))
 f20:=⟨Tryz.f274.name,by decide,Tryz.func274.trans (congrArg some (by kernel_rfl))⟩
 f21:=⟨Tryz.f275.name,by decide,Tryz.func275.trans (congrArg some (by kernel_rfl))⟩
 f22:=⟨Tryz.f276.name,by decide,Tryz.func276.trans (congrArg some (by kernel_rfl))⟩
 f23:=⟨Tryz.f277.name,by decide,Tryz.func277.trans (congrArg some (by kernel_rfl))⟩
 f24:=⟨Tryz.f278.name,by decide,Tryz.func278.trans (congrArg some (by kernel_rfl))⟩
 f25:=⟨Tryz.f279.name,by decide,Tryz.func279.trans (congrArg some (by kernel_rfl))⟩
 f26:=⟨Tryz.f280.name,by decide,Tryz.func280.trans (congrArg some (by kernel_rfl))⟩
 f27:=⟨Tryz.f281.name,by decide,Tryz.func281.trans (congrArg some (by kernel_rfl))⟩
 f28:=Tryz.func141.trans (congrArg some (by kernel_rfl))
 f29:=Tryz.func142.trans (congrArg some (by kernel_rfl))
 f46:=⟨Tryz.f287.name,by decide,Tryz.func287.trans (congrArg some (by kernel_rfl))⟩
 f47:=Tryz.func188.trans (congrArg some (by kernel_rfl))
 f48:=Tryz.func189.trans (congrArg some (by kernel_rfl))
 f49:=⟨Tryz.f288.name,by decide,Tryz.func288.trans (congrArg some (by kernel_rfl))⟩
 f50:=⟨Tryz.f289.name,by decide,Tryz.func289.trans (congrArg some (by kernel_rfl))⟩
 f57:=⟨Tryz.f295.name,by decide,Tryz.func295.trans (congrArg some (by kernel_rfl))⟩
 t0:=Tryz.underlying0
 a0:=Tryz.isAgg0
 z0:=Tryz.sizeOf0
 v0:=Tryz.zeroValue0
 t3:=Tryz.underlying3
 a3:=Tryz.isAgg3
 z3:=Tryz.sizeOf3
 v3:=Tryz.zeroValue3
 t4:=Tryz.underlying4
 a4:=Tryz.isAgg4
 z4:=Tryz.sizeOf4
 v4:=Tryz.zeroValue4
 t5:=Tryz.underlying5
 a5:=Tryz.isAgg5
 z5:=Tryz.sizeOf5
 v5:=Tryz.zeroValue5
 t9:=Tryz.underlying9
 a9:=Tryz.isAgg9
 z9:=Tryz.sizeOf9
 v9:=Tryz.zeroValue9
 t22:=Tryz.underlying75
 a22:=Tryz.isAgg75
 z22:=Tryz.sizeOf75
 v22:=Tryz.zeroValue75
 t25:=Tryz.underlying191
 a25:=Tryz.isAgg191
 z25:=Tryz.sizeOf191
 v25:=Tryz.zeroValue191
 t39:=Tryz.underlying135
 a39:=Tryz.isAgg135
 z39:=Tryz.sizeOf135
 v39:=Tryz.zeroValue135
 t45:=Tryz.underlying164
 a45:=Tryz.isAgg164
 z45:=Tryz.sizeOf164
 v45:=Tryz.zeroValue164
 t46:=Tryz.underlying165
 a46:=Tryz.isAgg165
 z46:=Tryz.sizeOf165
 v46:=Tryz.zeroValue165
 t50:=Tryz.underlying117
 a50:=Tryz.isAgg117
 z50:=Tryz.sizeOf117
 v50:=Tryz.zeroValue117
 t53:=Tryz.underlying171
 a53:=Tryz.isAgg171
 z53:=Tryz.sizeOf171
 v53:=Tryz.zeroValue171
 t55:=Tryz.underlying173
 a55:=Tryz.isAgg173
 z55:=Tryz.sizeOf173
 v55:=Tryz.zeroValue173
 t66:=Tryz.underlying209
 a66:=Tryz.isAgg209
 z66:=Tryz.sizeOf209
 v66:=Tryz.zeroValue209
 t70:=Tryz.underlying213
 a70:=Tryz.isAgg213
 z70:=Tryz.sizeOf213
 v70:=Tryz.zeroValue213
 t76:=Tryz.underlying247
 a76:=Tryz.isAgg247
 z76:=Tryz.sizeOf247
 v76:=Tryz.zeroValue247
 t77:=Tryz.underlying248
 a77:=Tryz.isAgg248
 z77:=Tryz.sizeOf248
 v77:=Tryz.zeroValue248 }
end Go.Proofs
namespace Go.Proofs
open Go Go.Q Go.Shelf Go.Sort
attribute [local irreducible] pwp pops OpN
instance inh_Id:Inhabited Ident:=⟨Ident.zero⟩
def vIdn (x:Ident):List Value:=bcs x.patch.bs++ [.int .i64 x.n]
theorem vIdn_len (x:Ident):(vIdn x).length=33:=by
 have:=vDig_len x.patch
 unfold vDig at this
 simp[vIdn,this]
instance rawE_Id:RawE eIdent vIdn:=⟨fun x=>by
 have:=(inferInstance:RawE eDig vDig).out x.patch
 unfold vDig at this
 rw[eIdent,this,vIdn,List.map_append];rfl,fun x v hv=>by
 rcases List.mem_append.1 hv with h|h
 ·exact(inferInstance:RawE eDig vDig).one x.patch v h
 ·rw[List.mem_singleton.1 h];rfl⟩
instance trw_Id:TRw Tryz.prog 75 73 33 40:=⟨by
 have h2:(Tryz.prog.info? 73).map (fun i=>(i.size,i.bytes,i.zero.isSome,(i.zero.getD undef).cells.size))=some (33,40,true,33):=by kernel_rfl
 obtain⟨i,hi,e⟩:=Option.map_eq_some_iff.1 h2
 simp only[Prod.mk.injEq]at e
 obtain⟨e1,e2,e3,e4⟩:=e
 obtain⟨z,hz⟩:=Option.isSome_iff_exists.1 e3
 rw[hz]at e4
 exact⟨i,z,by kernel_rfl,hi,e1,e2,hz,e4,by decide,by decide⟩⟩
theorem cmpI_neg {a b:Ident}:cmpI a b < 0↔Dig.lt a.patch b.patch∨(a.patch=b.patch∧a.n < b.n):=by
 unfold cmpI
 by_cases h:cmpD a.patch b.patch=0
 ·have e:=cmpD_zero.1 h
  rw[if_neg (by simp[h])]
  constructor
  ·intro h2
   refine .inr ⟨e,?_⟩
   split at h2
   ·assumption
   ·split at h2<;>omega
  ·rintro(h2|⟨_,h2⟩)
   ·rw[e]at h2;exact absurd h2 (Dig.lt_irrefl _)
   ·rw[if_pos h2];omega
 ·rw[if_pos h]
  constructor
  ·exact fun h2=> .inl h2
  ·rintro(h2|⟨e,_⟩)
   ·exact h2
   ·exact absurd (cmpD_zero.2 e) h
theorem Ident.lt_irrefl (a:Ident): ¬cmpI a a < 0:=fun h=>by
 rcases cmpI_neg.1 h with h|⟨_,h⟩
 ·exact Dig.lt_irrefl _ h
 ·omega
theorem Ident.lt_trans {a b c:Ident} (h:cmpI a b < 0) (k:cmpI b c < 0):cmpI a c < 0:=by
 refine cmpI_neg.2 ?_
 rcases cmpI_neg.1 h with h|⟨e,h⟩<;>rcases cmpI_neg.1 k with k|⟨e2,k⟩
 ·exact .inl (Dig.lt_trans h k)
 ·exact .inl (e2 ▸ h)
 ·exact .inl (e ▸ k)
 ·exact .inr ⟨e.trans e2,by omega⟩
theorem Ident.tri (a b:Ident):cmpI a b < 0∨a=b∨cmpI b a < 0:=by
 rcases Dig.tri a.patch b.patch with h|h|h
 ·exact .inl (cmpI_neg.2 (.inl h))
 ·rcases Int.lt_trichotomy a.n b.n with h2|h2|h2
  ·exact .inl (cmpI_neg.2 (.inr ⟨h,h2⟩))
  ·refine .inr (.inl ?_)
   cases a;cases b
   simp only at h h2
   rw[h,h2]
  ·exact .inr (.inr (cmpI_neg.2 (.inr ⟨h.symm,h2⟩)))
 ·exact .inr (.inr (cmpI_neg.2 (.inl h)))
abbrev IRow (v:Value) (l:List Ident) (R:List Res):Prop:=RowL vIdn 73 33 v l R
theorem swoI:SWO (ltOf cmpI) where
 irrefl x:=by
  unfold ltOf
  exact decide_eq_false (fun h=>Ident.lt_irrefl x h)
 trans x y z h1 h2:=by
  unfold ltOf at*
  exact decide_eq_true (Ident.lt_trans (of_decide_eq_true h1) (of_decide_eq_true h2))
 ntrans x y z h1 h2:=by
  unfold ltOf at*
  refine decide_eq_false fun h=>?_
  have h1:=of_decide_eq_false h1
  have h2:=of_decide_eq_false h2
  rcases Ident.tri x y with h'|h'|h'
  ·exact h1 h'
  ·subst h';exact h2 h
  ·rcases Ident.tri y z with h3|h3|h3
   ·exact h2 h3
   ·subst h3;exact h1 h
   ·exact Ident.lt_irrefl x (Ident.lt_trans h (Ident.lt_trans h3 h'))
def sortI (l:List Ident):List Ident:=l.mergeSort fun x y=>!(ltOf cmpI) y x
theorem cmpI_lays {w:World} {g:Gh} {r n E:Nat} {cur:Array Value} (hi:Inv w g []) (h1:w.heap[r]? =some (.cells cur E (0,0))) (h2: ∀ o,g.H r o=none) (h3:g.M r=none):CmpLays Tryz.prog 167 #[] vIdn 33 cmpI r 0 n w:=by
 intro m os dk hdk x y
 have hI:Inv (sortWorldK vIdn 33 w r 0 m dk os) g []:=hi.laterBut h2 h3 (by simp[blocks]) (fun k hk hn=>sortWorld_other m dk os k hk hn)
 have hv:VRl g [.agg (vIdn x).toArray,.agg (vIdn y).toArray] [.agg (eIdent x),.agg (eIdent y)]:=by
  have e: ∀ d:Ident,VR g (.agg (vIdn d).toArray) (.agg (eIdent d)):=fun d=>by
   rw[(inferInstance:RawE eIdent vIdn).out]
   have:VRl g (vIdn d) ((vIdn d).map PV.raw):=⟨by simp,fun i h1 h2=>by simp;exact .raw _⟩
   exact this.agg
  exact .cons (e x) (.cons (e y) (.nil g))
 have:=(piCompare_ct x y).out _ (sortWorldK vIdn 33 w r 0 m dk os) g [] hv hI
 refine Calls.mono this ?_
 rintro e w' ⟨v,x',g',L',rfl,k1,k2,k3,k4,rfl,rfl⟩
 refine⟨by rw[k1.raw_inv],?_⟩
 exact grown_eq k3.os k3.tape k3.output.1 k3.output.2 k3.size (fun k hk=>k3.keep k hk (by simp[blocks]))
theorem sortI_fn (l:List Ident) (v:Value) (R:List Res) (hv:IRow v l R) (hl:l.length≤1000000):PCalls Tryz.prog 239 [.raw v,.raw (.func (.func 167) #[] #[])] R (fun _ L'=> ∃ v',v'=v∧IRow v' (sortI l) L'):=fun vs w g LF hvs hi=>by
 obtain⟨v1,v2,rfl⟩: ∃ a b,vs= [a,b]:=by
  have:=hvs.len
  match vs,this with
  | [a,b],_=>exact⟨a,b,rfl⟩
 rw[hvs.uncons.1.raw_inv,hvs.uncons.2.uncons.1.raw_inv]
 obtain⟨o,c,rfl⟩:=hv.slice
 by_cases hne:l= []
 ·subst hne
  refine(AnyF.slices_SortFunc_none Tryz.sortI o c _ w).mono ?_
  rintro e w' ⟨rfl,rfl⟩
  exact⟨_,.raw (.tuple #[]),g,R,rfl,.raw _,hi,.refl _ _ _,.refl _ _,_,rfl,by simpa [sortI]using hv⟩
 obtain⟨_,r,cur,rest,rfl,rfl,hcur,hsz,hlc⟩:=hv.inv hne
 obtain⟨k1,k2,k3,k4,k5⟩:=hi.rawHead
 have hlt:r < w.heap.size:=(Array.getElem?_eq_some_iff.1 k1).1
 have hF:(flatK vIdn 33 l.toArray).toList=l.flatMap vIdn:=flatK_eq (by decide) vIdn_len l
 have hH:HoldsK vIdn 33 w r 0 l.toArray:=fun j hj=>by
  have hj2:j < l.length*33:=by simpa using hj
  refine⟨?_,by simp[World.frozen?,k1]⟩
  have hj3:j < cur.size:=by omega
  simp only[World.cell?,k1,Option.isSome_none,Bool.false_eq_true,if_false,Nat.zero_add]
  rw[getElem!_pos _ j hj]
  have e1:cur.toList[j]? =(flatK vIdn 33 l.toArray).toList[j]?:=by
   rw[hcur,hF,List.getElem?_append_left (by rw[len_raws (f:=eIdent) (sz:=33)];exact hj2)]
  rw[Array.getElem?_toList,Array.getElem?_toList,Array.getElem?_eq_getElem hj]at e1
  exact e1
 refine(AnyQ.slices_SortFunc_total Tryz.sortI 33 (fun w=>?_) (fun w=>TSz.run (inferInstance:TSz Tryz.prog 73 33 40) w) vIdn vIdn_len (fun x v h=>(inferInstance:RawE eIdent vIdn).one x v h) cmpI swoI 167 #[] r 0 c l.toArray w (fun args w=>(inferInstance:TFun Tryz.prog 167).out args w) (cmpI_lays (hi.sub (List.nil_sublist _)) k1 k2 k3) hH hlt (by simp;omega) ?_).mono ?_
 ·exact(isAgg_run (inferInstance:TAgg Tryz.prog 73 33).out w).1
 ·intro x y h1 h2
  unfold ltOf at h1 h2
  have h1:=of_decide_eq_false h1
  have h2:=of_decide_eq_false h2
  rcases Ident.tri x y with h'|h'|h'
  ·exact absurd h' h1
  ·exact h'
  ·exact absurd h' h2
 ·rintro e w' ⟨rfl,n,os,rfl⟩
  have hlen:(sortI l).length=l.length:=List.length_mergeSort _
  have hFs:(flatK vIdn 33 (sortI l).toArray).toList=(sortI l).flatMap vIdn:=flatK_eq (by decide) vIdn_len (sortI l)
  have hFz:(flatK vIdn 33 (sortI l).toArray).size=l.length*33:=by simp[hlen]
  have htk:=putCells_take (cur:=cur) (flatK vIdn 33 (sortI l).toArray) (by omega)
  have hrow:RowL vIdn 73 33 (.slice (some ⟨r,0,none⟩) (sortI l).length c) (sortI l) [.raw r (.cells (putCells id 0 (flatK vIdn 33 (sortI l).toArray) cur) 73 (0,0))]:=by
   refine RowL.mk (rest:=(putCells id 0 (flatK vIdn 33 (sortI l).toArray) cur).toList.drop (l.length*33)) vIdn_len ?_ (by simp[putCells,hsz]) (by omega)
   rw[←hFs,←htk,hFz,List.take_append_drop]
  rw[hlen]at hrow
  refine⟨_,.raw (.tuple #[]),g,[.raw r (.cells (putCells id 0 (flatK vIdn 33 (sortI l).toArray) cur) 73 (0,0))],rfl,.raw _,?_,⟨rfl,rfl,⟨rfl,Nat.le_add_right _ _⟩,sortWorld_size n _ os,fun b hb hn=>sortWorld_other n _ os b hb (fun e=>hn (by rw[e];simp[blocks,Res.block])),.refl g,fun _ _ _=>⟨fun _=>rfl,rfl⟩⟩,fun b hb _=>by simpa [blocks,Res.block]using hb,_,rfl,hrow⟩
  exact(k5.laterBut k2 k3 k4 (fun k hk hn=>sortWorld_other n _ os k hk hn)).addRaw (sortWorld_row k1 n _ os) k2 k3 k4
end Go.Proofs
namespace Go.Q
open Go
section
variable {P:Program} {N:Nat} {Q:PPost} {all:Array Oper} {K:Env→List Res→Prop}
theorem pOp_putL {bar:Nat→Bool} {j:Nat} {oi oj:Oper} {x:PV} (hj:all[j]? =some oj) (hap:oi.apart all oj=true) {K:Env→List Res→Prop} {ρ:Env} {L:List Res}
  (hy: ∀ L,YQ P all oi ρ L x) (h:pOp P N all bar j K (updo ρ oi.dst x) L):pOp P N all bar j (fun ρ' L'=>(∀ L,YQ P all oi ρ' L x)∧K (updo ρ' oi.dst x) L') ρ L:=by
 obtain⟨h1,h2,h3⟩:=Oper.apart_spec hap
 unfold pOp at*
 simp only[hj]at*
 obtain⟨hd,h⟩:=h
 have cj: ∀ s,s∈oj.looksAt all→updo ρ oi.dst x s=ρ s:=fun s hs=>updo_slot fun d hd e=>h1 d hd (e ▸ hs)
 have ci: ∀ u,∀ L,YQ P all oi (updo ρ oj.dst u) L x:=fun u L=>(hy L).congr fun s hs=>(updo_slot fun d hd e=>h3 d hd (e ▸ hs)).symm
 refine⟨hd,?_⟩
 rcases h with ⟨u,hu,hk⟩|⟨hb,hg,ho⟩
 ·refine .inl ⟨u,hu.congr cj,ci u,?_⟩
  rw[updo_comm ρ u x (fun d hd e=>h2 d e hd)];exact hk
 ·refine .inr ⟨hb,hg.congr cj,(OpN.congr (ev_of_slots cj) ho).mono fun u L' hk=>⟨ci u,?_⟩⟩
  rw[updo_comm ρ u x (fun d hd e=>h2 d e hd)];exact hk
theorem pAny_firstL {bar:Nat→Bool} {i:Nat} {oi:Oper} {x:PV} (hi:all[i]? =some oi) (hdi: ∀ d,oi.dst=some d→d < N):
  ∀ (fuel:Nat) (listed:Array Bool) (ρ:Env) (L:List Res),Closed all listed→
    (∀ j oj,all[j]? =some oj→j≠i→listed.getD j true=false→(∀ e∈oj.after,Region.binds .any e=true→e.on≠i)→oi.apart all oj=true)→
    i∈Region.ready .any all listed→(∀ L,YQ P all oi ρ L x)→
    pAny P N all bar K fuel (listed.setIfInBounds i true) (updo ρ oi.dst x) L→pAny P N all bar K (fuel+1) listed ρ L:=by
 intro fuel
 have self: ∀ (listed:Array Bool) (ρ:Env) (L:List Res) (n:Nat),YQ P all oi ρ L x→pAny P N all bar K n (listed.setIfInBounds i true) (updo ρ oi.dst x) L→
   pOp P N all bar i (pAny P N all bar K n (listed.setIfInBounds i true)) ρ L:=fun listed ρ L n hy H=>by
  unfold pOp;simp only[hi];exact⟨hdi,.inl ⟨x,hy,H⟩⟩
 induction fuel with
 |zero=>
  intro listed ρ L hc _ hr hy H
  refine⟨fun h=>(by rw[h]at hr;cases hr),fun j hj=>?_⟩
  by_cases hji:j=i
  ·subst hji;exact self _ _ _ _ (hy L) H
  ·have:=ready_mono hj hji
   rw[H.1]at this
   cases this
 |succ fuel ih=>
  intro listed ρ L hc hfree hr hy H
  refine⟨fun h=>(by rw[h]at hr;cases hr),fun j hj=>?_⟩
  by_cases hji:j=i
  ·subst hji;exact self _ _ _ _ (hy L) H
  ·have h1:=H.2 j (ready_mono hj hji)
   obtain⟨hjun,oj,hoj,hall⟩:=mem_ready.1 hj
   have hiun:=(mem_ready.1 hr).1
   have hnot: ∀ e∈oj.after,Region.binds .any e=true→e.on≠i:=fun e he hb heq=>by
    have h1:=hall e he hb
    rw[heq]at h1
    rcases Nat.lt_or_ge i listed.size with h'|h'
    ·simp[h']at hiun h1;rw[hiun]at h1;cases h1
    ·simp[Array.getElem?_eq_none h']at h1
   have h2:=pOp_putL hoj (hfree j oj hoj hji hjun hnot) hy h1
   have hfree': ∀ k ok,all[k]? =some ok→k≠i→(listed.setIfInBounds j true).getD k true=false→
     (∀ e∈ok.after,Region.binds .any e=true→e.on≠i)→oi.apart all ok=true:=fun k ok hk hki hun hno=>by
    refine hfree k ok hk hki ?_ hno
    by_cases hjk:j=k
    ·subst hjk;exact hjun
    ·rw[getD_set_ne true hjk]at hun;exact hun
   refine pOp_mono (fun ρ' L' h3=>?_) h2
   obtain⟨h4,h5⟩:=h3
   refine ih (listed.setIfInBounds j true) ρ' L' (hc.set hj) hfree' (ready_mono hr (Ne.symm hji)) h4 ?_
   rw[Array.setIfInBounds_comm _ _ hji]
   exact h5
def closedB (all:Array Oper) (listed:Array Bool):Bool:=listed.size==all.size&&(List.range all.size).all fun j=>match all[j]? with
 |some oj=>!listed.getD j false||oj.after.all fun e=>!Region.binds .any e||listed.getD e.on false
 |none=>true
theorem closedB_spec {listed:Array Bool} (h:closedB all listed=true):Closed all listed:=by
 simp only[closedB,Bool.and_eq_true,beq_iff_eq,List.all_eq_true,List.mem_range]at h
 obtain⟨h1,h2⟩:=h
 refine⟨h1,fun j oj hj hl e he hb=>?_⟩
 have:=h2 j (Array.getElem?_eq_some_iff.1 hj).1
 simp only[hj,hl,Bool.not_true,Bool.false_or,Array.all_eq_true_iff_forall_mem]at this
 have:=this e he
 simpa [hb]using this
theorem pAny_quiet {bar:Nat→Bool} {fuel:Nat} {listed:Array Bool} {ρ:Env} {L:List Res} (i:Nat) {d:Nat} {op:Op} {ty:TypeId} {pos:String} {af:Array Edge} {x:PV} (h0:all[i]? =some ⟨some d,op,ty,pos,af,none⟩)
  (hB:(closedB all listed&&Region.free .any all listed i&&(Region.ready .any all listed).contains i)=true) (hd:Nat.blt d N=true)
  (hq: ∀ L,QOp P ⟨some d,op,ty,pos,af,none⟩ ρ L x) (k:pAny P N all bar K fuel (listed.setIfInBounds i true) (upd ρ d x) L):pAny P N all bar K (fuel+1) listed ρ L:=by
 simp only[Bool.and_eq_true]at hB
 obtain⟨⟨h1,h2⟩,h3⟩:=hB
 exact pAny_firstL (x:=x) h0 (dlt hd) fuel listed ρ L (closedB_spec h1) (Region.free_spec h0 h2) (by simpa using h3) (fun L=> .inr ⟨by unfold GYes;trivial,hq L⟩) k
theorem pwp_drawA {id:Nat} {l:List Oper} {ρ:Env} {L:List Res} (bs:List Nat) [hm:TMix P] (hG:guardsIn l.toArray N=true)
  (h:pAny P N l.toArray (fun k=>bs.contains k) (Q .normal) l.length (Array.replicate l.length false) ρ L):pwp P N (.region id l.toArray true) Q ρ L:=fun ro base a w g hst=>by
 refine wpIn_region_any hm.out ?_
 have hi:=hst.inv
 have hst0:Step (blocks L) w g { w with drawn:=w.drawn+1 } g:=⟨rfl,rfl,⟨rfl,Nat.le_succ _⟩,Nat.le_refl _,fun _ _ _=>rfl,.refl g,fun _ _ _=>⟨fun _=>rfl,rfl⟩⟩
 have hi':Inv { w with drawn:=w.drawn+1 } g L:=⟨hi.sat,fun b z hz=>(hi.satM b z hz).congr rfl,fun r hr=>by have:=hi.res r hr;cases r<;>first|exact this|(rename_i t _ _;cases t<;>exact this),hi.nodup,hi.glob⟩
 have k:=wpAny_of_pAny (ro:=ro) (base:=base) (Q:=Q) (w₀:=w) (g₀:=g) (L₀:=L) (fun _ _ h=>h) hG _ _ ρ L a _ g hst.agr hi' hst0 (.refl _ _) h
 simpa using k
end
theorem q_of_pops {P:Program} {N:Nat} {o:Oper} {ρ:Env} {d:Nat} {x:PV} {L:List Res} (hd:o.dst=some d) (hg:o.guard=none) (h:pops P N #[] (fun ρ' L'=>ρ' d=x∧L'=L) [false] [o] ρ L):QOp P o ρ L x:=by
 obtain⟨_,h⟩:=h
 rcases h with ⟨hno,_⟩|⟨_,⟨y,hq,h1,_⟩|⟨hf,_⟩⟩
 ·unfold GNo at hno
  rw[hg]at hno
  exact hno.elim
 ·rw[hd]at h1
  have:y=x:=by
   rw[←h1]
   show y=upd ρ d y d
   rw[upd_self]
  rw[←this];exact hq
 ·cases hf
end Go.Q
namespace Go.Proofs
open Go Go.Q
attribute [local irreducible] pwp pops pAny PCalls OpN
instance full_ct (x:Ident) (d:Dig):FnC Tryz.prog 238 [.agg (eIdent x),.pt (eDig d) 0] (.agg (eIdent (rWhole x d))):=⟨by
 refine fn_of Tryz.func238 Tryz.ntmps238 rfl (rs:= [.cell 3 73]) rfl rfl fun hb LF=>?_
 refine wkb fun b2=>?_
 refine s_alloc fun b3=>?_
 refine wf ?_
 refine pops_if (fun hp=>?_) (fun hp=>?_)
 ·have h0:x.patch=Dig.zero:=by simpa using hp
  refine wf ?_
  refine pwp_condD (fun h=>?_) (fun h=>?_)
  ·refine wf ?_
   refine endC rfl (.of_eq ?_)
   rw[rWhole,if_pos ⟨h0,h⟩]
  ·refine wf ?_
   refine endC rfl (.of_eq ?_)
   rw[rWhole,if_neg (fun h'=>h h'.2)]
 ·have h0: ¬x.patch=Dig.zero:=by simpa using hp
  refine wf ?_
  refine endC rfl (.of_eq ?_)
  rw[rWhole,if_neg (fun h'=>h0 h'.1)]⟩
def fP1 (d:Dig) (a:Atm):Atm:={ a with id:=rWhole a.id d }
def fP2 (d:Dig) (a:Atm):Atm:=if a.kind≠7 then { a with file:=rWhole a.file d }else a
def fP3 (d:Dig) (a:Atm):Atm:=if a.kind=2 then { a with parent:=rWhole a.parent d }else a
def fP4 (d:Dig) (a:Atm):Atm:=if a.kind=6 then { a with src:=rWhole a.src d,dst:=rWhole a.dst d }else a
def fP5 (d:Dig) (a:Atm):Atm:={ a with over:=sortI (a.over.map fun y=>rWhole y d) }
def fP (d:Dig) (a:Atm):Atm:=fP5 d (fP4 d (fP3 d (fP2 d (fP1 d a))))
def atomsP (p:Pat):List Atm × Int:=if(rEx p).2.2≠0 then([],(rEx p).2.2)else if(rId p).2≠0 then([],(rId p).2)else((rEx p).1.map (fP (rId p).1),0)
set_option maxHeartbeats 4000000 in
theorem complete_fn (p:Pat) (hs:rBig p=false):FnC Tryz.prog 196 [.agg (ePat p)] (.tuple [.slice ((atomsP p).1.map eAtm) .ro,.raw (.int .i64 (atomsP p).2)]):=⟨by
 have i0:Small (rBig p=false):=⟨hs⟩
 refine fn_of Tryz.func196 Tryz.ntmps196 rfl (rs:= [.tmp 2,.tmp 3]) rfl rfl fun hb LF=>?_
 repeat(refine pwp_seq ?_)
 refine pwp_region (by kernel_rfl) ?_
 refine wo ?_
 refine pops_nil ?_
 repeat(refine pwp_seq ?_)
 refine pwp_region (by kernel_rfl) ?_
 refine s_loadAL (by rfl) (hl:=(by infer_instance)) ?_
 refine s_callR (xs:= [.tmp 15]) [] LF (f:=88) (cs:= []) (le_func _) rfl rfl (.refl _) _ (examineB_fn p hs) fun r L' ⟨x,y,e,hor⟩=>?_
 subst e
 refine wf ?_
 refine wf ?_
 rcases hor with ⟨hne,rfl⟩|⟨he0,v,rfl,hrow,hll⟩
 ·refine pwp_condN (fun h=>?_) (fun h=>absurd h hne)
  refine wf ?_
  refine end2 ?_
  rw[atomsP,if_pos hne]
  exact .tuple2 (.ros rfl) (.refl _)
 refine pwp_condN (fun h=>absurd he0 h) (fun h=>?_)
 refine wf ?_
 refine s_alloc fun b7=>?_
 refine wo ?_
 refine pops_nil ?_
 refine pwp_freezeD 7 ?_
 refine wf ?_
 refine pwp_condN (fun h2=>?_) (fun h2=>?_)
 ·refine pwp_weaken (fun i=> .inl rfl) (List.sublist_append_right L' LF) ?_
  refine wf ?_
  refine end2 ?_
  rw[atomsP,if_neg (by simp[he0]),if_pos h2]
  exact .tuple2 (.ros rfl) (.refl _)
 have e1:atomsP p=((rEx p).1.map (fP (rId p).1),0):=by rw[atomsP,if_neg (by simp[he0]),if_neg (by simpa using h2)]
 rw[e1]
 have hov: ∀ a∈(rEx p).1,a.over.length≤40:=fun a ha=>by
  unfold rEx at ha
  split at ha
  ·cases ha
  ·split at ha
   ·cases ha
   ·exact(rCheckP_facts hs).2 a ha
 generalize (rEx p).1=l at hrow hll hov ⊢
 generalize (rId p).1=g
 obtain⟨⟨o,cc,ev⟩,_⟩:=hrow.slice
 rw[List.length_map]at ev
 subst ev
 refine wf ?_
 refine s_lenR rfl ?_
 refine wf ?_
 refine pwp_loopS (σ:=Nat × List Res) (fun k=>k.1≤l.length∧RowB 130 172 (.slice o l.length cc) (((l.take k.1).map (fP g)++l.drop k.1).map eAtm) k.2) (fun k=>l.length - k.1) (fun k=> [(4,.raw (.slice o l.length cc)),(8,.clo 238 [.pt (eDig g) 0]),(32,.raw (.slice o l.length cc)),(33,.raw (.int .i64 l.length)),(34,.raw (.int .i64 k.1))]) (fun k=>k.2++LF) (0,_) ⟨by simp,by simpa using hrow⟩ ⟨rfl,rfl,rfl,rfl,rfl⟩ (.refl _) ?_
 rintro⟨k,R⟩ ⟨hk,hR⟩
 dsimp only at hk hR ⊢
 refine wf ?_
 refine pwp_condD (fun hc=>?_) (fun hc=>?_)
 ·have hlt:k < l.length:=by omega
  obtain⟨xs,hxs⟩: ∃ xs,xs=((l.take k).map (fP g)++l.drop k).map eAtm:=⟨_,rfl⟩
  rw[←hxs]at hR
  have hlk:xs.length=l.length:=by rw[hxs];simp;omega
  have hel:xs[k]'(by omega)=eAtm l[k]:=by
   subst hxs
   rw[List.getElem_map,List.getElem_append_right (by simp;omega),List.getElem_drop]
   congr 2
   simp;omega
  obtain⟨r,rest,rfl,rfl,hn,hcl,hsz,hcc⟩:=hR.inv (by omega)
  have isub:Sub (xs.flatten++rest) (0+k*172) 172 (eAtm l[k]):=by
   rw[←hel];exact flat_sub hsz (by omega)
  refine wf ?_
  refine s_ixRow (k:=k) rfl rfl hlt ?_
  refine wf ?_
  refine s_alloc fun b10=>?_
  refine wf ?_
  refine pwp_join True [(4,.raw (.slice (some ⟨r,0,none⟩) l.length cc)),(8,.clo 238 [.pt (eDig g) 0]),(9,.raw (.int .i64 k)),(10,.raw (.pointer (some ⟨b10,0,none⟩))),(32,.raw (.slice (some ⟨r,0,none⟩) l.length cc)),(33,.raw (.int .i64 l.length)),(34,.raw (.int .i64 k))] (.box b10 130 (eAtm (fP2 g (fP1 g l[k]))):: .box r 130 (xs.flatten++rest)::LF) ?_ fun _=>?_
  ·refine pwp_condN (fun h=>?_) (fun h=>?_)
   ·refine wf ?_
    rw[show fP2 g (fP1 g l[k])= { fP1 g l[k]with file:=rWhole l[k].file g } by rw[fP2,if_pos (show(fP1 g l[k]).kind≠7 from h)];rfl]
    exact⟨trivial,⟨rfl,rfl,rfl,rfl,rfl,rfl,rfl⟩,.refl _⟩
   ·refine wf ?_
    rw[show fP2 g (fP1 g l[k])=fP1 g l[k] by rw[fP2,if_neg (show ¬(fP1 g l[k]).kind≠7 from fun h'=>h' h)]]
    exact⟨trivial,⟨rfl,rfl,rfl,rfl,rfl,rfl,rfl⟩,.refl _⟩
  have o2:(fP2 g (fP1 g l[k])).over.length≤40:=by
   have h:=hov _ (List.getElem_mem hlt)
   unfold fP2;split<;>exact h
  generalize hg2:fP2 g (fP1 g l[k])=a2 at o2 ⊢
  refine wf ?_
  refine pwp_join True [(4,.raw (.slice (some ⟨r,0,none⟩) l.length cc)),(8,.clo 238 [.pt (eDig g) 0]),(9,.raw (.int .i64 k)),(10,.raw (.pointer (some ⟨b10,0,none⟩))),(32,.raw (.slice (some ⟨r,0,none⟩) l.length cc)),(33,.raw (.int .i64 l.length)),(34,.raw (.int .i64 k))] (.box b10 130 (eAtm (fP3 g a2)):: .box r 130 (xs.flatten++rest)::LF) ?_ fun _=>?_
  ·refine pwp_condD (fun h=>?_) (fun h=>?_)
   ·refine wf ?_
    rw[show fP3 g a2= { a2 with parent:=rWhole a2.parent g } by rw[fP3,if_pos h]]
    exact⟨trivial,⟨rfl,rfl,rfl,rfl,rfl,rfl,rfl⟩,.refl _⟩
   ·refine wf ?_
    rw[show fP3 g a2=a2 by rw[fP3,if_neg h]]
    exact⟨trivial,⟨rfl,rfl,rfl,rfl,rfl,rfl,rfl⟩,.refl _⟩
  have o3:(fP3 g a2).over.length≤40:=by unfold fP3;split<;>exact o2
  generalize hg3:fP3 g a2=a3 at o3 ⊢
  refine wf ?_
  refine pwp_join True [(4,.raw (.slice (some ⟨r,0,none⟩) l.length cc)),(8,.clo 238 [.pt (eDig g) 0]),(9,.raw (.int .i64 k)),(10,.raw (.pointer (some ⟨b10,0,none⟩))),(32,.raw (.slice (some ⟨r,0,none⟩) l.length cc)),(33,.raw (.int .i64 l.length)),(34,.raw (.int .i64 k))] (.box b10 130 (eAtm (fP4 g a3)):: .box r 130 (xs.flatten++rest)::LF) ?_ fun _=>?_
  ·refine pwp_condD (fun h=>?_) (fun h=>?_)
   ·rw[show fP4 g a3= { a3 with src:=rWhole a3.src g,dst:=rWhole a3.dst g } by rw[fP4,if_pos h]]
    refine wn ?_
    refine pwp_drawA [2,6,9,11] (by decide+kernel) ?_
    refine pAny_quiet 0 rfl (by decide+kernel) rfl (fun L'=>q_of_pops (N:=97) rfl rfl (by refine wo ?_;refine pops_nil ?_;exact⟨upd_self _ _ _,rfl⟩)) ?_
    refine pAny_quiet 1 rfl (by decide+kernel) rfl (fun L'=>q_of_pops (N:=97) rfl rfl (by refine wo ?_;refine pops_nil ?_;exact⟨upd_self _ _ _,rfl⟩)) ?_
    refine pAny_quiet 4 rfl (by decide+kernel) rfl (fun L'=>q_of_pops (N:=97) rfl rfl (by refine wo ?_;refine pops_nil ?_;exact⟨upd_self _ _ _,rfl⟩)) ?_
    refine pAny_quiet 5 rfl (by decide+kernel) rfl (fun L'=>q_of_pops (N:=97) rfl rfl (by refine wo ?_;refine pops_nil ?_;exact⟨upd_self _ _ _,rfl⟩)) ?_
    refine pAny_next (fuel:=7) [2,6] (by decide+kernel) (by simp) fun i hi=>?_
    simp only[List.mem_cons,List.not_mem_nil,or_false]at hi
    rcases hi with rfl|rfl
    ·refine⟨_,rfl,?_⟩
     refine wf ?_
     refine pAny_quiet 3 rfl (by decide+kernel) rfl (fun L'=>q_of_pops (N:=97) rfl rfl (by refine wo ?_;refine pops_nil ?_;exact⟨upd_self _ _ _,rfl⟩)) ?_
     refine pAny_next (fuel:=5) [6] (by decide+kernel) (by simp) fun i hi=>?_
     simp only[List.mem_cons,List.not_mem_nil,or_false]at hi
     subst hi
     refine⟨_,rfl,?_⟩
     refine wf ?_
     refine pAny_quiet 7 rfl (by decide+kernel) rfl (fun L'=>q_of_pops (N:=97) rfl rfl (by refine wo ?_;refine pops_nil ?_;exact⟨upd_self _ _ _,rfl⟩)) ?_
     refine pAny_quiet 8 rfl (by decide+kernel) rfl (fun L'=>q_of_pops (N:=97) rfl rfl (by refine wo ?_;refine pops_nil ?_;exact⟨upd_self _ _ _,rfl⟩)) ?_
     refine pAny_next (fuel:=2) [9] (by decide+kernel) (by simp) fun i hi=>?_
     simp only[List.mem_cons,List.not_mem_nil,or_false]at hi
     subst hi
     refine⟨_,rfl,?_⟩
     refine wf ?_
     refine pAny_quiet 10 rfl (by decide+kernel) rfl (fun L'=>q_of_pops (N:=97) rfl rfl (by refine wo ?_;refine pops_nil ?_;exact⟨upd_self _ _ _,rfl⟩)) ?_
     refine pAny_next (fuel:=0) [11] (by decide+kernel) (by simp) fun i hi=>?_
     simp only[List.mem_cons,List.not_mem_nil,or_false]at hi
     subst hi
     refine⟨_,rfl,?_⟩
     refine wf ?_
     refine pAny_end (by decide+kernel) ?_
     refine wf ?_
     exact⟨trivial,⟨rfl,rfl,rfl,rfl,rfl,rfl,rfl⟩,.refl _⟩
    ·refine⟨_,rfl,?_⟩
     refine wf ?_
     refine pAny_next (fuel:=6) [2] (by decide+kernel) (by simp) fun i hi=>?_
     simp only[List.mem_cons,List.not_mem_nil,or_false]at hi
     subst hi
     refine⟨_,rfl,?_⟩
     refine wf ?_
     refine pAny_quiet 3 rfl (by decide+kernel) rfl (fun L'=>q_of_pops (N:=97) rfl rfl (by refine wo ?_;refine pops_nil ?_;exact⟨upd_self _ _ _,rfl⟩)) ?_
     refine pAny_quiet 7 rfl (by decide+kernel) rfl (fun L'=>q_of_pops (N:=97) rfl rfl (by refine wo ?_;refine pops_nil ?_;exact⟨upd_self _ _ _,rfl⟩)) ?_
     refine pAny_quiet 8 rfl (by decide+kernel) rfl (fun L'=>q_of_pops (N:=97) rfl rfl (by refine wo ?_;refine pops_nil ?_;exact⟨upd_self _ _ _,rfl⟩)) ?_
     refine pAny_next (fuel:=2) [9] (by decide+kernel) (by simp) fun i hi=>?_
     simp only[List.mem_cons,List.not_mem_nil,or_false]at hi
     subst hi
     refine⟨_,rfl,?_⟩
     refine wf ?_
     refine pAny_quiet 10 rfl (by decide+kernel) rfl (fun L'=>q_of_pops (N:=97) rfl rfl (by refine wo ?_;refine pops_nil ?_;exact⟨upd_self _ _ _,rfl⟩)) ?_
     refine pAny_next (fuel:=0) [11] (by decide+kernel) (by simp) fun i hi=>?_
     simp only[List.mem_cons,List.not_mem_nil,or_false]at hi
     subst hi
     refine⟨_,rfl,?_⟩
     refine wf ?_
     refine pAny_end (by decide+kernel) ?_
     refine wf ?_
     exact⟨trivial,⟨rfl,rfl,rfl,rfl,rfl,rfl,rfl⟩,.refl _⟩
   ·refine wf ?_
    rw[show fP4 g a3=a3 by rw[fP4,if_neg h]]
    exact⟨trivial,⟨rfl,rfl,rfl,rfl,rfl,rfl,rfl⟩,.refl _⟩
  have o4:(fP4 g a3).over.length≤40:=by unfold fP4;split<;>exact o3
  generalize hg4:fP4 g a3=a4 at o4 ⊢
  repeat(refine pwp_seq ?_)
  refine pwp_region (by kernel_rfl) ?_
  refine s_assign ?_
  refine pops_nil ?_
  rw[show Env.ev _ (Operand.const (Value.slice none 0 0))= .raw (.slice none 0 0) from rfl]
  refine wf ?_
  refine pwp_loopS (σ:=Nat × Value × List Res) (fun j=>j.1≤a4.over.length∧IRow j.2.1 ((a4.over.take j.1).map fun y=>rWhole y g) j.2.2) (fun j=>a4.over.length - j.1) (fun j=> [(4,.raw (.slice (some ⟨r,0,none⟩) l.length cc)),(8,.clo 238 [.pt (eDig g) 0]),(9,.raw (.int .i64 k)),(10,.raw (.pointer (some ⟨b10,0,none⟩))),(11,.raw j.2.1),(32,.raw (.slice (some ⟨r,0,none⟩) l.length cc)),(33,.raw (.int .i64 l.length)),(34,.raw (.int .i64 k)),(74,.slice (a4.over.map eIdent) .ro),(75,.raw (.int .i64 a4.over.length)),(76,.raw (.int .i64 j.1))]) (fun j=>j.2.2++(.box b10 130 (eAtm a4):: .box r 130 (xs.flatten++rest)::LF)) (0,.slice none 0 0,[]) ⟨by simp,.nil none (by simp)⟩ ⟨rfl,rfl,rfl,rfl,rfl,rfl,rfl,rfl,rfl,rfl,rfl⟩ (.refl _) ?_
  rintro⟨j,v2,R2⟩ ⟨hj,hI⟩
  dsimp only at hj hI ⊢
  refine wf ?_
  refine pwp_condD (fun hc2=>?_) (fun hc2=>?_)
  ·have hjl:j < a4.over.length:=by omega
   refine wz fun b13=>?_
   refine pwp_freezeD 13 ?_
   refine wf ?_
   refine s_appRow (f:=eIdent) (m:= [rWhole a4.over[j] g]) (R:=R2) (LF:= .box b10 130 (eAtm a4):: .box r 130 (xs.flatten++rest)::LF) (fun R'=>R'++(.box b10 130 (eAtm a4):: .box r 130 (xs.flatten++rest)::LF)) rfl rfl hI (.refl _) (fun R'=> .refl _) (by simp only[List.length_map,List.length_take,List.length_cons,List.length_nil];omega) (by simp only[List.length_map,List.length_take,List.length_cons,List.length_nil];omega) fun v3 R3 h3=>?_
   refine wf ?_
   refine wf ?_
   refine⟨(j+1,v3,R3),⟨by dsimp only;omega,?_⟩,by dsimp only;omega,⟨rfl,rfl,rfl,rfl,rfl,rfl,rfl,rfl,rfl,rfl,rfl⟩,.refl _⟩
   dsimp only
   rw[List.take_succ_eq_append_getElem hjl,List.map_append]
   exact h3
  ·rw[List.take_of_length_le (by omega)]at hI
   refine wf ?_
   refine s_callR (xs:= [.tmp 87,.func 167]) R2 (.box b10 130 (eAtm a4):: .box r 130 (xs.flatten++rest)::LF) (f:=239) (cs:= []) (le_func _) rfl rfl (.refl _) _ (sortI_fn _ _ R2 hI (by simp only[List.length_map];omega)) fun r' L3 ⟨v3,e3,h3⟩=>?_
   subst e3
   refine wo ?_
   refine pops_nil ?_
   repeat(refine pwp_seq ?_)
   have hms:(sortI (a4.over.map fun y=>rWhole y g)).length≤maxN∧(sortI (a4.over.map fun y=>rWhole y g)).length*33≤maxN:=by
    have h1:maxN=140737488355328:=rfl
    have h2:(sortI (a4.over.map fun y=>rWhole y g)).length=a4.over.length:=by rw[sortI,List.length_mergeSort,List.length_map]
    omega
   refine pwp_freezeRow (f:=eIdent) 11 h3 hms (.refl _) rfl ?_
   refine wf ?_
   have iput:Put (xs.flatten++rest) (0+k*172) (eAtm { a4 with over:=sortI (a4.over.map fun y=>rWhole y g) }) ((xs.set k (eAtm (fP5 g a4))).flatten++rest):=flat_put hsz (by omega) (by simp)
   refine s_ixRow (k:=k) rfl rfl hlt ?_
   refine wf ?_
   have hset:xs.set k (eAtm (fP5 g a4))=((l.take (k+1)).map (fP g)++l.drop (k+1)).map eAtm:=by
    have hf:fP5 g a4=fP g l[k]:=by rw[fP,hg2,hg3,hg4]
    rw[hf,hxs]
    refine List.ext_getElem (by simp;omega) fun i k1 k2=>?_
    rw[List.getElem_set]
    split
    ·rename_i e
     subst e
     rw[List.getElem_map,List.getElem_append_left (by simp;omega)]
     simp
    ·rename_i e
     rw[List.getElem_map,List.getElem_map]
     congr 1
     rcases Nat.lt_or_ge i k with h'|h'
     ·rw[List.getElem_append_left (by simp;omega),List.getElem_append_left (by simp;omega)]
      simp
     ·rw[List.getElem_append_right (by simp;omega),List.getElem_append_right (by simp;omega)]
      simp only[List.getElem_drop,List.length_map,List.length_take]
      congr 1
      omega
   have hnew: ∀ e∈xs.set k (eAtm (fP5 g a4)),e.length=172:=fun e he=>by
    rw[hset]at he
    obtain⟨a,_,rfl⟩:=List.mem_map.1 he
    simp
   refine⟨(k+1,[.box r 130 ((xs.set k (eAtm (fP5 g a4))).flatten++rest)]),⟨by dsimp only;omega,?_⟩,by dsimp only;omega,⟨rfl,rfl,rfl,rfl,rfl⟩,.cons _ (.refl _)⟩
   dsimp only
   rw[←hset]
   refine .row (by rw[List.length_set,hlk]) hcl hnew ?_
   have h1:=flatten_len hnew
   have h2:=flatten_len hsz
   rw[List.length_set]at h1
   omega
 ·have hkk:k=l.length:=by omega
  subst hkk
  rw[List.take_length,List.drop_length,List.append_nil]at hR
  have hmx:((l.map (fP g)).map eAtm).length≤maxN∧((l.map (fP g)).map eAtm).length*172≤maxN:=by
   have:maxN=140737488355328:=rfl
   simp only[List.length_map];omega
  refine pwp_freezeB 4 hR hmx (.refl _) rfl ?_
  refine wf ?_
  exact end2 (.tuple2 (.ros rfl) (.refl _))⟩
end Go.Proofs
namespace Go.Proofs
open Go Go.Q
attribute [local irreducible] pwp pops PCalls OpN
instance atomsP_ct (p:Pat) [hs:Small (rBig p=false)]:FnC Tryz.prog 154 [.agg (ePat p)] (.tuple [.slice ((atomsP p).1.map eAtm) .ro,.raw (.int .i64 (atomsP p).2)]):=⟨by
 have i1:FnC Tryz.prog 196 [.agg (ePat p)] (.tuple [.slice ((atomsP p).1.map eAtm) .ro,.raw (.int .i64 (atomsP p).2)]):=complete_fn p hs.out
 refine fn_of Tryz.func154 Tryz.ntmps154 rfl (rs:= [.tmp 2,.tmp 3]) rfl rfl fun hb LF=>?_
 refine wf ?_
 exact end2 (.refl _)⟩
end Go.Proofs
namespace Go.Proofs
open Go Go.Q
attribute [local irreducible] pwp pops PCalls OpN
instance zr_res:ZeroE Tryz.prog 142 [.slice [] .ro,.raw (.map none)]:=ZeroE.of (us:= [PV.slice [] .ro,.raw (.map none)].map zv) (by kernel_rfl) (by kernel_rfl)
def eRsv (s:List Sto) (m:Nat):List PV:= [.slice (s.map eSto) .ro,.raw (.map (some m))]
def knownR (m:Nat) (known:List (Dig × List Atm)):List Res:= [.map m (eMap kDig (vSl eAtm) known)]
theorem newResolver_fn (s:List Sto) (t:Tag):PCalls Tryz.prog 70 [.slice (s.map eSto) t] [] (fun r L'=> ∃ m,r= .pt (eRsv s m) 0∧L'=knownR m []):=by
 refine pcalls_bd Tryz.func70 rfl Tryz.ntmps70 (rs:= [.tmp 2]) rfl rfl fun hb LF=>?_
 refine wf ?_
 refine s_makeMap fun m=>?_
 refine wf ?_
 exact⟨trivial,_,knownR m [],.cons (.tmp 2) .nil,.refl _,m,rfl,rfl⟩
end Go.Proofs
namespace Go.Proofs
open Go Go.Q
attribute [local irreducible] pwp pops PCalls OpN
theorem getS_idx (s:List Sto) (d:Dig):(idxF (fun x=>decide (x.id=d)) s < 0→getS s d=none)∧(∀ k:Nat,idxF (fun x=>decide (x.id=d)) s=(k:Int)→ ∃ h:k < s.length,getS s d=some s[k].patch):=by
 have key: ∀ l:List Sto,(l.any (fun x=>decide (x.id=d))=false→getS l d=none)∧(l.any (fun x=>decide (x.id=d))=true→ ∃ h:l.findIdx (fun x=>decide (x.id=d)) < l.length,getS l d=some (l[l.findIdx fun x=>decide (x.id=d)]).patch):=fun l=>by
  induction l with
  |nil=>exact⟨fun _=>rfl,fun h=>by cases h⟩
  |cons x l ih=>
   by_cases hx:x.id=d
   ·refine⟨fun h=>by simp[hx]at h,fun _=>?_⟩
    have e:(x::l).findIdx (fun x=>decide (x.id=d))=0:=by simp[List.findIdx_cons,hx]
    refine⟨by rw[e];simp,?_⟩
    simp only[e,List.getElem_cons_zero]
    rw[getS,if_pos hx]
   ·have eg:getS (x::l) d=getS l d:=by rw[getS,if_neg hx]
    refine⟨fun h=>by rw[eg];exact ih.1 (by simpa [hx]using h),fun h=>?_⟩
    obtain⟨h1,h2⟩:=ih.2 (by simpa [hx]using h)
    have e:(x::l).findIdx (fun x=>decide (x.id=d))=l.findIdx (fun x=>decide (x.id=d))+1:=by simp[List.findIdx_cons,hx]
    refine⟨by rw[e,List.length_cons];omega,?_⟩
    simp only[e,List.getElem_cons_succ]
    rw[eg,h2]
 obtain⟨k1,k2⟩:=key s
 refine⟨fun h=>k1 ?_,fun k h=>?_⟩
 ·unfold idxF at h
  by_cases ha:s.any (fun x=>decide (x.id=d))=true
  ·rw[if_pos ha]at h;omega
  ·simpa using ha
 ·unfold idxF at h
  by_cases ha:s.any (fun x=>decide (x.id=d))=true
  ·rw[if_pos ha]at h
   have hk:s.findIdx (fun x=>decide (x.id=d))=k:=by omega
   obtain⟨h1,h2⟩:=k2 ha
   subst hk
   exact⟨h1,h2⟩
  ·rw[if_neg ha]at h;omega
instance get1_ct (x:Sto) (d:Dig):FnC Tryz.prog 55 [.agg (eSto x),.pt (eDig d) 0] (.raw (.bool (decide (x.id=d)))):=⟨by
 refine fn_of Tryz.func55 Tryz.ntmps55 rfl (rs:= [.tmp 3]) rfl rfl fun hb LF=>?_
 refine wf ?_
 exact end1 (.refl _)⟩
instance GetP_ct (s:List Sto) (t:Tag) (d:Dig):FnC Tryz.prog 16 [.slice (s.map eSto) t,.agg (eDig d)] (.tuple [.agg (ePat ((getS s d).getD Pat.zero)),.raw (.bool (getS s d).isSome)]):=⟨by
 have i1: ∀ t,FnC Tryz.prog 51 [.slice (s.map eSto) t,.clo 55 [.pt (eDig d) 0]] (.raw (.int .i64 (idxF (fun x=>decide (x.id=d)) s))):=fun t=>indexS_fn _ _ _ s t
 obtain⟨g1,g2⟩:=getS_idx s d
 refine fn_of Tryz.func16 Tryz.ntmps16 rfl (rs:= [.cell 4 32,.tmp 5]) rfl rfl fun hb LF=>?_
 refine wf ?_
 refine s_alloc fun b4=>?_
 refine wf ?_
 refine pwp_condD (fun h=>?_) (fun h=>?_)
 ·rw[g1 h]
  rw[Option.isSome_none,Option.getD_none]
  refine wf ?_
  exact endC1 rfl (.refl _)
 ·obtain⟨k,hk⟩: ∃ k:Nat,idxF (fun x=>decide (x.id=d)) s=(k:Int):=⟨(idxF (fun x=>decide (x.id=d)) s).toNat,by omega⟩
  obtain⟨hlt,hg⟩:=g2 k hk
  rw[hk,hg,Option.isSome_some,Option.getD_some]
  refine wf ?_
  exact endC1 rfl (.refl _)⟩
end Go.Proofs
