/- The small logic: ranging over a map that turns no more. Library, no statement of its own. -/
import Derived.Test.YtaibdmankdppkaaGreatDoorYar
import Derived.Test.YtaibdmankdppkaaGreatDoorYaf
import Derived.Maps.RangeRun
import Derived.Test.YtaibdmankdppkaaGreatDoorYap
import Derived.Test.YtaibdmankdppkaaGreatDoorYam
import Derived.Test.YtaibdmankdppkaaGreatDoorYao
import Derived.Test.YtaibdmankdppkaaGreatDoorYan
import Derived.Test.YtaibdmankdppkaaGreatDoorYal
import Derived.Test.YtaibdmankdppkaaGreatDoorYaq
set_option linter.unusedSimpArgs false
set_option linter.unusedVariables false
set_option maxHeartbeats 8000000
namespace Go.Q
open Go
theorem Dt.drew {w:World} {g:Gh} {L:List Res} (hi:Dt w g L):Dt w.drew g L∧Ec (Al L) w g w.drew g:=
 ⟨⟨hi.sat,fun b z hz=>(hi.satM b z hz).congr rfl,fun r hr=>by have:=hi.res r hr;cases r<;>first|exact this|(rename_i t _ _;cases t<;>exact this),hi.nodup,hi.glob⟩,
  ⟨rfl,rfl,⟨rfl,RE _⟩,Ah _,fun _ _ _=>rfl,.refl g,fun _ _ _=>⟨fun _=>rfl,rfl⟩⟩⟩
section
variable {P:Program} {N:Nat} {all:Array Oper} {K:Env→List Res→Prop} {fl:List Bool} {os:List Oper} {ρ:Env} {L:List Res} {Q:PPost} {c:Code} {d:Nat} {ty:TypeId} {pos:String} {af:Array Edge} {T KT ET:Nat}
theorem nn {x:Operand} {kvs:List (PV × PV)} (hx:ρ.ev x= .fmap kvs) [hT:NG P T KT ET]
  (k: ∀ b,AV P N all K fl.tail os (CV ρ d (.raw (.pointer (some ⟨b,0,none⟩)))) (.iter b kvs []::L)) (hd:Nat.blt d N=true:=by rfl) (hf:fl.headD true=true:=by rfl):
  AV P N all K fl (⟨some d,.range T x,ty,pos,af,none⟩::os) ρ L:=
 Da rfl (PO hd) hf (fun a w g ha hi=>by
  have h1:=ha x (by simp[Op.operands])
  rw[hx]at h1
  have key: ∃ m es c,a.eval x= .map m∧(m=none→c=0)∧(∀ b,m=some b→w.heap[b]? =some (.map es c))∧Ub g m es c∧Entries g es kvs∧H0 es c:=by
   generalize a.eval x=v at h1
   cases h1 with
   |fmap hM hl hk hv=>obtain⟨hc,hs⟩:=hi.satM _ _ hM;exact⟨_,_,_,rfl,(fun e=>by cases e),(fun b e=>by cases e;exact hc),.inr ⟨_,rfl,hM⟩,⟨hl,hk,hv⟩,hs⟩
   |nilM=>exact⟨none,#[],0,rfl,fun _=>rfl,(fun b e=>by cases e),.inl ⟨rfl,rfl,rfl⟩,⟨rfl,by simp,by simp⟩,⟨by simp,by simp⟩⟩
  obtain⟨m,es,cl,e1,e0,e2,hR,hE,hS⟩:=key
  obtain⟨i1,s1⟩:=hi.allocO (.mapIter m cl #[] cl)
  have hr:(Instr.range T (a.eval x)).run P w= .ok (.pointer (some ⟨w.heap.size,0,none⟩)) (w.alloc (.mapIter m cl #[] cl)):=by
   rw[e1]
   cases m with
   |none=>rw[e0 rfl];exact run_range_nilMap w T KT ET hT.out
   |some b=>exact run_range_map w T KT ET b es cl hT.out (e2 b rfl)
  have hr':(execOp a.eval ⟨some d,.range T x,ty,pos,af,none⟩).run P w= .ok (.value (.pointer (some ⟨w.heap.size,0,none⟩))) (w.alloc (.mapIter m cl #[] cl)):=by
   simp only[execOp,hr,Sem.run_bind,Result.andThen_ok,Sem.run_pure]
  refine Oper.wq_of_run hr' ?_
  obtain⟨f1,f2⟩:=hi.fresh (b:=w.heap.size) (Ah _)
  refine⟨_,_,g,_,rfl,.raw _,⟨i1.sat,i1.satM,fun r hr=>?_,?_,i1.glob⟩,s1,?_,k _⟩
  ·rcases AI.1 hr with rfl|hr
   ·exact⟨m,es,cl,by show(w.heap.push _)[w.heap.size]? =_;simp,hR,hE,f1,f2,hS,by simp⟩
   ·exact i1.res r hr
  ·simp only[Al,Ax,Res.block]
   exact Bf.2 ⟨fun h=>by have:=hi.lt h;omega,hi.nodup⟩
  ·intro b' hb' hlt
   simp only[Al,Ax,Res.block]at hb'
   rcases AI.1 hb' with rfl|hb'
   ·omega
   ·exact hb')
theorem WA {es:Array MapEntry} {i:Nat} (h:i < es.size):(es.toList.map (·.born)).getD i 0=es[i].born:=by simp[List.getD,h]
theorem H0.inj {es:Array MapEntry} {c i j:Nat} (hS:H0 es c) (hi:i < es.size) (hj:j < es.size) (e:es[i].born=es[j].born):i=j:=by
 have hp:=Ay.1 hS.nd
 have hi':i < (es.toList.map (·.born)).length:=by simpa using hi
 have hj':j < (es.toList.map (·.born)).length:=by simpa using hj
 have e':(es.toList.map (·.born))[i]=(es.toList.map (·.born))[j]:=by simpa using e
 rcases RB i j with h|h|h
 ·exact absurd e' (hp i j hi' hj' h)
 ·exact h
 ·exact absurd e'.symm (hp j i hj' hi' h)
theorem tA {x:Operand} {b:Nat} {kvs:List (PV × PV)} {done:List Nat} {L':List Res} (hx:ρ.ev x= .raw (.pointer (some ⟨b,0,none⟩))) (hp:L.Perm (.iter b kvs done::L'))
  (k1:(∀ i,i < kvs.length→i∈done)→AV P N all K fl.tail os (CV ρ d (.tuple [.raw (.bool false)])) (.iter b kvs done::L'))
  (k2: ∀ i (h:i < kvs.length),i∉done→AV P N all K fl.tail os (CV ρ d (.tuple [.raw (.bool true),kvs[i].1,kvs[i].2])) (.iter b kvs (done++ [i])::L')) (hd:Nat.blt d N=true:=by rfl) (hf:fl.headD true=true:=by rfl):
  AV P N all K fl (⟨some d,.next x false,ty,pos,af,none⟩::os) ρ L:=
 Da rfl (PO hd) hf (Fc.perm hp fun a w g ha hi=>by
  have h1:=Cd ha (x:=x) (by simp[Op.operands]) hx
  obtain⟨m,es,cl,hb,hR,hE,hH,hM,hS,hD⟩:=hi.res _ AG
  have hlen:=hE.len
  rcases hR with ⟨rfl,rfl,rfl⟩|⟨bm,rfl,hbm⟩
  ·have hr:(execOp a.eval ⟨some d,.next x false,ty,pos,af,none⟩).run P w= .ok (.value (.tuple #[.bool false])) w:=by
    simp only[execOp,h1,Instr.next,getObj,Sem.run_bind,Sem.run,hb,Result.andThen]
    rfl
   refine Oper.wq_of_run hr ?_
   exact⟨_,_,g,_,rfl,EB.tuple (.cons (.raw _) (.nil g)),hi,.refl _ _ _,.refl _ _,k1 fun i hi'=>absurd hi' (by simp at hlen;omega)⟩
  ·obtain⟨hc,_⟩:=hi.satM _ _ hbm
   rcases run_next_at (P:=P) w ty b bm cl cl _ es cl hb hc hS.lt (Ah _)with ⟨h0,hr⟩|⟨e,he,w1,hw,hr⟩
   ·have hr':(execOp a.eval ⟨some d,.next x false,ty,pos,af,none⟩).run P w= .ok (.value (.tuple #[.bool false])) w:=by
     simp only[execOp,h1,hr,Sem.run_bind,Result.andThen_ok,Sem.run_pure]
    refine Oper.wq_of_run hr' ?_
    refine⟨_,_,g,_,rfl,EB.tuple (.cons (.raw _) (.nil g)),hi,.refl _ _ _,.refl _ _,k1 fun i hi'=>?_⟩
    have hi2:i < es.size:=by omega
    have hs:=all_seen es _ h0 es[i] (by simp)
    have hm:es[i].born∈done.map fun i=>(es.toList.map (·.born)).getD i 0:=by simpa using hs
    obtain⟨j,hj,e⟩:=AQ.1 hm
    rw[WA (hD j hj)]at e
    rw[←hS.inj (hD j hj) hi2 e];exact hj
   ·obtain⟨hm,hns⟩:=mem_left he
    obtain⟨i,hi1,rfl⟩:=AZ.1 hm
    have hi2:i < es.size:=by simpa using hi1
    have hi3:i < kvs.length:=by omega
    rw[Y5]at hns hr
    have hnd:i∉done:=fun hid=>by
     have:es[i].born∈done.map fun i=>(es.toList.map (·.born)).getD i 0:=AQ.2 ⟨i,hid,WA hi2⟩
     have h2:((done.map fun i=>(es.toList.map (·.born)).getD i 0).toArray).contains es[i].born=true:=by simpa using this
     rw[hns]at h2;cases h2
    have hr':(execOp a.eval ⟨some d,.next x false,ty,pos,af,none⟩).run P w= .ok (.value (.tuple #[.bool true,es[i].key,es[i].val])) (Go.ChangeMaps.setBlock w1 b (.mapIter (some bm) cl (((done.map fun i=>(es.toList.map (·.born)).getD i 0).toArray).push es[i].born) cl)):=by
     simp only[execOp,h1,hr,Sem.run_bind,Result.andThen_ok,Sem.run_pure]
    refine Oper.wq_of_run hr' ?_
    have hi1:Dt w1 g (.iter b kvs done::L')∧Ec (Al (.iter b kvs done::L')) w g w1 g:=by
     rcases hw with rfl|rfl
     ·exact⟨hi,.refl _ _ _⟩
     ·exact hi.drew
    obtain⟨hi1,hs1⟩:=hi1
    have hndp:=hi1.nodup
    simp only[Al,Ax,Res.block]at hndp
    have hlt:b < w1.heap.size:=hi1.lt (by simp[Al,Res.block])
    have i2:=(hi1.sub (EP _ _)).put (.mapIter (some bm) cl (((done.map fun i=>(es.toList.map (·.born)).getD i 0).toArray).push es[i].born) cl) hH hM (Bf.1 hndp).1
    refine⟨_,.tuple [.raw (.bool true),kvs[i].1,kvs[i].2],g,.iter b kvs (done++ [i])::L',rfl,EB.tuple (.cons (.raw _) (.cons (hE.key i hi2 hi3) (.cons (hE.val i hi2 hi3) (.nil g)))),⟨i2.sat,i2.satM,fun r hr=>?_,hi.nodup,hi.glob⟩,hs1.trans (.refl _ _) (.put _ (by simp[Al,Res.block])),fun b' hb' _=>hb',k2 i hi3 hnd⟩
    rcases AI.1 hr with rfl|hr
    ·refine⟨some bm,es,cl,?_,.inr ⟨bm,rfl,hbm⟩,hE,hH,hM,hS,fun j hj=>?_⟩
     ·rw[show Go.ChangeMaps.setBlock w1 b _=w1.putObj b _ from rfl,World.putObj_heap_same hlt]
      congr 2
      simp[hi2]
     ·rcases Aj.1 hj with hj|hj
      ·exact hD j hj
      ·rw[An.1 hj];exact hi2
    ·exact i2.res r hr)
theorem nw {x:Operand} {b i:Nat} {kvs:List (PV × PV)} {done:List Nat} (hx:ρ.ev x= .raw (.pointer (some ⟨b,0,none⟩))) (hm:Res.iter b kvs (done++ [i])∈L) (h:i < kvs.length)
  (k:AV P N all K fl.tail os (CV ρ d (.tuple [kvs[i].1,kvs[i].2])) L) (hd:Nat.blt d N=true:=by rfl):AV P N all K fl (⟨some d,.entry x,ty,pos,af,none⟩::os) ρ L:=
 Bh hd (B7 fun a w g ha hi=>by
  have h1:=Cd ha (x:=x) (by simp[Op.operands]) hx
  obtain⟨m,es,cl,hb,hR,hE,hH,hM,hS,hD⟩:=hi.res _ hm
  have hi2:i < es.size:=hD i (by simp)
  rcases hR with ⟨rfl,rfl,rfl⟩|⟨bm,rfl,hbm⟩
  ·simp at hi2
  ·obtain⟨hc,_⟩:=hi.satM _ _ hbm
   have e1:((done++ [i]).map fun i=>(es.toList.map (·.born)).getD i 0).toArray=((done.map fun i=>(es.toList.map (·.born)).getD i 0).toArray).push es[i].born:=by simp[hi2]
   rw[e1]at hb
   have hr:=run_entry_at (P:=P) w b bm cl _ es cl es[i] hb hc (by simp) hS.nd
   refine⟨_,?_,EB.tuple (.cons (hE.key i hi2 h) (.cons (hE.val i hi2 h) (.nil g)))⟩
   simp only[execOp,h1,hr,Sem.run_bind,Result.andThen_ok,Sem.run_pure]) k
end
theorem MF {κ:Type} [DecidableEq κ] {k:κ}: ∀ {l:List κ},Gy k l=none→Gy k (l++ [k])=some l.length
 | [],_=>by simp[Gy]
 |a::l,h=>by
  simp only[Gy]at h
  by_cases e:k=a
  ·simp[e]at h
  ·simp only[e,if_false,Ue]at h
   simp[Gy,e,MF h]
theorem Om {κ α:Type} [DecidableEq κ] (k:κ) (x y:α): ∀ l:List (κ × α),Cn k x (Cn k y l)=Cn k x l
 | []=>by simp[Cn]
 |(a,z)::l=>by
  by_cases e:k=a
  ·subst e;simp[Cn]
  ·simp[Cn,e,Om k x y l]
structure cZ {κ α:Type} [DecidableEq κ] (es:Array MapEntry) (cl:Nat) (l:List (κ × α)) (k0:κ) (i:Nat) (n:Int):Prop where
 st:H0 es cl
 idx:Gy k0 (l.map (·.1))=some i
 len:es.size=l.length
 born: ∀ h:i < es.size,(es[i].born:Int)=n
def JV (es:Array MapEntry) (kvs:List (PV × PV)):Res:= .know (es.toList.map (·.key)++es.toList.map (·.val)) (kvs.map (·.1)++kvs.map (·.2))
theorem Entries.know {g:Gh} {es:Array MapEntry} {kvs:List (PV × PV)} (h:Entries g es kvs):EB g (es.toList.map (·.key)++es.toList.map (·.val)) (kvs.map (·.1)++kvs.map (·.2)):=by
 have hl:=h.len
 refine EB.append ⟨by simp[hl],fun i h1 h2=>?_⟩ ⟨by simp[hl],fun i h1 h2=>?_⟩
 ·simpa using h.key i (by simpa using h1) (by simpa using h2)
 ·simpa using h.val i (by simpa using h1) (by simpa using h2)
theorem Entries.of_know {g:Gh} {es:Array MapEntry} {kvs:List (PV × PV)} (hl:es.size=kvs.length) (h:EB g (es.toList.map (·.key)++es.toList.map (·.val)) (kvs.map (·.1)++kvs.map (·.2))):Entries g es kvs:=by
 refine⟨hl,fun i h1 h2=>?_,fun i h1 h2=>?_⟩
 ·have:=h.at_ i (by simp;omega) (by simp;omega)
  rw[BC (by simpa using h1),BC (by simpa using h2)]at this
  simpa using this
 ·have:=h.at_ (es.size+i) (by simp;omega) (by simp;omega)
  rw[Bk (by simp),Bk (by simp;omega)]at this
  simpa [hl]using this
section
variable {P:Program} {N:Nat} {all:Array Oper} {K:Env→List Res→Prop} {fl:List Bool} {os:List Oper} {ρ:Env} {L:List Res} {d:Nat} {ty:TypeId} {pos:String} {af:Array Edge}
variable {κ α:Type} [DecidableEq κ] {ek:κ→PV} {ev:α→PV} {T KT ET:Nat}
theorem PW [hT:NG P T KT ET] [hK:SB P KT ek] {a0:α} [hz:ZV P ET ev a0] {x y:Operand} {b:Nat} {l:List (κ × α)} {k0:κ} {L':List Res} (hx:ρ.ev x= .raw (.map (some b))) (hp:L.Perm (.map b (BQ ek ev l)::L')) (hk:Le (ρ.ev y) (ek k0))
  (k: ∀ es cl i n,cZ es cl (Cn k0 ((C4 k0 l).getD a0) l) k0 i n→AV P N all K fl.tail os (CV ρ d (.tuple [ev ((C4 k0 l).getD a0),.raw (.int .i64 n)])) (.raw b (.map es cl)::JV es (BQ ek ev (Cn k0 ((C4 k0 l).getD a0) l))::L')) (hd:Nat.blt d N=true:=by rfl) (hfl:fl.headD true=true:=by rfl):
  AV P N all K fl (⟨some d,.mapEntry T x y,ty,pos,af,none⟩::os) ρ L:=
 Da rfl (PO hd) hfl (Fc.perm hp fun a w g ha hi=>by
  have h1:=Cd ha (x:=x) (by simp[Op.operands]) hx
  have h2:=hk g _ (ha y (by simp[Op.operands]))
  obtain⟨es,cl,hb,hE,hH,hM,hS⟩:=hi.res _ (AG)
  have hl:es.size=l.length:=by simpa [BQ]using hE.len
  have hf:=hK.out.find g (a.eval y) k0 es.toList (l.map (·.1)) w h2 (by simpa using hl) (fun i h h'=>by
   have:=hE.key i (by simpa using h) (by simpa [BQ]using h')
   simpa [BQ]using this)
  have hlt:b < w.heap.size:=(BF.1 hb).1
  have hnd:=hi.nodup
  simp only[Al,Ax,Res.block]at hnd
  have hrest:Dt w g L':=hi.sub (EP _ _)
  have fin: ∀ (es':Array MapEntry) (cl' i:Nat) (n:Int) (u:Value),Entries g es' (BQ ek ev (Cn k0 ((C4 k0 l).getD a0) l))→cZ es' cl' (Cn k0 ((C4 k0 l).getD a0) l) k0 i n→VR g u (ev ((C4 k0 l).getD a0))→(Instr.mapEntry T (a.eval x) (a.eval y)).run P w= .ok (.tuple #[u,goInt n]) (w.putObj b (.map es' cl'))→
    Oper.wq P ⟨some d,.mapEntry T x y,ty,pos,af,none⟩ a w (fun a' w'=> ∃ v x g' L'',a'=a.put (some d) v∧VR g' v x∧Dt w' g' L''∧Ec (Al (.map b (BQ ek ev l)::L')) w g w' g'∧Db w (.map b (BQ ek ev l)::L') L''∧AV P N all K fl.tail os (CV ρ d x) L''):=fun es' cl' i n u hE' hO hu hr=>by
   have hr':(execOp a.eval ⟨some d,.mapEntry T x y,ty,pos,af,none⟩).run P w= .ok (.value (.tuple #[u,goInt n])) (w.putObj b (.map es' cl')):=by
    simp only[execOp,hr,Sem.run_bind,Result.andThen_ok,Sem.run_pure]
   refine Oper.wq_of_run hr' ?_
   have i2:=hrest.put (.map es' cl') hH hM (Bf.1 hnd).1
   refine⟨_,.tuple [ev ((C4 k0 l).getD a0),.raw (.int .i64 n)],g,.raw b (.map es' cl')::JV es' (BQ ek ev (Cn k0 ((C4 k0 l).getD a0) l))::L',rfl,EB.tuple (.cons hu (.cons (.raw _) (.nil g))),⟨i2.sat,i2.satM,fun r hr=>?_,?_,hi.glob⟩,.put _ (by simp[Al,Res.block]),fun b' hb' _=>?_,k es' cl' i n hO⟩
   ·rcases AI.1 hr with rfl|hr
    ·exact⟨World.putObj_heap_same hlt,hH,hM⟩
    ·rcases AI.1 hr with rfl|hr
     ·exact hE'.know
     ·exact i2.res r hr
   ·simpa only[Al,Ax,Res.block,JV]using hnd
   ·simpa only[Al,Ax,Res.block,JV]using hb'
  cases hi':Gy k0 (l.map (·.1))with
  |none=>
   rw[hi']at hf
   obtain⟨i0,z,z1,z2,z3⟩:=hz.out
   have e0:(C4 k0 l).getD a0=a0:=by rw[JN k0 hi'];rfl
   rw[e0]at fin
   rw[Gq k0 a0 hi']at fin
   refine fin (es.push { key:=a.eval y,val:=z,born:=cl }) (cl+1) l.length cl z ?_ ⟨hS.push rfl,?_,by simp[hl],fun h=>?_⟩ (z3 g) ?_
   ·rw[BQ,Ak]
    refine⟨by simp[hl],fun i j1 j2=>?_,fun i j1 j2=>?_⟩
    ·by_cases hi2:i < es.size
     ·rw[MW hi2,BC (by simp;omega)]
      exact hE.key i hi2 (by simp[BQ];omega)
     ·have e:i=es.size:=by simp at j1;omega
      subst e
      rw[Bk (by simp[hl])]
      rw[MX];simpa [hl]using h2
    ·by_cases hi2:i < es.size
     ·rw[MW hi2,BC (by simp;omega)]
      exact hE.val i hi2 (by simp[BQ];omega)
     ·have e:i=es.size:=by simp at j1;omega
      subst e
      rw[Bk (by simp[hl])]
      rw[MX];simpa [hl]using z3 g
   ·rw[Ak]
    have:=MF hi'
    simpa using this
   ·simp[←hl]
   ·unfold Instr.mapEntry
    simp only[Sem.run_bind,run_underlying hT.out,Result.andThen_ok,h1,MapKept.run_getObj_map hb,hK.out.check false g _ k0 w h2,hf,Sh,zeroValue,typeInfo,run_program,z1,z2,Sem.run_pure,MapKept.run_setObj_map _ hb]
    rfl
  |some i=>
   rw[hi']at hf
   obtain⟨y0,e1,e2,e3⟩:=Hz k0 ((C4 k0 l).getD a0) hi'
   have hli:i < l.length:=(Bb.1 e1).1
   have hli':i < es.size:=by omega
   have hy0:l[i]=(k0,y0):=(Bb.1 e1).2
   have e0:(C4 k0 l).getD a0=y0:=by rw[e3];rfl
   rw[e0]at e2 fin
   have e4:l.set i (k0,y0)=l:=by rw[←hy0];exact List.set_getElem_self hli
   rw[e4]at e2
   rw[e2]at fin
   have hkey:VR g es[i].key (ek k0):=by
    have:=hE.key i hli' (by simp[BQ];exact hli)
    simpa [BQ,hy0]using this
   have hval:VR g es[i].val (ev y0):=by
    have:=hE.val i hli' (by simp[BQ];exact hli)
    simpa [BQ,hy0]using this
   have hsame:=hK.out.same g _ _ k0 hkey h2
   refine fin (es.modify i fun e=>{ e with key:=a.eval y }) cl i es[i].born es[i].val ?_ ⟨hS.modify fun _=>rfl,hi',by simpa using hl,fun h=>by simp[Ey]⟩ hval ?_
   ·refine⟨by simp[BQ,hl],fun j j1 j2=>?_,fun j j1 j2=>?_⟩
    ·simp only[H6]at j1
     rw[Ey (by simpa using j1)]
     by_cases hj:i=j
     ·subst hj
      simp[BQ,hy0];exact h2
     ·simp only[hj,if_false]
      exact hE.key j j1 j2
    ·simp only[H6]at j1
     rw[Ey (by simpa using j1)]
     by_cases hj:i=j
     ·subst hj
      simp[BQ,hy0];exact hval
     ·simp only[hj,if_false]
      exact hE.val j j1 j2
   ·have hf2:(Instr.findKey KT (a.eval y) es.toList).run P w= .ok (some (i,es[i].val)) w:=by rw[hf];simp[hli']
    have hst:(Instr.keyThatStays es[i].key (a.eval y)).run P w= .ok (a.eval y) w:=by unfold Instr.keyThatStays;rw[if_pos hsame];rfl
    unfold Instr.mapEntry
    simp only[Sem.run_bind,run_underlying hT.out,Result.andThen_ok,h1,MapKept.run_getObj_map hb,hK.out.check false g _ k0 w h2,hf2,CR hli',Ed,BU,hst,MapKept.run_setObj_map _ hb]
    rfl)
theorem Mh {es:Array MapEntry} {cl i:Nat} {n:Int} {x y z:Operand} {b:Nat} {l:List (κ × α)} {k0:κ} {x0:α} {L':List Res} (hO:cZ es cl l k0 i n) (hx:ρ.ev x= .raw (.map (some b))) (hy:ρ.ev y= .raw (.int .i64 n)) (hz:Le (ρ.ev z) (ev x0)) (hp:L.Perm (.raw b (.map es cl)::JV es (BQ ek ev l)::L'))
  (k:AV P N all K fl.tail os ρ (.map b (BQ ek ev (Cn k0 x0 l))::L')) (hfl:fl.headD true=true:=by rfl):AV P N all K fl (⟨none,.entryStore T x y z,ty,pos,af,none⟩::os) ρ L:=
 Da rfl (fun _ e=>by cases e) hfl (Fc.perm hp fun a w g ha hi=>by
  have h1:=Cd ha (x:=x) (by simp[Op.operands]) hx
  have h2:=Cd ha (x:=y) (by simp[Op.operands]) hy
  have h3:=hz g _ (ha z (by simp[Op.operands]))
  obtain⟨hb,hH,hM⟩:=hi.res _ (AG)
  have hkn:=hi.res _ (AH _ AG)
  have hE:Entries g es (BQ ek ev l):= .of_know (by simpa [BQ]using hO.len) hkn
  obtain⟨y0,e1,e2,_⟩:=Hz k0 x0 hO.idx
  have hli:i < l.length:=(Bb.1 e1).1
  have hli':i < es.size:=by have:=hO.len;omega
  have hy0:l[i]=(k0,y0):=(Bb.1 e1).2
  have hlt:b < w.heap.size:=(BF.1 hb).1
  have hbn:=hO.born hli'
  have hnd:=hi.nodup
  simp only[Al,Ax,Res.block,JV]at hnd
  have hrest:Dt w g L':=hi.sub ((EP _ _).trans (EP _ _))
  have hfi:es.findIdx? (fun e=>(e.born:Int)==n)=some i:=by
   rw[Array.findIdx?_eq_some_iff_getElem]
   refine⟨hli',by simpa using hbn,fun j hj=>?_⟩
   have hj':j < es.size:=by omega
   intro h
   have:(es[j].born:Int)=n:=by simpa using h
   have:=hO.st.inj hj' hli' (by omega)
   omega
  have hr:(Instr.entryStore T (a.eval x) (a.eval y) (a.eval z)).run P w= .ok () (w.putObj b (.map (es.modify i fun e=>{ e with val:=a.eval z }) cl)):=by
   unfold Instr.entryStore
   simp only[Sem.run_bind,h1,h2,MapKept.run_getObj_map hb,asInt,asIntOf,Sem.run_pure,Result.andThen_ok,hfi,MapKept.run_setObj_map _ hb]
   rfl
  have hr':(execOp a.eval ⟨none,.entryStore T x y z,ty,pos,af,none⟩).run P w= .ok .skip (w.putObj b (.map (es.modify i fun e=>{ e with val:=a.eval z }) cl)):=by
   simp only[execOp,hr,Sem.run_bind,Result.andThen_ok,Sem.run_pure]
  refine Oper.wq_of_run hr' ?_
  have i2:=hrest.put (.map (es.modify i fun e=>{ e with val:=a.eval z }) cl) hH hM (Bf.1 hnd).1
  refine⟨undef,.raw undef,g,.map b (BQ ek ev (Cn k0 x0 l))::L',rfl,.raw _,⟨i2.sat,i2.satM,fun r hr=>?_,?_,hi.glob⟩,.put _ (by simp[Al,Res.block]),fun b' hb' _=>?_,k⟩
  ·rcases AI.1 hr with rfl|hr
   ·refine⟨_,cl,World.putObj_heap_same hlt,?_,hH,hM,hO.st.modify fun _=>rfl⟩
    rw[e2]
    refine⟨by simp[BQ,hO.len],fun j j1 j2=>?_,fun j j1 j2=>?_⟩
    ·simp only[H6]at j1
     have j3:j < l.length:=by have:=hO.len;omega
     rw[Ey (by simpa using j1)]
     have:=hE.key j j1 (by simp[BQ];exact j3)
     by_cases hj:i=j
     ·subst hj
      simpa [BQ,hy0]using this
     ·simp only[hj,if_false]
      simpa [BQ,P1 hj]using this
    ·simp only[H6]at j1
     have j3:j < l.length:=by have:=hO.len;omega
     rw[Ey (by simpa using j1)]
     by_cases hj:i=j
     ·subst hj
      simp[BQ];exact h3
     ·simp only[hj,if_false]
      have:=hE.val j j1 (by simp[BQ];exact j3)
      simpa [BQ,P1 hj]using this
   ·exact i2.res r hr
  ·simpa only[Al,Ax,Res.block]using hnd
  ·simpa only[Al,Ax,Res.block,JV]using hb')
end
end Go.Q
namespace Go.Proofs
open Go Go.Q
attribute [local irreducible] ER AV BA Fc
def YA (x:List Dig × CF):PV:= .slice (x.1.map eDig) x.2
instance A0C:ZV Tryz.prog 24 YA ([],.nil):=Y8 (v:= .slice none 0 0) (by kernel_rfl) fun _=> .nilN none (by simp)
def an (x:List Dig × CF):Res:= .tok x.2 x.1.length 32
def Uk (m:List (Dig × (List Dig × CF))):List Res:=m.map fun e=>an e.2
def sR (k:Dig) (m:List (Dig × (List Dig × CF))) (R:List Res):Prop:=(C4 k m=none∧R=Uk m)∨ ∃ v,C4 k m=some v∧(Uk m).Perm (an v::R)
theorem PR (k:Dig): ∀ m:List (Dig × (List Dig × CF)),∃ R,sR k m R∧ ∀ v,(Uk (Cn k v m)).Perm (an v::R)
 | []=>⟨[],.inl ⟨rfl,rfl⟩,fun v=> .refl _⟩
 |(a,y)::l=>by
  by_cases e:k=a
  ·exact⟨Uk l,.inr ⟨y,by simp[C4,e],.refl _⟩,fun v=>by simp[Cn,e,Uk]⟩
  ·obtain⟨R,h1,h2⟩:=PR k l
   refine⟨an y::R,?_,fun v=>?_⟩
   ·rcases h1 with ⟨h,rfl⟩|⟨v,h,hp⟩
    ·exact .inl ⟨by simp[C4,e,h],rfl⟩
    ·exact .inr ⟨v,by simp[C4,e,h],(List.Perm.cons (an y) hp).trans (.swap _ _ _)⟩
   ·have e2:Cn k v ((a,y)::l)=(a,y)::Cn k v l:=by simp[Cn,e]
    rw[e2]
    exact(List.Perm.cons (an y) (h2 v)).trans (.swap _ _ _)
theorem Yq {P:Program} {N:Nat} {c:Code} {Q:PPost} {ρ:Env} {A LF R:List Res} {m:List (Dig × (List Dig × CF))} {k:Dig} (h:sR k m R) (hk:ER P N c Q ρ (A++an ((C4 k m).getD ([],.nil))::(R++LF))):ER P N c Q ρ (A++(Uk m++LF)):=by
 rcases h with ⟨h,rfl⟩|⟨v,h,hp⟩
 ·rw[h]at hk
  refine EO 32 ?_
  exact E0 Bc.symm hk
 ·rw[h]at hk
  exact E0 (A0S A (hp.append_right LF)) hk
def bh (m:List (Dig × (List Dig × CF))) (d:Dig):List Dig:=((C4 d m).getD ([],.nil)).1
def gK (G:List (Dig × List Dig)) (i:Nat):Dig:=(G.getD i (Dig.zero,[])).1
def gV (G:List (Dig × List Dig)) (i:Nat):List Dig:=(G.getD i (Dig.zero,[])).2
def bk (G:List (Dig × List Dig)) (done:List Nat) (d:Dig):List Dig:=(done.filter fun i=>decide (d∈gV G i)).map (gK G)
structure Ng (G:List (Dig × List Dig)) (done:List Nat) (y:Dig) (part ex:List Dig) (m:List (Dig × (List Dig × CF))):Prop where
 val: ∀ d,bh m d=bk G done d++(if d∈part then [y]else [])
 is: ∀ d,(C4 d m).isSome=true↔(∃ i∈done,d=gK G i∨d∈gV G i)∨d∈ex
theorem Ng.start (G:List (Dig × List Dig)) (y:Dig):Ng G [] y [] [] []:=⟨fun d=>by simp[bh,C4,bk],fun d=>by simp[C4]⟩
theorem di (m:List (Dig × (List Dig × CF))) (k d:Dig) (v:List Dig × CF):bh (Cn k v m) d=if d=k then v.1 else bh m d:=by
 unfold bh
 rw[Ei]
 by_cases h:d=k
 ·rw[if_pos h,if_pos h];rfl
 ·rw[if_neg h,if_neg h]
theorem Ng.own {G:List (Dig × List Dig)} {done:List Nat} {z y:Dig} {m:List (Dig × (List Dig × CF))} (h:Ng G done z [] [] m) (t:CF):Ng G done y [] [y] (Cn y (bh m y++ [],t) m):=by
 refine⟨fun d=>?_,fun d=>?_⟩
 ·rw[di]
  have:=h.val d
  by_cases e:d=y
  ·subst e;simpa using this
  ·rw[if_neg e];simpa using this
 ·rw[Ei]
  by_cases e:d=y
  ·subst e;simp
  ·rw[if_neg e,h.is d];simp[e]
theorem Ng.step {G:List (Dig × List Dig)} {done:List Nat} {y x:Dig} {part:List Dig} {m:List (Dig × (List Dig × CF))} (h:Ng G done y part (y::part) m) (hx:x∉part) (t:CF):Ng G done y (part++ [x]) (y::(part++ [x])) (Cn x (bh m x++ [y],t) m):=by
 refine⟨fun d=>?_,fun d=>?_⟩
 ·rw[di]
  have:=h.val d
  by_cases e:d=x
  ·subst e
   rw[if_neg hx]at this
   rw[if_pos rfl,this,if_pos (by simp)];simp
  ·rw[if_neg e,this]
   by_cases e2:d∈part<;>simp[e,e2]
 ·rw[Ei]
  by_cases e:d=x
  ·subst e;simp
  ·rw[if_neg e,h.is d];simp[e]
theorem Ng.next {G:List (Dig × List Dig)} {done:List Nat} {z:Dig} {i:Nat} {m:List (Dig × (List Dig × CF))} (h:Ng G done (gK G i) (gV G i) (gK G i::gV G i) m):Ng G (done++ [i]) z [] [] m:=by
 refine⟨fun d=>?_,fun d=>?_⟩
 ·rw[h.val d]
  unfold bk
  by_cases e:d∈gV G i<;>simp[e]
 ·rw[h.is d]
  constructor
  ·rintro(⟨j,hj,h2⟩|h2)
   ·exact .inl ⟨j,by simp[hj],h2⟩
   ·exact .inl ⟨i,by simp,by simpa using h2⟩
  ·rintro(⟨j,hj,h2⟩|h2)
   ·rcases Aj.1 hj with hj|hj
    ·exact .inl ⟨j,hj,h2⟩
    ·rw[An.1 hj]at h2
     exact .inr (by simpa using h2)
   ·cases h2
theorem Ng.len {G:List (Dig × List Dig)} {done:List Nat} {y:Dig} {part ex:List Dig} {m:List (Dig × (List Dig × CF))} (h:Ng G done y part ex m) (d:Dig):(bh m d).length≤done.length+1:=by
 rw[h.val d]
 have:(bk G done d).length≤done.length:=by unfold bk;rw[AR];exact Dk _ _
 rw[AA]
 split<;>simp<;>omega
theorem UR {done:List Nat} {n:Nat} (h1:done.Nodup) (h2: ∀ i∈done,i < n):done.length≤n:=by
 have:=Eg h1 (u:=List.range n) fun i hi=>Br.2 (h2 i hi)
 simpa using this
theorem xj (m:List (Dig × (List Dig × CF))):Le (.fmap (BQ kDig YA m)) (.fmap (BQ kDig (Jr eDig) (m.map fun e=>(e.1,e.2.1)))):=fun g v h=>by
 generalize hk:BQ kDig YA m=kvs at h
 cases h with
 |fmap hM hl hk2 hv=>
  subst hk
  refine .fmap hM (by simpa [BQ]using hl) (fun i h1 h2=>?_) (fun i h1 h2=>?_)
  ·have:=hk2 i h1 (by simpa [BQ]using h2)
   simpa [BQ]using this
  ·have:=hv i h1 (by simpa [BQ]using h2)
   simp only[BQ,BN]at this ⊢
   exact this.ro
 |nilM=>
  have:m= []:=by simpa [BQ]using hk
  subst this
  exact .nilM
theorem ZJ (m:List (Dig × (List Dig × CF))) (d:Dig):C4 d (m.map fun e=>(e.1,e.2.1))=(C4 d m).map (·.1):=by
 induction m with
 |nil=>rfl
 |cons x m ih=>
  obtain⟨a,y⟩:=x
  simp only[Ar,C4,ih]
  split<;>rfl
theorem dj (m:List (Dig × (List Dig × CF))) (d:Dig):ndG (m.map fun e=>(e.1,e.2.1)) d=bh m d:=by
 unfold ndG bh
 rw[ZJ]
 cases C4 d m<;>rfl
theorem et (G:List (Dig × List Dig)) (hl:G.length≤1000) (hnd: ∀ i,(gV G i).Nodup) (hvl: ∀ i,(gV G i).length≤1000):
  BA Tryz.prog 107 [.fmap (BQ kDig (Jr eDig) G)] [] (fun r L'=>(∃ m done,r= .fmap (BQ kDig YA m)∧done.Nodup∧(∀ i,i∈done↔i < G.length)∧Ng G done Dig.zero [] [] m)∧L'= []):=by
 refine C5 Tryz.func107 rfl Tryz.ntmps107 (rs:= [.tmp 2]) rfl rfl fun hb LF=>?_
 rw[B8]
 refine wf ?_
 refine Rr fun m=>?_
 refine wf ?_
 refine nn (kvs:=BQ kDig (Jr eDig) G) rfl fun b=>?_
 refine wf ?_
 refine Ad (σ:=List Nat × List (Dig × (List Dig × CF))) (fun k=>k.1.Nodup∧(∀ i∈k.1,i < G.length)∧Ng G k.1 Dig.zero [] [] k.2) (fun k=>G.length - k.1.length) (fun k=> [(3,.raw (.map (some m))),(10,.raw (.pointer (some ⟨b,0,none⟩)))]) (fun k=> .iter b (BQ kDig (Jr eDig) G) k.1:: .map m (BQ kDig YA k.2)::(Uk k.2++LF)) ([],[]) ⟨.nil,by simp,.start _ _⟩ ⟨rfl,rfl⟩ (.refl _) ?_
 rintro⟨done,T⟩ ⟨hdn,hdl,hT⟩
 dsimp only at hdn hdl hT ⊢
 have hkl:(BQ kDig (Jr eDig) G).length=G.length:=by simp[BQ]
 refine wf ?_
 refine tA rfl (.refl _) (fun hall=>?_) (fun i hi hni=>?_)
 ·refine wo ?_
  refine AD ?_
  refine DX ?_
  refine Ka (t:=false) rfl (fun h=>by cases h) (fun _=>?_)
  refine Gj ?_
  refine L7 [(3,.fmap (BQ kDig YA T))] (.inr ⟨rfl,rfl⟩) (.swap _ _ _) ?_
  refine wf ?_
  refine⟨trivial,_,[],.cons (.tmp 2) .nil,?_,⟨T,done,rfl,hdn,fun i=>⟨hdl i,fun h=>hall i (by rw[hkl];exact h)⟩,hT⟩,rfl⟩
  exact .cons _ (DD _ _)
 have hi2:i < G.length:=by rw[←hkl];exact hi
 have hgd:G.getD i (Dig.zero,[])=G[i]:=by simp[List.getD,hi2]
 have hgk:gK G i=G[i].1:=by unfold gK;rw[hgd]
 have hgv:gV G i=G[i].2:=by unfold gV;rw[hgd]
 have e1:(BQ kDig (Jr eDig) G)[i].1= .agg (eDig (gK G i)):=by rw[hgk];simp[BQ,kDig]
 have e2:(BQ kDig (Jr eDig) G)[i].2= .slice ((gV G i).map eDig) .ro:=by rw[hgv];simp[BQ,Jr]
 have hdl2:=UR hdn hdl
 rw[e1,e2]
 refine wf ?_
 refine nw rfl AG hi ?_
 rw[e1,e2]
 refine wf ?_
 refine C6 fun b4=>?_
 refine wo ?_
 refine AD ?_
 refine Ao 4 ?_
 have hok: ∀ z,(bh T z).length≤1001:=fun z=>by have:=hT.len z;omega
 obtain⟨R,hR1,hR2⟩:=PR (gK G i) T
 refine Yq (A:= [.iter b (BQ kDig (Jr eDig) G) (done++ [i]),.map m (BQ kDig YA T)]) hR1 ?_
 have hl0:=hok (gK G i)
 have hown:=fun t=>hT.own (y:=gK G i) t
 unfold bh at hl0 hown
 generalize hv0:(C4 (gK G i) T).getD ([],CF.nil)=v0 at hl0 hown ⊢
 obtain⟨l0,t0⟩:=v0
 dsimp only at hl0 hown
 refine wf ?_
 refine PW (ek:=kDig) (ev:=YA) (k0:=gK G i) (l:=T) (L':= .iter b (BQ kDig (Jr eDig) G) (done++ [i]):: .tok t0 l0.length 32::(R++LF)) rfl (.swap _ _ _) (.refl _) fun es cl ix n hO=>?_
 rw[hv0]at hO ⊢
 refine wf ?_
 refine Il (f:=eDig) (l:=l0) (m:= []) (t:=t0) (L':=fun t'=> .raw m (.map es cl)::JV es (BQ kDig YA (Cn (gK G i) (l0,t0) T)):: .iter b (BQ kDig (Jr eDig) G) (done++ [i]):: .tok t' (l0++ []).length 32::(R++LF)) rfl rfl (by simp only[Af];omega) (by simp only[Af];omega) (fun t'=> .there (.there (.there .here))) fun t'=>?_
 refine wf ?_
 refine Mh (ek:=kDig) (ev:=YA) (x0:=(l0++ [],t')) (L':= .iter b (BQ kDig (Jr eDig) G) (done++ [i]):: .tok t' (l0++ []).length 32::(R++LF)) hO rfl rfl (.refl _) (.refl _) ?_
 rw[Om]
 refine AD ?_
 have hT1:=hown t'
 have hp1:=hR2 (l0++ [],t')
 generalize Cn (gK G i) (l0++ [],t') T=T1 at hT1 hp1 ⊢
 refine E0 (L':= .iter b (BQ kDig (Jr eDig) G) (done++ [i]):: .map m (BQ kDig YA T1)::(Uk T1++LF)) ((List.Perm.swap _ _ _).trans (.cons _ (.cons _ ((hp1.append_right LF).symm)))) ?_
 clear hp1 hown hl0 hv0 hR1 hR2 hO
 have hni2:=hnd i
 have hvli:=hvl i
 have hnx:=fun m=>Ng.next (G:=G) (done:=done) (z:=Dig.zero) (i:=i) (m:=m)
 generalize gK G i=y at hT1 hnx ⊢
 generalize gV G i=nv at hni2 hvli hnx ⊢
 refine wf ?_
 refine Ad (σ:=Nat × List (Dig × (List Dig × CF))) (fun j=>j.1≤nv.length∧Ng G done y (nv.take j.1) (y::nv.take j.1) j.2) (fun j=>nv.length - j.1) (fun j=> [(3,.raw (.map (some m))),(4,.pt (eDig y) 0),(10,.raw (.pointer (some ⟨b,0,none⟩))),(23,.slice (nv.map eDig) .ro),(24,.raw (.int .i64 nv.length)),(25,.raw (.int .i64 j.1))]) (fun j=> .iter b (BQ kDig (Jr eDig) G) (done++ [i]):: .map m (BQ kDig YA j.2)::(Uk j.2++LF)) (0,T1) ⟨by simp,hT1⟩ ⟨rfl,rfl,rfl,rfl,rfl,rfl⟩ (.refl _) ?_
 clear hT1
 rintro⟨j,T2⟩ ⟨hj,hT2⟩
 dsimp only at hj hT2 ⊢
 refine wf ?_
 refine A6 (fun hc=>?_) (fun hc=>?_)
 ·have hlt:j < nv.length:=by omega
  have hnj:nv[j]∉nv.take j:=fun h=>by
   obtain⟨q,hq,e⟩:=AZ.1 h
   rw[Aa]at hq
   rw[FG]at e
   have:=(Ay.1 hni2) q j (by omega) hlt (by omega)
   exact this e
  have hl0:(bh T2 nv[j]).length≤1001:=by have:=hT2.len nv[j];omega
  have hown:=fun t=>hT2.step hnj t
  rw[←A7 hlt]at hown
  obtain⟨R,hR1,hR2⟩:=PR nv[j] T2
  refine wf ?_
  refine C6 fun b7=>?_
  refine wo ?_
  refine AD ?_
  refine Ao 7 ?_
  refine Yq (A:= [.iter b (BQ kDig (Jr eDig) G) (done++ [i]),.map m (BQ kDig YA T2)]) hR1 ?_
  unfold bh at hl0 hown
  generalize hv0:(C4 nv[j] T2).getD ([],CF.nil)=v0 at hl0 hown ⊢
  obtain⟨l0,t0⟩:=v0
  dsimp only at hl0 hown
  refine wf ?_
  refine PW (ek:=kDig) (ev:=YA) (k0:=nv[j]) (l:=T2) (L':= .iter b (BQ kDig (Jr eDig) G) (done++ [i]):: .tok t0 l0.length 32::(R++LF)) rfl (.swap _ _ _) (.refl _) fun es cl ix n hO=>?_
  rw[hv0]at hO ⊢
  refine wf ?_
  refine Il (f:=eDig) (l:=l0) (m:= [y]) (t:=t0) (L':=fun t'=> .raw m (.map es cl)::JV es (BQ kDig YA (Cn nv[j] (l0,t0) T2)):: .iter b (BQ kDig (Jr eDig) G) (done++ [i]):: .tok t' (l0++ [y]).length 32::(R++LF)) rfl rfl (by simp only[AN,Af];omega) (by simp only[AN,Af];omega) (fun t'=> .there (.there (.there .here))) fun t'=>?_
  refine wf ?_
  refine Mh (ek:=kDig) (ev:=YA) (x0:=(l0++ [y],t')) (L':= .iter b (BQ kDig (Jr eDig) G) (done++ [i]):: .tok t' (l0++ [y]).length 32::(R++LF)) hO rfl rfl (.refl _) (.refl _) ?_
  rw[Om]
  refine AD ?_
  have hT3:=hown t'
  have hp3:=hR2 (l0++ [y],t')
  generalize Cn nv[j] (l0++ [y],t') T2=T3 at hT3 hp3 ⊢
  refine E0 (L':= .iter b (BQ kDig (Jr eDig) G) (done++ [i]):: .map m (BQ kDig YA T3)::(Uk T3++LF)) ((List.Perm.swap _ _ _).trans (.cons _ (.cons _ ((hp3.append_right LF).symm)))) ?_
  refine wf ?_
  exact⟨(j+1,T3),⟨by dsimp only;omega,hT3⟩,by dsimp only;omega,⟨rfl,rfl,rfl,rfl,rfl,rfl⟩,.refl _⟩
 ·rw[AE (by omega)]at hT2
  refine wf ?_
  refine⟨(done++ [i],T2),⟨EH.2 ⟨hdn,by simp,fun a ha c hc=>?_⟩,fun q hq=>?_,hnx _ hT2⟩,?_,⟨rfl,rfl⟩,.refl _⟩
  ·rw[An.1 hc];rintro rfl;exact hni ha
  ·rcases Aj.1 hq with hq|hq
   ·exact hdl q hq
   ·rw[An.1 hq];exact hi2
  ·dsimp only
   have h3:(done++ [i]).length≤G.length:=UR (EH.2 ⟨hdn,by simp,fun a ha c hc=>by rw[An.1 hc];rintro rfl;exact hni ha⟩) fun q hq=>by
    rcases Aj.1 hq with hq|hq
    ·exact hdl q hq
    ·rw[An.1 hq];exact hi2
   rw[AA,B6]at h3 ⊢
   omega
theorem Vp {κ:Type} [DecidableEq κ] {k:κ}: ∀ {l:List κ},k∉l→Gy k l=none
 | [],_=>rfl
 |a::l,h=>by
  have h1:k≠a:=fun e=>h (by simp[e])
  rw[Gy,if_neg h1,Vp fun h'=>h (AH _ h')];rfl
theorem Vv: ∀ (s:List Sto) (m:List (Dig × List Dig)),(∀ x∈s,x.id∉m.map (·.1))→(ids s).Nodup→s.foldl (fun m x=>Cn x.id (BP x.patch) m) m=m++s.map fun x=>(x.id,BP x.patch)
 | [],m,_,_=>by simp
 |x::s,m,h,hn=>by
  have hn2:=Bq.1 hn
  rw[BM,Gq _ _ (Vp (h x (by simp))),Vv s _ (fun y hy=>?_) hn2.2]
  ·simp
  ·rw[Ak,Aj]
   rintro(h2|h2)
   ·exact h y (by simp[hy]) h2
   ·have e:y.id=x.id:=by simpa using h2
    exact hn2.1 y.id (AQ.2 ⟨y,hy,rfl⟩) e.symm
theorem cA {s:List Sto} (h:H2 (ids s)):gr s=s.map fun x=>(x.id,BP x.patch):=by
 rw[gr,Vv s [] (by simp) h.nodup,B8]
theorem Vw {s:List Sto} (h:H2 (ids s)) {i:Nat} (hi:i < s.length):gK (gr s) i=s[i].id∧gV (gr s) i=BP s[i].patch:=by
 have e:(gr s).getD i (Dig.zero,[])=(s[i].id,BP s[i].patch):=by
  rw[cA h];simp[List.getD,hi]
 exact⟨by rw[gK,e],by rw[gV,e]⟩
theorem lF {s:List Sto} (h:H2 (ids s)) {i:Nat} (hi: ¬i < s.length):gV (gr s) i= []:=by
 have e:(gr s).getD i (Dig.zero,[])=(Dig.zero,[]):=by
  rw[cA h,List.getD,FS (by rw[AR];omega)];rfl
 rw[gV,e]
theorem l6 {s:List Sto} (h:H2 (ids s)):(gr s).length=s.length:=by rw[cA h,AR]
theorem BH.turned_of {s:List Sto} (v:BH s) {done:List Nat} {m:List (Dig × (List Dig × CF))} (hn:done.Nodup) (hd: ∀ i,i∈done↔i < (gr s).length) (h:Ng (gr s) done Dig.zero [] [] m):Q1 (Go.Proofs.ndS s) (ids s) (m.map fun e=>(e.1,e.2.1)):=by
 have hl:=l6 v.asc
 have hval: ∀ x,bh m x=bk (gr s) done x:=fun x=>by have:=h.val x;simpa using this
 refine⟨fun d=>?_,fun x y=>?_,fun x=>?_⟩
 ·rw[ZJ,Option.isSome_map]
  have:=h.is d
  by_cases hd2:d∈ids s
  ·obtain⟨x,hx,rfl⟩:=AQ.1 hd2
   obtain⟨i,hi,rfl⟩:=AZ.1 hx
   rw[BR hd2]
   exact this.2 (.inl ⟨i,(hd i).2 (by omega),.inl (Vw v.asc hi).1.symm⟩)
  ·rw[DB hd2]
   cases hm:(C4 d m).isSome with
   |false=>rfl
   |true=>
    rcases this.1 hm with ⟨i,hi,h2⟩|h2
    ·have hi2:i < s.length:=by have:=(hd i).1 hi;omega
     obtain⟨e1,e2⟩:=Vw v.asc hi2
     rcases h2 with h2|h2
     ·exact absurd (by rw[h2,e1];exact AQ.2 ⟨s[i],AF hi2,rfl⟩) hd2
     ·rw[e2]at h2
      exact absurd (v.close.2 _ (AF hi2) d h2) hd2
    ·cases h2
 ·rw[dj,hval]
  unfold bk
  constructor
  ·intro hy
   obtain⟨i,hi,rfl⟩:=AQ.1 hy
   obtain⟨h1,h2⟩:=FL.1 hi
   have hi2:i < s.length:=by have:=(hd i).1 h1;omega
   obtain⟨e1,e2⟩:=Vw v.asc hi2
   have h2:=BB h2
   rw[e2]at h2
   rw[e1]
   exact⟨AQ.2 ⟨s[i],AF hi2,rfl⟩,by rw[v.ndS (AF hi2)];exact h2⟩
  ·rintro⟨hy,hx⟩
   obtain⟨z,hz,rfl⟩:=AQ.1 hy
   obtain⟨i,hi,rfl⟩:=AZ.1 hz
   obtain⟨e1,e2⟩:=Vw v.asc hi
   rw[v.ndS hz]at hx
   exact AQ.2 ⟨i,FL.2 ⟨(hd i).2 (by omega),BR (by rw[e2];exact hx)⟩,e1⟩
 ·rw[dj]
  have h1:=h.len x
  have h2:=UR hn (n:=(gr s).length) fun i hi=>(hd i).1 hi
  have:=v.close.1.1
  omega
theorem fq {s:List Sto} (v:BH s) {x:Sto} (hx:x∈s):(BP x.patch).length≤200:=by
 have h1:=Eg (JG x.patch).nodup (fun d hd=>v.close.2 x hx d hd)
 have:=v.close.1.1
 rw[HT]at h1
 omega
theorem fa {P:Program} {f:FuncId} {args:List PV} {L:List Res} {R R':PV→List Res→Prop} (h:BA P f args L R) (hr: ∀ x L',R x L'→ ∃ y,Le x y∧R' y L'):BA P f args L R':=by
 unfold BA at h ⊢
 intro vs w g LF hv hi
 refine(h vs w g LF hv hi).mono ?_
 rintro e w' ⟨v,x,g',L',h1,h2,h3,h4,h5,h6⟩
 obtain⟨y,hy,h7⟩:=hr x L' h6
 exact⟨v,y,g',L',h1,hy g' v h2,h3,h4,h5,h7⟩
theorem ak (s:List Sto) (v:BH s):BA Tryz.prog 107 [.fmap (BQ kDig (Jr eDig) (gr s))] [] (fun r L'=>(∃ T,r= .fmap (BQ kDig (Jr eDig) T)∧Q1 (ndS s) (ids s) T)∧L'= []):=by
 have hl:=l6 v.asc
 have h40:=v.close.1.1
 refine fa (et (gr s) (by omega) (fun i=>?_) (fun i=>?_)) ?_
 ·by_cases hi:i < s.length
  ·rw[(Vw v.asc hi).2];exact(JG _).nodup
  ·rw[lF v.asc hi];exact .nil
 ·by_cases hi:i < s.length
  ·rw[(Vw v.asc hi).2];have:=fq v (AF hi);omega
  ·rw[lF v.asc hi];simp
 ·rintro x L' ⟨⟨m,done,rfl,h1,h2,h3⟩,rfl⟩
  exact⟨_,xj m,⟨_,rfl,v.turned_of h1 h2 h3⟩,rfl⟩
instance vz (s:List Sto) (l:List Dig) (t u:CF) [hs:B1 (BH s)] [hl:B1 (l.length≤400)]:CB Tryz.prog 45 [.slice (s.map eSto) t,.slice (l.map eDig) u] (.tuple [.slice ((LN s l).1.map eDig) .ro,.raw (.int .i64 (LN s l).2)]):=⟨by
 have v:=hs.out
 have h40:=v.close.1.1
 have i1:B1 (HF s):=⟨v.close.1⟩
 refine Au Tryz.func45 Tryz.ntmps45 rfl (rs:= [.tmp 4,.tmp 5]) rfl rfl fun hb LF=>?_
 refine wf ?_
 refine CW (xs:= [.tmp 10]) [] LF (f:=107) (cs:= []) (CA _) rfl rfl (.refl _) _ (ak s v) fun r L' ⟨⟨T,e1,hT⟩,e2⟩=>?_
 subst e1;rw[e2,B8]
 obtain⟨e1,e2⟩:=v.turned hT l
 have i2:=fun t=>TQ T (ids s) (hT.ok (by rw[HT];omega)) l t hl.out
 refine wf ?_
 refine AW (fun h=>?_) (fun h=>?_)
 ·have h0:(clG T (ids s) l).2=false:=by simpa using h
  rw[if_pos h0]at e2
  have e3:(LN s l).1= []:=by
   unfold LN at e2 ⊢
   split
   ·rfl
   ·rename_i h3
    rw[if_neg h3]at e2
    simp at e2
  refine wf ?_
  refine HH ?_
  rw[e2,e3]
  exact .tuple2 (.ro _ _) (.refl _)
 ·have h0:(clG T (ids s) l).2=true:=by simpa using h
  rw[h0]at e2
  simp at e2
  refine wf ?_
  refine HH ?_
  rw[e2,←e1]
  exact .refl _⟩
instance iG (s:List Sto) (p q:Dig) (t:CF) [hs:B1 (BH s)]:CB Tryz.prog 27 [.slice (s.map eSto) t,.agg (eDig p),.agg (eDig q)] (.raw (.bool (Nw s p q))):=⟨by
 have v:=hs.out
 have cx:=fun t u=>aU s [p] t u (hl:=⟨by simp⟩)
 rw[v.knows]
 refine Au Tryz.func27 Tryz.ntmps27 rfl (rs:= [.tmp 6]) rfl rfl fun hb LF=>?_
 refine wf ?_
 refine Av (fun hp=>?_) (fun hp=>?_)
 ·refine wf ?_
  refine B2 (.of_eq ?_)
  rw[hp];rfl
 ·refine wf ?_
  refine B2 (.of_eq ?_)
  rw[hp];rfl⟩
end Go.Proofs
namespace Go.Q
open Go
section
variable {P:Program} {N:Nat} {all:Array Oper} {K:Env→List Res→Prop} {fl:List Bool} {os:List Oper} {ρ:Env} {L:List Res} {d:Nat} {ty:TypeId} {pos:String} {af:Array Edge}
theorem jb {T E sz by_:Nat} [hT:aY P T E sz by_] (hz: ∀ i z,P.info? E=some i→i.zero=some z→ ∀ x∈z.cells,x.oneCell'=true) {x:Operand} {r off n c:Nat} {cs:List PV} {L':List Res} (F:Res→List Res) (hx:ρ.ev x= .raw (.slice (some ⟨r,off,none⟩) n c)) (hn:0 < n) (hle:off+n*sz≤cs.length)
  (hp:L.Perm (.box r E cs::L')) (hq: ∀ c,(c::L').Perm (F c))
  (k: ∀ zs:List PV,zs.length=n*sz→AV P N all K fl.tail os ρ (F (.box r E (cs.take off++zs++cs.drop (off+n*sz))))) (hfl:fl.headD true=true:=by rfl):
  AV P N all K fl (⟨none,.call { callee:= .builtin .clear,args:= #[x],argTypes:= #[T] },ty,pos,af,none⟩::os) ρ L:=
 Da rfl (fun _ e=>by cases e) hfl (Fc.perm hp fun a w g ha hi0=>by
  have h1:=Cd ha (x:=x) (by simp[Op.operands,Call.operands]) hx
  obtain⟨i,z,t1,t2,t3,t4,t5,t6,t7,t8⟩:=hT.out
  obtain⟨us,hus,hi⟩:=hi0.boxRaw
  have hul:=hus.len
  obtain⟨k1,k2,k3,k4,k5⟩:=hi.rawHead
  have hzl:(Builtin.zeroCells z.cells n).toList.length=n*sz:=by rw[Cc,size_zeroCells,t6]
  have hz1: ∀ x∈(Builtin.zeroCells z.cells n).toList,x.oneCell'=true:=fun x hx=>by
   simp only[Builtin.zeroCells,Array.toList_map,AQ]at hx
   obtain⟨j,_,rfl⟩:=hx
   have hj:j % z.cells.size < z.cells.size:=cu _ (by rw[t6];omega)
   rw[getElem!_pos z.cells _ hj]
   exact hz i z t2 t5 _ (Array.getElem_mem hj)
  obtain⟨w',hrun,hb',hos,htp,hout,hsz,hk⟩:=FV (P:=P) (Builtin.zeroCells z.cells n).toList w us off 0 k1 (by rw[hzl];omega) hz1
  have he:execOp a.eval ⟨none,.call { callee:= .builtin .clear,args:= #[x],argTypes:= #[T] },ty,pos,af,none⟩=(do pure (.value (←Builtin.clear_ #[T] ty (#[x].map a.eval)))):=rfl
  have hr:(execOp a.eval ⟨none,.call { callee:= .builtin .clear,args:= #[x],argTypes:= #[T] },ty,pos,af,none⟩).run P w= .ok (.value (.tuple #[])) w':=by
   rw[he]
   obtain⟨m,rfl⟩: ∃ m,n=m+1:=⟨n - 1,by omega⟩
   simp[Builtin.clear_,h1,run_underlying t1,zeroValue,typeInfo,t2,t5,hrun]
  rw[Dq,hzl]at hb'
  have hi2:=hi.turnRaw hb' hk
  have hbox:=Dt.rawBox (cs:=cs.take off++(Builtin.zeroCells z.cells n).toList.map .raw++cs.drop (off+n*sz)) hi2 (by
   simpa using ((hus.take off).append (EB.raws g (Builtin.zeroCells z.cells n).toList)).append (hus.drop (off+n*sz)))
  refine Oper.wq_of_run hr ?_
  exact⟨_,.raw _,g,_,rfl,.raw _,hbox.perm (hq _),⟨hos,htp,hout,EG hsz.symm,fun b _ hn=>hk b (fun e=>hn (by simp[Al,Res.block,e])),.refl g,fun _ _ _=>⟨fun _=>rfl,rfl⟩⟩,
   fun b hb _=>by
    have:=(DV (hq _)).symm.subset hb
    simpa [Al,Res.block]using this,k _ (by rw[AR,hzl])⟩)
end
end Go.Q
namespace Go.Proofs
open Go Go.Q
attribute [local irreducible] ER AV BA Fc
theorem nF: ∀ i z,Tryz.prog.info? 59=some i→i.zero=some z→ ∀ x∈z.cells,x.oneCell'=true:=by
 have h:(Tryz.prog.info? 59).map (fun i=>(i.zero.getD undef).cells.all (·.oneCell'))=some true:=by kernel_rfl
 intro i z hi hz x hx
 rw[hi]at h
 simp only[Ed,hz,BU,J3,H7]at h
 exact h x hx
theorem cP (F:Nat) (cs:List PV) (p:Sto→Bool) [hF:Az Tryz.prog F] [hp: ∀ d,CB Tryz.prog F (.agg (eSto d)::cs) (.raw (.bool (p d)))] (l:List Sto) (v:Value) (R:List Res) (hv:Hl 59 37 v (l.map eSto) R) (hl:l.length≤1000000):
  BA Tryz.prog 100 [.raw v,.clo F cs] R (fun r L'=> ∃ v',r= .raw v'∧Hl 59 37 v' ((l.filter fun d=>!p d).map eSto) L'):=by
 refine C5 Tryz.func100 rfl Tryz.ntmps100 (rs:= [.tmp 4]) rfl rfl fun hb LF=>?_
 have hsz: ∀ (m:List Sto),∀ e∈m.map eSto,e.length=37:=fun m e he=>by obtain⟨a,_,rfl⟩:=AQ.1 he;simp
 have hmx:(l.map eSto).length≤maxN∧(l.map eSto).length*37≤maxN:=by
  have:maxN=140737488355328:=rfl
  rw[AR];omega
 refine wf ?_
 refine CW (xs:= [.tmp 8,.tmp 9]) R LF (f:=51) (cs:= []) (CA _) rfl rfl (.refl _) _ (Hl.lend hv [] [.clo F cs] hmx (Vs F cs p l .ro).out) fun r L' ⟨e1,e2⟩=>?_
 subst e1 e2
 refine wf ?_
 refine A6 (fun h1=>?_) (fun h1=>?_)
 ·have hn:l.any p=false:=by
   cases h:l.any p with
   |false=>rfl
   |true=>have:=(Pn p l).2.2 h;omega
  have e:(l.filter fun d=>!p d)=l:=by
   rw[aW]
   intro x hx
   have:=Bl.1 hn x hx
   simpa using this
  refine wf ?_
  exact⟨trivial,_,_,.cons (.tmp 4) .nil,.refl _,v,rfl,by rw[e];exact hv⟩
 have ha:l.any p=true:=by
  cases h:l.any p with
  |true=>rfl
  |false=>exact absurd (by rw[FE,if_neg (by simp[h])]) h1
 have hi0:l.findIdx p < l.length:=IR.2 (Bu.1 ha)
 have hix:FE p l=(l.findIdx p:Nat):=by rw[FE,if_pos ha]
 have hf0:(l.take (l.findIdx p))=(l.take (l.findIdx p+1)).filter fun d=>!p d:=by
  have hlast:p l[l.findIdx p]=true:=Y3
  rw[A7 hi0,Fa,Ew (by simp[hlast]),Uj,BX,aW.2]
  intro x hx
  obtain⟨k,hk,rfl⟩:=DZ.1 hx
  have:=Uf (p:=p) (xs:=l) (i:=k) (by omega)
  simpa using this
 rw[hix]
 generalize hg:l.findIdx p=i0 at hi0 hf0
 obtain⟨⟨o,c,rfl⟩,_⟩:=hv.slice
 obtain⟨r,rest,rfl,rfl,_,hlc,_,hcl⟩:=hv.inv (by rw[AR];omega)
 rw[AR]at hlc ⊢
 refine wf ?_
 refine Ad (σ:=Nat × Nat × List Sto) (fun k=>k.2.1 < k.1∧k.1≤l.length∧k.2.2.length=l.length∧k.2.2.take k.2.1=(l.take k.1).filter (fun d=>!p d)∧ ∀ t,k.1≤t→k.2.2[t]? =l[t]?) (fun k=>l.length - k.1) (fun k=> [(0,.raw (.slice (some ⟨r,0,none⟩) l.length c)),(1,.clo F cs),(5,.raw (.int .i64 k.2.1)),(6,.raw (.int .i64 k.1))]) (fun k=> .box r 59 ((k.2.2.map eSto).flatten++rest)::LF) (i0+1,i0,l) ⟨by dsimp only;omega,by dsimp only;omega,rfl,hf0,fun _ _=>rfl⟩ ⟨rfl,rfl,rfl,rfl⟩ (.refl _) ?_
 rintro⟨j,i,l1⟩ ⟨hij,hj,hl1,ht,hr⟩
 dsimp only at hij hj hl1 ht hr ⊢
 refine wf ?_
 refine KU rfl ?_
 refine wf ?_
 refine A6 (fun hc=>?_) (fun hc=>?_)
 ·have hlt:j < l.length:=by omega
  have ej:l1[j]'(by omega)=l[j]:=by
   have:=hr j (Ah _)
   rw[AO (by omega),AO hlt]at this
   exact CN this
  have isub:Y7 ((l1.map eSto).flatten++rest) (0+j*37) 37 (eSto l[j]):=by
   have:=Zk (rest:=rest) (hsz l1) (i:=j) (by rw[AR];omega)
   rwa [BN,ej]at this
  refine wf ?_
  refine Fb (k:=j) rfl rfl hlt ?_
  refine YX rfl AG (hs:=isub) ?_
  refine wf ?_
  refine C6 fun b7=>?_
  refine wo ?_
  refine AD ?_
  refine Ao 7 ?_
  refine wf ?_
  refine AW (fun h=>?_) (fun h=>?_)
  ·have hpj:p l[j]=false:=by simpa using h
   have iput:FK ((l1.map eSto).flatten++rest) (0+i*37) (eSto l[j]) (((l1.set i l[j]).map eSto).flatten++rest):=by
    have:=Zm (rest:=rest) (new:=eSto l[j]) (hsz l1) (i:=i) (by rw[AR];omega) (by simp)
    rwa [←A07]at this
   refine wf ?_
   refine Fb (k:=i) rfl rfl (by omega) ?_
   refine wf ?_
   refine⟨(j+1,i+1,l1.set i l[j]),⟨by dsimp only;omega,by dsimp only;omega,by dsimp only;rw[DN];exact hl1,?_,fun t h2=>?_⟩,by dsimp only;omega,⟨rfl,rfl,rfl,rfl⟩,.refl _⟩
   ·dsimp only
    rw[A7 hlt,Fa,Eu (by simp[hpj]),Uj,←ht,A7 (by rw[DN];omega),List.take_set_of_le (Ah _),List.getElem_set_self]
   ·dsimp only at h2 ⊢
    rw[Y2 (by omega)]
    exact hr t (by omega)
  ·have hpj:p l[j]=true:=by simpa using h
   refine wf ?_
   refine⟨(j+1,i,l1),⟨by dsimp only;omega,by dsimp only;omega,hl1,?_,fun t h2=>hr t (by dsimp only at h2;omega)⟩,by dsimp only;omega,⟨rfl,rfl,rfl,rfl⟩,.refl _⟩
   dsimp only
   rw[A7 hlt,Fa,Ew (by simp[hpj]),Uj,BX]
   exact ht
 have hjl:j=l.length:=by omega
 subst hjl
 rw[E8]at ht
 have hfl:(l1.map eSto).flatten.length=l.length*37:=by rw[De (hsz l1),AR,hl1]
 have hfl0:(l.map eSto).flatten.length=l.length*37:=by rw[De (hsz l),AR]
 refine wf ?_
 refine Nq i l.length rfl (by omega) (Ah _) (by omega) hlc (fun o e=>by cases e;exact⟨_,rfl⟩) (by simp) (by simp) (fun _=>rfl) ?_
 refine jb (E:=59) (sz:=37) (L':=LF) nF (fun x=> [x]++LF) rfl (by omega) (by rw[AA,hfl];omega) (.refl _) (fun _=> .refl _) fun zs hzs=>?_
 refine AD ?_
 refine wf ?_
 refine Nq 0 i rfl (by omega) (by omega) (by omega) hlc (by simp) (fun _=>rfl) (fun o e=>by cases e;exact⟨_,rfl⟩) (by simp) ?_
 refine wf ?_
 have e0:=(Pr (hsz l1) (i:=i) (by rw[AR];omega))
 have etk:((l1.map eSto).flatten++rest).take (0+i*37)=((l1.take i).map eSto).flatten:=by
  rw[BG,Fq (by rw[hfl];omega),aa]
  have h2:=e0.2
  conv=>lhs;rw[e0.1]
  exact GF h2
 have hlt:(l1.take i).length=i:=by rw[Aa];omega
 have hti:((l1.take i).map eSto).flatten.length=i*37:=by rw[De (hsz _),AR,hlt]
 refine⟨trivial,_,_,.cons (.tmp 4) .nil,.refl _,.slice (some ⟨r,0,none⟩) i c,?_,?_⟩
 ·show PV.raw (Value.slice (some ⟨r,0+0*37,none⟩) (i - 0) (c - 0))=_
  simp
 ·rw[←ht,etk,AU]
  refine .row (by rw[AR,hlt]) (by omega) (hsz _) ?_
  rw[AA,B5,AA,hzs,hfl,hti]
  rw[hfl0]at hcl
  omega
attribute [local irreducible] Gw
instance vO (s:List Sto) (t:CF) (d:Dig):CB Tryz.prog 96 [.agg (eDig d),.pt [.slice (s.map eSto) t] 0] (.raw (.bool (!(getS s d).isSome))):=⟨by
 refine Au Tryz.func96 Tryz.ntmps96 rfl (rs:= [.tmp 3]) rfl rfl fun hb LF=>?_
 refine wz fun b4=>?_
 refine wf ?_
 exact B2 (.refl _)⟩
instance vN (s:List Sto) (t u:CF) (l:List Dig):CB Tryz.prog 47 [.slice (l.map eDig) u,.clo 96 [.pt [.slice (s.map eSto) t] 0]] (.raw (.bool (l.any fun d=>!(getS s d).isSome))):=KH _ _ _ l u
theorem UB: ∀ (s:List Sto) (d:Dig),(getS s d).isSome=decide (d∈ids s)
 | [],_=>by simp[getS,ids]
 |x::s,d=>by
  unfold getS
  by_cases h:x.id=d
  ·rw[if_pos h];simp[ids,h]
  ·rw[if_neg h,UB s d,decide_eq_decide]
   unfold ids
   rw[Ar,AI]
   exact⟨.inr,fun k=>k.elim (fun e=>absurd e.symm h) id⟩
theorem gx (s:List Sto) (l:List Dig):(!(l.any fun d=>!(getS s d).isSome))=DW (ids s) l:=by
 unfold DW
 induction l with
 |nil=>rfl
 |cons d l ih=>
  rw[ab,yQ,Bool.not_or,ih,Bool.not_not,UB]
instance wY (s:List Sto) (l:List Dig) (t u:CF):CB Tryz.prog 36 [.slice (s.map eSto) t,.slice (l.map eDig) u] (.raw (.bool (DW (ids s) l))):=⟨by
 refine Au Tryz.func36 Tryz.ntmps36 rfl (rs:= [.tmp 4]) rfl rfl fun hb LF=>?_
 refine wf ?_
 refine B2 (.of_eq ?_)
 rw[←gx s l]⟩
instance nh (b l:List Dig) (t u:CF) (d:Dig):CB Tryz.prog 48 [.agg (eDig d),.pt [.slice (b.map eDig) t] 0,.pt [.slice (l.map eDig) u] 0] (.raw (.bool (decide (d∈b)&&!decide (d∈l)))):=⟨by
 refine Au Tryz.func48 Tryz.ntmps48 rfl (rs:= [.tmp 4]) rfl rfl fun hb LF=>?_
 refine wf ?_
 repeat' (first|(refine A6 (fun h=>?_) (fun h=>?_)<;>refine wf ?_)|(refine AY (fun h=>?_) (fun h=>?_)<;>refine wf ?_)|(refine AW (fun h=>?_) (fun h=>?_)<;>refine wf ?_)|(refine Av (fun h=>?_) (fun h=>?_)<;>(have h2:=h;(try simp only[AB,A8,AJ,AL]at h2);refine wf ?_)))
 all_goals (refine B2 (.of_eq ?_);simp_all)⟩
instance ng (a b l:List Dig) (v t u:CF):CB Tryz.prog 47 [.slice (a.map eDig) v,.clo 48 [.pt [.slice (b.map eDig) t] 0,.pt [.slice (l.map eDig) u] 0]] (.raw (.bool (a.any fun d=>decide (d∈b)&&!decide (d∈l)))):=KH _ _ _ a v
instance qv (s:List Sto) (l:List Dig) (t u:CF) [hs:B1 (BH s)] [hl:B1 (l.length≤400)]:CB Tryz.prog 15 [.slice (s.map eSto) t,.slice (l.map eDig) u] (.raw (.bool (pz s l))):=⟨by
 refine Au Tryz.func15 Tryz.ntmps15 rfl (rs:= [.tmp 4]) rfl rfl fun hb LF=>?_
 refine wf ?_
 unfold pz
 refine AW (fun h=>?_) (fun h=>?_)
 ·refine wf ?_
  refine B2 (.of_eq ?_)
  simp_all
 ·refine wz fun b7=>?_
  refine Ao 7 ?_
  refine wf ?_
  refine B2 (.of_eq ?_)
  simp_all⟩
instance mf (l:List Dig) (u:CF) (d:Dig):CB Tryz.prog 99 [.agg (eDig d),.pt [.slice (l.map eDig) u] 0] (.raw (.bool (decide (d∈l)))):=⟨by
 refine Au Tryz.func99 Tryz.ntmps99 rfl (rs:= [.tmp 3]) rfl rfl fun hb LF=>?_
 refine wf ?_
 exact B2 (.refl _)⟩
instance nf (a l:List Dig) (t u:CF):CB Tryz.prog 47 [.slice (a.map eDig) t,.clo 99 [.pt [.slice (l.map eDig) u] 0]] (.raw (.bool (a.any fun d=>decide (d∈l)))):=KH _ _ _ a t
theorem Wg (l:List Dig) (u:CF) (x:Sto) (hx:ED x.patch=false):CB Tryz.prog 98 [.agg (eSto x),.pt [.slice (l.map eDig) u] 0] (.raw (.bool (!decide (x.id∈l)&&(BP x.patch).any fun d=>decide (d∈l)))):=⟨by
 have i1:B1 (ED x.patch=false):=⟨hx⟩
 refine Au Tryz.func98 Tryz.ntmps98 rfl (rs:= [.tmp 3]) rfl rfl fun hb LF=>?_
 refine wf ?_
 repeat' (first|(refine A6 (fun h=>?_) (fun h=>?_)<;>refine wf ?_)|(refine AY (fun h=>?_) (fun h=>?_)<;>refine wf ?_)|(refine AW (fun h=>?_) (fun h=>?_)<;>refine wf ?_)|(refine Av (fun h=>?_) (fun h=>?_)<;>(have h2:=h;(try simp only[AB,A8,AJ,AL]at h2);refine wf ?_)))
 all_goals (refine B2 (.of_eq ?_);simp_all)⟩
instance qu (s:List Sto) (l:List Dig) (t u:CF) [hs:B1 (HF s)]:CB Tryz.prog 37 [.slice (s.map eSto) t,.slice (l.map eDig) u] (.raw (.bool (NT s l))):=⟨by
 have c1: ∀ t,CB Tryz.prog 97 [.slice (s.map eSto) t,.clo 98 [.pt [.slice (l.map eDig) .ro] 0]] (.raw (.bool (s.any fun x=>!decide (x.id∈l)&&(BP x.patch).any fun d=>decide (d∈l)))):=fun t=>Uw _ _ _ s t fun x hx=>Wg l .ro x (hs.out.2 x hx)
 refine Au Tryz.func37 Tryz.ntmps37 rfl (rs:= [.tmp 4]) rfl rfl fun hb LF=>?_
 refine wf ?_
 refine B2 (.of_eq ?_)
 rfl⟩
instance nb (l:List Dig) (u:CF) (x:Sto):CB Tryz.prog 101 [.agg (eSto x),.pt [.slice (l.map eDig) u] 0] (.raw (.bool (decide (x.id∈l)))):=⟨by
 refine Au Tryz.func101 Tryz.ntmps101 rfl (rs:= [.tmp 3]) rfl rfl fun hb LF=>?_
 refine wf ?_
 exact B2 (.refl _)⟩
instance qt (s:List Sto) (l:List Dig) (t u:CF) [hs:B1 (s.length≤1000)]:CB Tryz.prog 38 [.slice (s.map eSto) t,.slice (l.map eDig) u] (.slice ((Ju s l).map eSto) .ro):=⟨by
 refine Au Tryz.func38 Tryz.ntmps38 rfl (rs:= [.tmp 4]) rfl rfl fun hb LF=>?_
 have hl:=hs.out
 refine wf ?_
 refine CW (xs:= [.tmp 5]) [] LF (f:=95) (cs:= []) (CA _) rfl rfl (.refl _) _ (S7 s t (by omega)) fun r R0 ⟨v0,e1,hv0⟩=>?_
 subst e1
 refine wf ?_
 refine CW (xs:= [.tmp 6,.tmp 7]) R0 LF (f:=100) (cs:= []) (CA _) rfl rfl (.refl _) _ (cP 101 _ (fun x=>decide (x.id∈l)) s v0 R0 hv0 (by omega)) fun r R1 ⟨v1,e1,hv1⟩=>?_
 subst e1
 refine wo ?_
 refine AD ?_
 have e:(s.filter fun d=>!decide (d.id∈l))=Ju s l:=by
  unfold Ju
  exact iL fun x _=>by simp
 rw[e]at hv1
 have hol:(Ju s l).length≤s.length:=Dk _ _
 refine Jd 4 hv1 ⟨by rw[AR];unfold maxN;omega,by rw[AR];unfold maxN;omega⟩ (.refl _) rfl ?_
 refine wf ?_
 exact B2 (.ros rfl)⟩
instance wX (x:Ident):CB Tryz.prog 104 [.agg (eIdent x)] (.raw (.bool (Ea x))):=⟨by
 refine Au Tryz.func104 Tryz.ntmps104 rfl (rs:= [.tmp 2]) rfl rfl fun hb LF=>?_
 unfold Ea
 refine wf ?_
 repeat' (first|(refine A6 (fun h=>?_) (fun h=>?_)<;>refine wf ?_)|(refine AY (fun h=>?_) (fun h=>?_)<;>refine wf ?_)|(refine AW (fun h=>?_) (fun h=>?_)<;>refine wf ?_)|(refine Av (fun h=>?_) (fun h=>?_)<;>(have h2:=h;(try simp only[AB,A8,AJ,AL]at h2);refine wf ?_)))
 all_goals (refine B2 (.of_eq ?_);simp_all)⟩
end Go.Proofs
