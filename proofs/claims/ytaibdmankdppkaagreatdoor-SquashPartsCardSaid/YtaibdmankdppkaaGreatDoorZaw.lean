/- Contracts of the program: Split. -/
import Derived.Test.YtaibdmankdppkaaGreatDoorZav
import Derived.Test.YtaibdmankdppkaaGreatDoorZao
import Derived.Test.YtaibdmankdppkaaGreatDoorZar
import Derived.Test.YtaibdmankdppkaaGreatDoorZap
import Derived.Test.YtaibdmankdppkaaGreatDoorZas
import Derived.Test.YtaibdmankdppkaaGreatDoorZal
import Derived.Test.YtaibdmankdppkaaGreatDoorZau
import Derived.Test.YtaibdmankdppkaaGreatDoorZan
import Derived.Test.YtaibdmankdppkaaGreatDoorZag
set_option linter.unusedSimpArgs false
set_option linter.unusedVariables false
set_option maxHeartbeats 8000000
namespace Go.Proofs
open Go Go.Q
attribute [local irreducible] ER AU H8 BA Fk
theorem eD {n:Nat} {Q:List (List Int)} (h:FL n [] Q=true) {k:Nat} (hk:k < Q.length):Q[k]=((E4 Q)[k]'(by rw[IJ];exact hk)).map fun c:Nat=>(c:Int):=by
 have r:=NB h
 unfold E4
 rw[BK,CR]
 refine(List.map_id _).symm.trans (Ca fun c hc=>?_)
 have:=(r.lt _ (AB hk) c hc).1
 simp only[id_eq,Function.comp_apply]
 omega
theorem YN {s:List Sto} {id:Dig} {p:Pat} (hp:getS s id=some p) (Q:List (List Int)) (ms:List Mta):H7 s id Q ms=if MH s [id]=true then([],[],19)else if FL p.changes.length [] Q=false∨ms.length≠Q.length then([],[],1)else
  if K1 (E4 Q) p.changes=true then([],[],9)else PF ⟨id,p⟩ (E4 Q) ((E4 Q).zip ms) (Ir s [id]) []:=by unfold H7;rw[hp]
theorem kf {a:Res} {L M:List Res}:(L++(a::M)).Perm (a::(L++M)):=Bb
theorem YM (s:List Sto) (t:CC) (id:Dig) (Q:List (List Int)) (tq:CC) (ms:List Mta) (tm:CC) (hv:BP s) (hg:GQ s=false) (z:PA Q ms) (hr: ∀ l∈Q,l.length≤1000000) (hml:ms.length≤1000000):
  C8 Tryz.prog 21 [.slice (s.map eSto) t,.agg (eDig id),.slice (Q.map Pg) tq,.slice (ms.map GF) tm] (.tuple [.slice ((H7 s id Q ms).1.map eSto) .ro,.slice ((H7 s id Q ms).2.1.map eDig) .ro,.raw (.int .i64 (H7 s id Q ms).2.2)]):=⟨by
 have hsl:=hv.close.1.1
 have hQl:=z.parts
 have hs8:=(NJ hg).1
 have i1:B0 (BP s):=⟨hv⟩
 have i2:B0 (Gw s):=⟨hv.close.1⟩
 have i3:B0 (s.length≤1000):=⟨by omega⟩
 cases hp:getS s id with
 |none=>
  have cg:=fun t=>KM s t id
  rw[hp]at cg
  have e:H7 s id Q ms=([],[],7):=by unfold H7;rw[hp]
  rw[e]
  refine Av Tryz.func21 Tryz.ntmps21 rfl (rs:= [.tmp 8,.tmp 9,.tmp 10]) rfl rfl fun hb LF=>?_
  refine wz fun b11=>?_
  refine Al 11 ?_
  refine wf ?_
  exact SD (x:= .slice [] .nil) (y:= .slice [] .nil) (.tuple3 (.ro _ _) (.ro _ _) (.refl _))
 |some p=>
 have hx:(⟨id,p⟩:Sto)∈s:=MQ hp
 have cg: ∀ t,C8 Tryz.prog 17 [.slice (s.map eSto) t,.agg (eDig id)] (.tuple [.agg (Bn p),.raw (.bool true)]):=fun t=>by
  have:=KM s t id
  rw[hp]at this
  exact this
 have hb0:E7 p=false:=hv.close.1.2 _ hx
 obtain⟨_,_,g1,g2,gch⟩:=EW hb0
 have hkd: ∀ c∈p.changes,1≤c.kind∧c.kind≤7:=hv.kinds hx
 have hpf:=EH (Fc (hv.id _ hx).1).1
 have hc16:CD p.changes p.changes.length≤16200:=by
  have:=(Dc hb0).1
  have h2:=hpf.cnt
  dsimp only at h2
  unfold Hl at h2
  omega
 rw[YN hp]
 refine Av Tryz.func21 Tryz.ntmps21 rfl (rs:= [.tmp 8,.tmp 9,.tmp 10]) rfl rfl fun hb LF=>?_
 refine wz fun b11=>?_
 refine Al 11 ?_
 refine wf ?_
 refine AW (fun h1=>?_) (fun h1=>?_)
 ·rw[if_pos h1]
  refine wf ?_
  exact SD (x:= .slice [] .nil) (y:= .slice [] .nil) (.tuple3 (.ro _ _) (.ro _ _) (.refl _))
 rw[if_neg (by simp[h1])]
 refine wf ?_
 refine CQ (xs:= [.tmp 39,.tmp 40]) [] LF (f:=63) (cs:= []) (C5 _) rfl rfl (.refl _) _ (XK p.changes.length Q tq (by omega) (by omega) hr) fun r L' ⟨hL,hrr⟩=>?_
 subst hL
 rw[BB]
 rcases hrr with ⟨hr1,hok⟩|⟨b,hr1,hok⟩
 ·subst hr1
  rw[if_pos (.inl hok)]
  refine wf ?_
  exact SD (x:= .slice [] .nil) (y:= .slice [] .nil) (.tuple3 (.ro _ _) (.ro _ _) (.refl _))
 subst hr1 hok
 have hin:((List.range p.changes.length).map fun c=>RP Q (c:Nat))=Nq Q p.changes.length:=rfl
 rw[hin]
 refine wf ?_
 refine BT [(52,.raw (.bool (decide (FL p.changes.length [] Q=false∨ms.length≠Q.length)))),(0,.slice (s.map eSto) t),(2,.slice (Q.map Pg) tq),(3,.slice (ms.map GF) tm),(11,.pt (Bn p) 0),(13,.slice ([id].map eDig) .ro),(14,.slice ((Nq Q p.changes.length).map eI) .ro)] (LF) ?_ ?_
 ·repeat' (first|(refine A6 (fun h=>?_) (fun h=>?_)<;>refine wf ?_)|(refine AX (fun h=>?_) (fun h=>?_)<;>refine wf ?_)|(refine AW (fun h=>?_) (fun h=>?_)<;>refine wf ?_)|(refine Ay (fun h=>?_) (fun h=>?_)<;>(have h2:=h;(try simp only[AD,A8,AI,AN]at h2);refine wf ?_)))
  all_goals (refine⟨⟨C9 (by rfl) ?_,rfl,rfl,rfl,rfl,rfl,rfl⟩,.refl _⟩;first|(simp_all;done)|(simp_all;omega))
 refine wf ?_
 refine A6 (fun h2=>?_) (fun h2=>?_)
 ·rw[if_pos h2]
  refine wf ?_
  exact SD (x:= .slice [] .nil) (y:= .slice [] .nil) (.tuple3 (.ro _ _) (.ro _ _) (.refl _))
 rw[if_neg h2]
 have hQ:FL p.changes.length [] Q=true:=by
  cases hq:FL p.changes.length [] Q with
  |true=>rfl
  |false=>exact absurd (.inl hq) h2
 have hmq:ms.length=Q.length:=Cd fun k=>h2 (.inr k)
 have hpq:J8 (E4 Q) p.changes.length:=OA hQ
 have hrn: ∀ e∈Nq Q p.changes.length,0≤e∧e < (Q.length:Int):=fun e he=>by
  unfold Nq at he
  obtain⟨c,hc,rfl⟩:=AQ.1 he
  have hc:=Bg.1 hc
  obtain⟨hk,_⟩:=hpq.mem hc
  rw[IJ]at hk
  have e:RP Q (c:Nat)=(JE (E4 Q) c:Int):=TH hQ hc
  rw[e]
  omega
 refine wf ?_
 refine CQ (xs:= [.tmp 53,.tmp 54,.tmp 56]) [] LF (f:=64) (cs:= []) (C5 _) rfl rfl (.refl _) _ (U5 hv hx (Nq Q p.changes.length) (XV _ _) Q.length (by omega) hrn) fun r L' ⟨bx,tf,ts,hr2,hL2⟩=>?_
 subst hr2 hL2
 rw[B3,BB]
 dsimp only
 rw[uY]
 refine wf ?_
 refine Qa (xs:= [.tmp 58]) [.box bx 104 (FR p (Nq Q p.changes.length) (Ee p.changes) tf (HO p.changes (Nq Q p.changes.length) p.changes.length) ts [] .nil)] LF (.raw (.bool (K1 (E4 Q) p.changes))) (f:=65) (cs:= []) (C5 _) rfl rfl (.refl _) (by
  have:=lk hkd (by omega) (fun c hc=>by have:=(gch c hc).over;omega) (Nq Q p.changes.length) (XV _ _) bx (FR p (Nq Q p.changes.length) (Ee p.changes) tf (HO p.changes (Nq Q p.changes.length) p.changes.length) ts [] .nil) tf
  rw[qF hQ]at this
  exact this) ?_
 refine wf ?_
 refine AW (fun h3=>?_) (fun h3=>?_)
 ·rw[if_pos h3]
  refine wf ?_
  exact SD (x:= .slice [] .nil) (y:= .slice [] .nil) (.tuple3 (.ro _ _) (.ro _ _) (.refl _))
 rw[if_neg (by simp[h3])]
 obtain⟨W,hW⟩: ∃ W,W=PF ⟨id,p⟩ (E4 Q) ((E4 Q).zip ms) (Ir s [id]) []:=⟨_,rfl⟩
 rw[←hW]
 have h3':K1 (E4 Q) p.changes=false:=by simpa using h3
 have ok:Fj s ⟨id,p⟩ (E4 Q):=Wv hv hx hQ h3'
 have zz:=Re hg hx z
 have a0:Je s ⟨id,p⟩ (Ir s [id]) []:=TR hv hx (by simpa using h1)
 have hzl:((E4 Q).zip ms).length=Q.length:=by rw[Uy,IJ];omega
 have hsb:=nm (cs:=p.changes) (ns:=Nq Q p.changes.length) (m:=1000000000) (by omega)
 refine wf ?_
 refine EO 32 ?_
 refine Ab (σ:=Nat × List Sto × List Dig × CC) (fun k=>k.1≤Q.length∧PF ⟨id,p⟩ (E4 Q) (((E4 Q).zip ms).drop k.1) k.2.1 k.2.2.1=W∧Je s ⟨id,p⟩ k.2.1 k.2.2.1∧k.2.2.1.length=k.1) (fun k=>Q.length - k.1) (fun k=> [(2,.slice (Q.map Pg) tq),(3,.slice (ms.map GF) tm),(16,.raw (.pointer (some ⟨bx,0,none⟩))),(17,.slice (k.2.1.map eSto) .ro),(63,.slice (Q.map Pg) tq),(64,.raw (.int .i64 Q.length)),(65,.raw (.int .i64 k.1))]) (fun k=> .tok k.2.2.2 k.2.2.1.length 32:: .box bx 104 (FR p (Nq Q p.changes.length) (Ee p.changes) tf (HO p.changes (Nq Q p.changes.length) p.changes.length) ts k.2.2.1 k.2.2.2)::LF) (0,Ir s [id],[],.nil) ⟨by dsimp only;omega,hW.symm,a0,rfl⟩ ⟨rfl,rfl,rfl,rfl,rfl,rfl,rfl⟩ (.refl _) ?_
 rintro⟨k,T,is,ti⟩ ⟨hk,hI,hA,hlen⟩
 dsimp only at hk hI hA hlen ⊢
 refine wf ?_
 refine A6 (fun hc=>?_) (fun hc=>?_)
 ·have hlt:k < Q.length:=by omega
  have hltm:k < ms.length:=by omega
  have hltP:k < (E4 Q).length:=by rw[IJ];exact hlt
  have hQk:=eD hQ hlt
  have hlk:((E4 Q)[k]).length≤1000000:=by
   have:=hr _ (AB hlt)
   rw[hQk,AR]at this
   exact this
  have hdr:((E4 Q).zip ms).drop k=((E4 Q)[k],ms[k])::((E4 Q).zip ms).drop (k+1):=by
   rw[C6 (by omega),mn]
  have hne:p.changes≠ []:=fun e=>by
   have h5:=hpq.ne _ (AB hltP)
   obtain⟨c,hc⟩:=List.exists_mem_of_ne_nil _ h5
   have:=hpq.lt _ (AB hltP) c hc
   rw[e]at this
   exact absurd this (DF _)
  have hC:(((E4 Q)[k]).map fun c=>FU (fQ p.changes (Nq Q p.changes.length) (HO p.changes (Nq Q p.changes.length) p.changes.length) is k) (p.changes.getD c Chg.zero))=((E4 Q)[k]).map fun c=>FU (fS (E4 Q) p.changes is is.length) (p.changes.getD c Chg.zero):=Ca fun c _=>by
   rw[show fQ p.changes (Nq Q p.changes.length) (HO p.changes (Nq Q p.changes.length) p.changes.length) is k=fS (E4 Q) p.changes is is.length from funext fun y=>by rw[hlen];exact y9 hQ hne is k y]
  have hbig:E7 (Ez ⟨id,p⟩ (E4 Q) is (E4 Q)[k] ms[k])=false:=zz.big ok (e:=((E4 Q)[k],ms[k])) (by rw[IJ];omega) (JX (hdr ▸ AG)) (by simp only[hlen])
  obtain⟨q,hq⟩: ∃ q,q=Ez ⟨id,p⟩ (E4 Q) is (E4 Q)[k] ms[k]:=⟨_,rfl⟩
  have hlT:=hA.len
  have hstep:=hA.step (p:=q) (by rw[hq];exact hbig) (by omega)
  rw[hdr,PF]at hI
  dsimp only at hI
  rw[←hq]at hI
  have i5:B0 (BP T):=⟨hA.val⟩
  have hq':q=⟨(ms[k]).author,(ms[k]).message,(ms[k]).time,KX (sortD (B7 p++is)),((E4 Q)[k]).map fun c=>FU (fS (E4 Q) p.changes is is.length) (p.changes.getD c Chg.zero)⟩:=hq
  have ca: ∀ p',p'=q→ ∀ u,C8 Tryz.prog 35 [.slice (T.map eSto) u,.agg (Bn p')] (.tuple [.slice ((FB T q).1.map eSto) .ro,.agg (eDig (FB T q).2.1),.raw (.int .i64 (FB T q).2.2)]):=fun p' e u=>by
   have i6:B0 (E7 q=false):=⟨by rw[hq];exact hbig⟩
   subst e
   exact Y2 T _ u
  have ca:=ca _ hq'.symm
  obtain⟨⟨T1,d1,e1⟩,hR⟩: ∃ A,A=FB T q:=⟨_,rfl⟩
  rw[←hR]at ca hI hstep
  dsimp only at ca hI hstep
  refine wf ?_
  refine C0 (xs:= [.tmp 72,.tmp 73,.tmp 74,.tmp 78]) [.box bx 104 (FR p (Nq Q p.changes.length) (Ee p.changes) tf (HO p.changes (Nq Q p.changes.length) p.changes.length) ts is ti)] (.tok ti is.length 32::LF) (fun R'=> .tok ti is.length 32::(R'++LF)) (f:=66) (cs:= []) (C5 _) rfl (by rw[←hQk];rfl) (.swap _ _ _) _ (ox hv hx (Nq Q p.changes.length) (HO p.changes (Nq Q p.changes.length) p.changes.length) (XV _ _) (by simp[HO]) hsb tf ts ti is (by omega) bx k (E4 Q)[k] (hpq.lt _ (AB hltP)) hlk .ro ms[k] (fun c hc y hy ho hne2=>by
   have hcn:=hpq.lt _ (AB hltP) c hc
   have hinc:JE (E4 Q) c=k:=LU hpq.apart hltP hc
   have hm:=W5 hQ (P1 (n:=y.n) hne)
   refine⟨_,hm,?_⟩
   rw[hm]at hne2
   have h6:=Br.1 h3' c (Bg.2 hcn)
   rw[Jv]at h6
   have h7:=Br.1 h6 y hy
   simp only[ho,EK,AD,hinc]at h7
   omega)) (fun _=>kf) fun r L' ⟨⟨tg,hr3⟩,hL3⟩=>?_
  dsimp only at hr3
  rw[hC]at hr3
  subst hr3 hL3
  rw[B3,BB]
  refine wz fun b21=>?_
  refine Al 21 ?_
  refine wn ?_
  refine AX (fun h5=>?_) (fun h5=>?_)
  ·rw[if_pos h5]at hI
   rw[←hI]
   refine wf ?_
   exact SD (x:= .slice [] .nil) (y:= .slice [] .nil) (.tuple3 (.ro _ _) (.ro _ _) (.refl _))
  ·rw[if_neg (by simp[h5])]at hI
   refine wn ?_
   refine H2 [5,8,9,12] (by decide+kernel) ?_
   refine B5 0 ?_
   refine B5 1 ?_
   refine B5 2 ?_
   refine B5 3 ?_
   refine B5 4 ?_
   refine B5 6 ?_
   refine B5 7 ?_
   refine Ad 5 5 ?_
   refine wo ?_
   refine AE ?_
   refine Ad 4 8 ?_
   refine Iw (f:=eDig) (l:=is) (m:= [d1]) (by rfl) (by rfl) (by simp only[Au];omega) (by simp only[Au];omega) (fun t=> .here) fun v'=>?_
   refine AE ?_
   refine Ad 3 9 ?_
   refine wo ?_
   refine AE ?_
   refine B5 10 ?_
   refine B5 11 ?_
   refine Ad 0 12 ?_
   refine GU (ay:= .slice ((is++ [d1]).map eDig) v') (FR p (Nq Q p.changes.length) (Ee p.changes) tf (HO p.changes (Nq Q p.changes.length) p.changes.length) ts (is++ [d1]) v') rfl rfl Dx.out rfl (by simp) ?_
   refine AE ?_
   refine Cu (by decide+kernel) ?_
   refine wf ?_
   exact⟨(k+1,T1,is++ [d1],v'),⟨by dsimp only;omega,hI,(hstep h5).1,by simp[hlen]⟩,by dsimp only;omega,⟨rfl,rfl,rfl,rfl,rfl,rfl,rfl⟩,.refl _⟩
 ·rw[DN (by omega),PF]at hI
  refine wn ?_
  rw[←hI]
  refine H2 [4,5,6,7] (by decide+kernel) ?_
  refine B5 0 ?_
  refine B5 1 ?_
  refine B5 2 ?_
  refine B5 3 ?_
  refine Cw (fuel:=3) [4,5] (by decide+kernel) (by simp) fun i hi=>?_
  simp only[AH,Ai,or_false]at hi
  rcases hi with rfl|rfl
  ·refine⟨_,rfl,?_⟩
   refine wo ?_
   refine AE ?_
   refine Ad 2 5 ?_
   refine wo ?_
   refine AE ?_
   refine Ad 1 6 ?_
   refine wo ?_
   refine AE ?_
   refine Ad 0 7 ?_
   refine wo ?_
   refine AE ?_
   refine Cu (by decide+kernel) ?_
   refine wf ?_
   exact SD (x:= .slice (T.map eSto) .ro) (y:= .slice (is.map eDig) ti) (.tuple3 (.refl _) (.ro _ _) (.refl _))
  ·refine⟨_,rfl,?_⟩
   refine wo ?_
   refine AE ?_
   refine Ad 2 4 ?_
   refine wo ?_
   refine AE ?_
   refine Ad 1 6 ?_
   refine wo ?_
   refine AE ?_
   refine Ad 0 7 ?_
   refine wo ?_
   refine AE ?_
   refine Cu (by decide+kernel) ?_
   refine wf ?_
   exact SD (x:= .slice (T.map eSto) .ro) (y:= .slice (is.map eDig) ti) (.tuple3 (.refl _) (.ro _ _) (.refl _))⟩
end Go.Proofs
namespace Go.Q
open Go
structure jD where
 id:Dig
 parts:List (List Int)
 metas:List Mta
def Ia (c:jD):List PV:=(eDig c.id)++([.slice ((c.parts).map Pg) .ro]++([.slice ((c.metas).map GF) .ro]))
@[simp] theorem l9 (c:jD):(Ia c).length=34:=by unfold Ia;simp
instance :NS Ia 34:=⟨l9⟩
instance uX (c:jD):Jt (Ia c) 0 (eDig c.id):=by unfold Ia;exact DE
instance nI (c:jD):Jt (Ia c) 32 [.slice ((c.parts).map Pg) .ro]:=by unfold Ia;exact Ae (n:=32) (off:=0) (by simp) (DE)
instance nJ (c:jD):Jt (Ia c) 33 [.slice ((c.metas).map GF) .ro]:=by unfold Ia;exact Ae (n:=32) (off:=1) (by simp) (Ae (n:=1) (off:=0) (by simp) (Kj))
end Go.Q
namespace Go.Proofs
open Go Go.Q
attribute [local irreducible] ER AU H8 BA Fk
instance wa:Ck Tryz.prog 26 (GF Mta.zero):=Ck.of (us:=(GF Mta.zero).map zv) (by kernel_rfl) (by kernel_rfl)
def NF (m:Mta):Bool:=decide (60 < m.author.length∨60 < m.message.length)
def SY (l:List Mta):Bool:=l.any NF
def Q9 (c:jD):Bool:=c.parts.any (fun l=>decide (20 < l.length))||decide (8 < c.parts.length∨8 < c.metas.length)||SY c.metas
instance vo (l:List Mta) (t:CC):C8 Tryz.prog 10 [.slice (l.map GF) t] (.raw (.bool (SY l))):=⟨by
 refine Av Tryz.func10 Tryz.ntmps10 rfl (rs:= [.tmp 2]) rfl rfl fun hb LF=>?_
 have hlen:l.length≤140737488355328:=(hb (.slice (l.map GF) t) (by simp)).slice_map
 have hst: ∀ m∈l,m.author.length≤140737488355328∧m.message.length≤140737488355328:=fun m hm=>⟨((hb (.slice (l.map GF) t) (by simp)).slice_at hm (c:= .str m.author) (by simp[GF])).str_len,((hb (.slice (l.map GF) t) (by simp)).slice_at hm (c:= .str m.message) (by simp[GF])).str_len⟩
 refine wf ?_
 refine Ab (σ:=Nat) (fun k=>k≤l.length∧(l.take k).any NF=false) (fun k=>l.length - k) (fun k=> [(5,.slice (l.map GF) t),(6,.raw (.int .i64 l.length)),(7,.raw (.int .i64 k))]) (fun _=>LF) 0 ⟨by omega,by simp⟩ ⟨rfl,rfl,rfl⟩ (.refl _) ?_
 rintro k ⟨hk,hno⟩
 refine wf ?_
 refine A6 (fun hc=>?_) (fun hc=>?_)
 ·have hlt:k < l.length:=by omega
  have hm:=hst _ (AB hlt)
  have hn: ∀ b,NF l[k]=b→(l.take (k+1)).any NF=b:=fun b h=>by
   rw[A7 hlt,Ei,hno];simpa using h
  refine wz fun b4=>?_
  refine Al 4 ?_
  generalize l[k]=m at*
  refine wf ?_
  refine BT [(20,.raw (.bool (NF m))),(5,.slice (l.map GF) t),(6,.raw (.int .i64 l.length)),(7,.raw (.int .i64 k))] (LF) ?_ ?_
  ·repeat' (first|(refine A6 (fun h=>?_) (fun h=>?_)<;>refine wf ?_)|(refine AX (fun h=>?_) (fun h=>?_)<;>refine wf ?_)|(refine AW (fun h=>?_) (fun h=>?_)<;>refine wf ?_)|(refine Ay (fun h=>?_) (fun h=>?_)<;>(have h2:=h;(try simp only[AD,A8,AI,AN]at h2);refine wf ?_)))
   all_goals (refine⟨⟨C9 (by rfl) ?_,rfl,rfl,rfl⟩,.refl _⟩;unfold NF;first|(simp_all;done)|(simp_all;omega)|grind)
  refine wf ?_
  refine AW (fun h=>?_) (fun h=>?_)
  ·refine wf ?_
   refine B1 (.of_eq ?_)
   have:=hn true h
   have e:SY l=true:=by
    unfold SY
    rw[←Bf (k+1) l,Ei,this];rfl
   rw[e]
  ·refine wf ?_
   exact⟨k+1,⟨by omega,hn false h⟩,by dsimp only;omega,⟨rfl,rfl,rfl⟩,.refl _⟩
 ·rw[AF (by omega)]at hno
  refine wf ?_
  refine B1 (.of_eq ?_)
  unfold SY
  rw[hno]⟩
instance uK (c:jD):C8 Tryz.prog 22 [.agg (Ia c)] (.raw (.bool (Q9 c))):=⟨by
 refine Av Tryz.func22 Tryz.ntmps22 rfl (rs:= [.tmp 2]) rfl rfl fun hb LF=>?_
 have hbp:=(hb (.agg (Ia c)) (by simp)).agg_at (c:= .slice (c.parts.map Pg) .ro) (by simp[Ia])
 have hbm:=(hb (.agg (Ia c)) (by simp)).agg_at (c:= .slice (c.metas.map GF) .ro) (by simp[Ia])
 have hlen:c.parts.length≤140737488355328:=hbp.slice_map
 have hlem:c.metas.length≤140737488355328:=hbm.slice_map
 have hst: ∀ l∈c.parts,l.length≤140737488355328:=fun l hl=>(hbp.slice_at hl (c:= .slice (l.map eI) .ro) (by simp[Pg])).slice_map
 refine wf ?_
 refine Ab (σ:=Nat) (fun k=>k≤c.parts.length∧(c.parts.take k).any (fun l=>decide (20 < l.length))=false) (fun k=>c.parts.length - k) (fun k=> [(1,.pt (Ia c) 0),(6,.slice (c.parts.map Pg) .ro),(7,.raw (.int .i64 c.parts.length)),(8,.raw (.int .i64 k))]) (fun _=>LF) 0 ⟨by omega,by simp⟩ ⟨rfl,rfl,rfl,rfl⟩ (.refl _) ?_
 rintro k ⟨hk,hno⟩
 refine wf ?_
 refine A6 (fun hc=>?_) (fun hc=>?_)
 ·have hlt:k < c.parts.length:=by omega
  have hm:=hst _ (AB hlt)
  have hn: ∀ b,decide (20 < (c.parts[k]).length)=b→(c.parts.take (k+1)).any (fun l=>decide (20 < l.length))=b:=fun b h=>by
   rw[A7 hlt,Ei,hno];simpa using h
  refine wf ?_
  refine A6 (fun h=>?_) (fun h=>?_)
  ·refine wf ?_
   refine B1 (.of_eq ?_)
   have:=hn true (BF (by omega))
   have e:c.parts.any (fun l=>decide (20 < l.length))=true:=by
    rw[←Bf (k+1) c.parts,Ei,this];rfl
   unfold Q9
   rw[e];rfl
  ·refine wf ?_
   exact⟨k+1,⟨by omega,hn false (Cp (by omega))⟩,by dsimp only;omega,⟨rfl,rfl,rfl,rfl⟩,.refl _⟩
 ·rw[AF (by omega)]at hno
  have e:Q9 c=(decide (8 < c.parts.length∨8 < c.metas.length)||SY c.metas):=by unfold Q9;rw[hno];rfl
  rw[e]
  refine wf ?_
  refine BT [(2,.raw (.bool (decide (8 < c.parts.length∨8 < c.metas.length)||SY c.metas))),(1,.pt (Ia c) 0)] (LF) ?_ ?_
  ·repeat' (first|(refine A6 (fun h=>?_) (fun h=>?_)<;>refine wf ?_)|(refine AX (fun h=>?_) (fun h=>?_)<;>refine wf ?_)|(refine AW (fun h=>?_) (fun h=>?_)<;>refine wf ?_)|(refine Ay (fun h=>?_) (fun h=>?_)<;>(have h2:=h;(try simp only[AD,A8,AI,AN]at h2);refine wf ?_)))
   all_goals (refine⟨⟨C9 (by rfl) ?_,rfl⟩,.refl _⟩;first|(simp_all;done)|(simp_all;omega)|grind)
  refine wf ?_
  exact B1 (.refl _)⟩
end Go.Proofs
namespace Go.Proofs
open Go Go.Q
def bF:Mta:=⟨[98,111,98],[],0⟩
def ir:Dig:=⟨[201,28,190,149,120,204,145,162,76,176,190,248,179,235,174,253,108,101,45,201,70,169,120,103,60,58,28,92,187,85,25,174],rfl⟩
def sx:Dig:=⟨[95,52,110,140,148,128,50,197,184,155,177,70,110,45,170,42,165,190,242,91,151,230,172,24,3,168,255,62,132,124,150,202],rfl⟩
def sxI (d:Dig):Chg:={ Chg.zero with kind:=5,file:=⟨d,0⟩,after:=⟨d,0⟩,before:=⟨d,0⟩,lines:= [[120]] }
def sxP:Pat:=⟨[98,111,98],[],0,[],[awF,sxI Dig.zero]⟩
def sxQ:Pat:=⟨[98,111,98],[],0,[qY],[sxI qY]⟩
def sxT:List Sto:= [⟨ir,sxP⟩]
def sxU:List Sto:= [⟨qY,awC⟩,⟨sx,sxQ⟩]
theorem sw:eH aw2S [cz,sI] bF=sxP:=by decide+kernel
theorem zi:zl aw2S [cz,sI] bF=(sxT,ir,0):=by decide+kernel
theorem ng:bJ sxT ir [[0],[1]] [bF,bF]=(sxU,[qY,sx],0):=by decide+kernel
theorem nh:GV sxP=false:=by decide+kernel
theorem nj:MA sxT=true:=by decide+kernel
theorem ni:MA sxU=true:=by decide+kernel
theorem YI:GQ sxT=false:=by decide+kernel
theorem jL:Kb sxU sx qY=true:=by decide+kernel
theorem wg:getS sxT ir=some sxP:=by decide+kernel
attribute [local irreducible] ER AU H8 BA Fk
theorem pZ (xs:List (List PV)) (h:xs= []):Le (.raw (.slice none 0 0)) (.slice xs .nil):=fun g v hv=>by
 subst h;rw[hv.raw_inv];exact .nilN none (by simp)
instance (l:List Int):GP (.slice (l.map eI) .ro) Pg l:=⟨Dn.one (c:= .slice (l.map eI) .ro) Dx.out⟩
instance uw:C8 Tryz.prog 11 [] (.raw (.bool true)):=⟨by
 have v0:BP []:=Ll qX
 have v1:BP aw1S:=Ll qW
 have v2:BP aw2S:=Ll qV
 have vT:BP sxT:=Ll nj
 have vU:BP sxU:=Ll ni
 have i0:B0 (BP []):=⟨v0⟩
 have i1:B0 (BP aw1S):=⟨v1⟩
 have i2:B0 (BP aw2S):=⟨v2⟩
 have i3:B0 (BP sxU):=⟨vU⟩
 have g0:B0 (E7 uz=false):=⟨Xy fA.1⟩
 have g1:B0 (E7 w7=false):=⟨Xy fA.2.1⟩
 have a0:=Y2 [] uz .nil
 have a1:=fun t=>Y2 aw1S w7 t
 rw[uy]at a0
 rw[ux]at a1
 dsimp only at a0 a1
 have cs: ∀ t u,C8 Tryz.prog 12 [.slice (aw2S.map eSto) t,.slice ([cz,sI].map eDig) u,.agg (GF bF)] (.tuple [.slice (sxT.map eSto) .ro,.agg (eDig ir),.raw (.int .i64 0)]):=fun t u=>by
  have:=bH aw2S t [cz,sI] u bF v2 (by decide) (by decide) (by rw[SZ v2,sw];exact Xy nh)
  rw[np v2,zi]at this
  exact this
 have cg: ∀ t,C8 Tryz.prog 17 [.slice (sxT.map eSto) t,.agg (eDig ir)] (.tuple [.agg (Bn sxP),.raw (.bool true)]):=fun t=>by
  have:=KM sxT t ir
  rw[wg]at this
  exact this
 have z:PA [[0],[1]] [bF,bF]:=⟨by decide,by decide⟩
 have cp: ∀ t u w,C8 Tryz.prog 21 [.slice (sxT.map eSto) t,.agg (eDig ir),.slice (([[0],[1]]:List (List Int)).map Pg) u,.slice ([bF,bF].map GF) w] (.tuple [.slice (sxU.map eSto) .ro,.slice ([qY,sx].map eDig) .ro,.raw (.int .i64 0)]):=fun t u w=>by
  have:=YM sxT t ir [[0],[1]] u [bF,bF] w vT YI z (by decide) (by decide)
  rw[jS vT YI ir z,ng]at this
  exact this
 have ck:=fun t=>SP sxU sx qY t
 rw[jL]at ck
 have hl2:sxP.changes.length=2:=rfl
 have hl3: [qY,sx].length=2:=rfl
 refine Av Tryz.func11 Tryz.ntmps11 rfl (rs:= [.tmp 0]) rfl rfl fun hb LF=>?_
 refine wf ?_
 refine CQ (xs:= [.const (Value.slice none 0 0),.tmp 19]) [] LF (f:=35) (cs:= []) (C5 _) rfl rfl (.refl _) _ (BA.args (bs:= [.slice (([]:List Sto).map eSto) .nil,.agg (Bn uz)]) rfl (fun i g1 g2=>by
   match i,g1,g2 with
   |0,_,_=>exact pZ _ rfl
   |1,_,_=>exact .of_eq rfl
   |m+2,g1,_=>exact absurd g1 (by simp)) a0.out) fun r L' ⟨e1,e2⟩=>?_
 subst e1;rw[e2,BB]
 refine wf ?_
 refine Bx fun b2=>?_
 refine wo ?_
 refine AE ?_
 refine Al 2 ?_
 refine HD [(1,.slice (aw1S.map eSto) .ro),(2,.pt (eDig cz) 0),(3,.raw (.int .i64 0))] ⟨rfl,rfl,rfl⟩ (.refl _) ?_
 refine wf ?_
 refine Bx fun b4=>?_
 refine wo ?_
 refine AE ?_
 refine Al 4 ?_
 refine HD [(1,.slice (aw1S.map eSto) .ro),(2,.pt (eDig cz) 0),(3,.raw (.int .i64 0)),(4,.pt (eIdent ⟨cz,0⟩) 0)] ⟨rfl,rfl,rfl,rfl⟩ (.refl _) ?_
 refine wf ?_
 refine CQ (xs:= [.tmp 27,.tmp 34]) [] LF (f:=35) (cs:= []) (C5 _) rfl rfl (.refl _) _ (BA.args (bs:= [.slice ((aw1S:List Sto).map eSto) .ro,.agg (Bn w7)]) rfl (fun i g1 g2=>by
   match i,g1,g2 with
   |0,_,_=>exact .of_eq rfl
   |1,_,_=>exact .of_eq rfl
   |m+2,g1,_=>exact absurd g1 (by simp)) (a1 .ro).out) fun r L' ⟨e1,e2⟩=>?_
 subst e1;rw[e2,BB]
 refine wf ?_
 refine Bx fun b5=>?_
 refine wo ?_
 refine AE ?_
 refine Al 5 ?_
 refine HD [(1,.slice (aw2S.map eSto) .ro),(2,.pt (eDig cz) 0),(3,.raw (.int .i64 0)),(5,.pt (eDig sI) 0),(6,.raw (.int .i64 0))] ⟨rfl,rfl,rfl,rfl,rfl⟩ (.refl _) ?_
 refine wf ?_
 refine Bx fun b7=>?_
 refine wo ?_
 refine AE ?_
 refine Al 7 ?_
 refine HD [(1,.slice (aw2S.map eSto) .ro),(2,.pt (eDig cz) 0),(3,.raw (.int .i64 0)),(5,.pt (eDig sI) 0),(6,.raw (.int .i64 0)),(7,.pt (GF bF) 0)] ⟨rfl,rfl,rfl,rfl,rfl,rfl⟩ (.refl _) ?_
 refine wf ?_
 refine Bx fun b9=>?_
 refine wo ?_
 refine AE ?_
 refine Al 9 ?_
 refine HD [(3,.raw (.int .i64 0)),(6,.raw (.int .i64 0)),(7,.pt (GF bF) 0),(8,.slice (sxT.map eSto) .ro),(9,.pt (eDig ir) 0),(10,.raw (.int .i64 0))] ⟨rfl,rfl,rfl,rfl,rfl,rfl⟩ (.refl _) ?_
 refine wf ?_
 refine Bx fun b11=>?_
 refine wo ?_
 refine AE ?_
 refine Al 11 ?_
 refine HD [(3,.raw (.int .i64 0)),(6,.raw (.int .i64 0)),(7,.pt (GF bF) 0),(8,.slice (sxT.map eSto) .ro),(9,.pt (eDig ir) 0),(10,.raw (.int .i64 0)),(11,.pt (Bn sxP) 0),(12,.raw (.bool true))] ⟨rfl,rfl,rfl,rfl,rfl,rfl,rfl,rfl⟩ (.refl _) ?_
 refine wf ?_
 exact B1 (y:= .raw (.bool (Kb sxU sx qY))) (.of_eq (by rw[jL])) (hx:=rfl)⟩
theorem cU {s:List Sto} (h:MA s=true):GQ s=false:=by
 unfold MA at h
 simp only[BR,AI]at h
 exact h.1
theorem gi {c:jD} (h:Q9 c=false):PA c.parts c.metas∧(∀ l∈c.parts,l.length≤20)∧c.metas.length≤8:=by
 unfold Q9 at h
 simp only[Cr,Br,AD,A8]at h
 obtain⟨⟨h1,h2⟩,h3⟩:=h
 refine⟨⟨by omega,fun m hm=>?_⟩,fun l hl=>by have:=h1 l hl;omega,by omega⟩
 unfold SY at h3
 have:=Br.1 h3 m hm
 unfold NF at this
 simp only[AD]at this
 omega
theorem aa {s t:List Sto} (v:BP s) (w:BP t) {x y:Ident} (h:Y0 s t x y=true) (ts tt:CC):C8 Tryz.prog 30 [.slice (s.map eSto) ts,.slice (t.map eSto) tt,.agg (eIdent x),.agg (eIdent y)] (.raw (.bool true)):=⟨by
 have f1:=fun u=>Ub s u x v.close.1
 have f2:=fun u=>Ub t u y w.close.1
 have a1:=fun u=>aZ v u x
 have a2:=fun u=>aZ w u y
 unfold Y0 at h
 cases ha:LB s x with
 |none=>rw[ha]at h;cases h
 |some a=>
 cases hb:LB t y with
 |none=>rw[ha,hb]at h;cases h
 |some b=>
 rw[ha]at f1 h
 rw[hb]at f2 h
 dsimp only at h
 unfold eF at h
 simp only[BR,AD]at h
 obtain⟨⟨⟨⟨⟨⟨⟨h1,h2⟩,h3⟩,h4⟩,h5⟩,h6⟩,h7⟩,h8⟩:=h
 rw[Bj,dI]at f1 f2
 refine Av Tryz.func30 Tryz.ntmps30 rfl (rs:= [.tmp 8]) rfl rfl fun hb LF=>?_
 refine wz fun b9=>?_
 refine Al 9 ?_
 refine wz fun b11=>?_
 refine Al 11 ?_
 refine wf ?_
 refine BT [(8,.raw (.bool (true))),(0,.slice (s.map eSto) ts)] (LF) ?_ ?_
 ·repeat' (first|(refine A6 (fun h=>?_) (fun h=>?_)<;>refine wf ?_)|(refine AX (fun h=>?_) (fun h=>?_)<;>refine wf ?_)|(refine AW (fun h=>?_) (fun h=>?_)<;>refine wf ?_)|(refine Ay (fun h=>?_) (fun h=>?_)<;>(have h2:=h;(try simp only[AD,A8,AI,AN]at h2);refine wf ?_)))
  all_goals (refine⟨⟨C9 (by rfl) ?_,rfl⟩,.refl _⟩;first|(simp_all;done)|(simp_all;omega)|grind)
 refine wf ?_
 exact B1 (.refl _)⟩
theorem ou {x:Sto} {P:List (List Nat)} {is:List Dig} (hP:J8 P x.patch.changes.length) {i:Nat} (hi:i < P.length) (hl:i < is.length) {j:Nat} (hj:j < (P[i]).length) (hc:(P[i])[j] < x.patch.changes.length) {q:Nat} (hq:q < FH x.patch.changes[(P[i])[j]]):
  PG x P is ⟨x.id,(CD x.patch.changes (P[i])[j]+q:Nat)⟩=⟨is[i],(Nj P x.patch.changes (P[i])[j]:Int)+q⟩:=by
 have hm:DT x.patch.changes ((CD x.patch.changes (P[i])[j]+q:Nat):Int)=(P[i])[j]:=TE hc (by omega) (by rw[FV hc];omega)
 unfold PG
 rw[if_pos rfl,hm,LU hP.apart hi (AB hj),Ff hl]
 dsimp only
 congr 1
 omega
theorem ke {x:Sto} {P:List (List Nat)} {is:List Dig} {y:Ident} (h:y.patch≠x.id):PG x P is y=y:=by unfold PG;rw[if_neg h]
theorem TQ (s:List Sto) (t:CC) (c:jD):C8 Tryz.prog 8 [.slice (s.map eSto) t,.agg (Ia c)] (.raw (.bool true)):=⟨by
 refine Av Tryz.func8 Tryz.ntmps8 rfl (rs:= [.tmp 4]) rfl rfl fun hb LF=>?_
 refine wf ?_
 refine BT [(33,.raw (.bool (!MA s||Q9 c))),(0,.slice (s.map eSto) t),(3,.pt (Ia c) 0)] (LF) ?_ ?_
 ·repeat' (first|(refine A6 (fun h=>?_) (fun h=>?_)<;>refine wf ?_)|(refine AX (fun h=>?_) (fun h=>?_)<;>refine wf ?_)|(refine AW (fun h=>?_) (fun h=>?_)<;>refine wf ?_)|(refine Ay (fun h=>?_) (fun h=>?_)<;>(have h2:=h;(try simp only[AD,A8,AI,AN]at h2);refine wf ?_)))
  all_goals (refine⟨⟨C9 (by rfl) ?_,rfl,rfl⟩,.refl _⟩;first|(simp_all;done)|(simp_all;omega)|grind)
 refine wf ?_
 refine AW (fun h=>?_) (fun h=>?_)
 ·refine wf ?_
  exact B1 (.refl _)
 simp only[Cr,AN]at h
 obtain⟨hf,hgc⟩:=h
 have v:=Ll hf
 have hg:=cU hf
 have hs8:=(NJ hg).1
 obtain⟨z,hr,hmm⟩:=gi hgc
 have hQl:=z.parts
 have c1:=fun t u w=>YM s t c.id c.parts u c.metas w v hg z (fun l hl=>by have:=hr l hl;omega) (by omega)
 by_cases h0:(H7 s c.id c.parts c.metas).2.2=0
 ·obtain⟨p,T,is,hx,e,hnd,hok,hml,ok,R,hlen⟩:=fR v hg z h0
  rw[e]at c1
  dsimp only at c1
  have hPl:=IJ c.parts
  have hP:J8 (E4 c.parts) p.changes.length:=ok.parts
  have hb0:E7 p=false:=v.close.1.2 _ hx
  obtain⟨_,_,g1,g2,gch⟩:=EW hb0
  have i1:B0 (E7 p=false):=⟨hb0⟩
  have vT:=R.st.val
  have i3:B0 (BP T):=⟨vT⟩
  have i4:B0 (Gw T):=⟨vT.close.1⟩
  have hk0:=fun t=>dF T t
  rw[Ui vT]at hk0
  have hcnt:(T.length:Int)=s.length - 1+is.length:=by
   have h1:=R.cnt
   have h2:=pC v hx
   dsimp only at h1 h2
   omega
  have hlc:is.length=c.parts.length:=hlen
  have cg: ∀ t,C8 Tryz.prog 17 [.slice (s.map eSto) t,.agg (eDig c.id)] (.tuple [.agg (Bn p),.raw (.bool true)]):=fun t=>by
   have:=KM s t c.id
   have e2:=v.getS hx
   dsimp only at e2
   rw[e2]at this
   exact this
  have hren:=R.renamed ok hnd (by rw[hlen,hPl])
  have hlike:=fun {y:Sto} (hy:y∈s) {n:Nat} (hn:n < Hl y.patch)=>hren.alike v vT hy hn
  refine wz fun b8=>?_
  refine Al 8 ?_
  refine wf ?_
  refine BT [(86,.raw (.bool (false))),(0,.slice (s.map eSto) t),(3,.pt (Ia c) 0),(5,.slice (T.map eSto) .ro),(6,.slice (is.map eDig) .ro),(8,.pt (Bn p) 0)] (LF) ?_ ?_
  ·repeat' (first|(refine A6 (fun h=>?_) (fun h=>?_)<;>refine wf ?_)|(refine AX (fun h=>?_) (fun h=>?_)<;>refine wf ?_)|(refine AW (fun h=>?_) (fun h=>?_)<;>refine wf ?_)|(refine Ay (fun h=>?_) (fun h=>?_)<;>(have h2:=h;(try simp only[AD,A8,AI,AN]at h2);refine wf ?_)))
   all_goals (refine⟨⟨C9 (by rfl) ?_,rfl,rfl,rfl,rfl,rfl⟩,.refl _⟩;first|(simp_all;done)|(simp_all;omega)|grind)
  refine wf ?_
  refine wf ?_
  refine Ab (σ:=Nat) (fun i=>i≤c.parts.length) (fun i=>c.parts.length - i) (fun i=> [(0,.slice (s.map eSto) t),(3,.pt (Ia c) 0),(5,.slice (T.map eSto) .ro),(6,.slice (is.map eDig) .ro),(8,.pt (Bn p) 0),(88,.slice (c.parts.map Pg) .ro),(89,.raw (.int .i64 c.parts.length)),(90,.raw (.int .i64 i))]) (fun _=>LF) 0 (by omega) ⟨rfl,rfl,rfl,rfl,rfl,rfl,rfl,rfl⟩ (.refl _) ?_
  rintro i hi
  refine wf ?_
  refine A6 (fun hc=>?_) (fun hc=>?_)
  ·have hlt:i < c.parts.length:=by omega
   have hli:i < is.length:=by omega
   have hltP:i < (E4 c.parts).length:=by omega
   have hQk:=eD hok hlt
   have hgk:(E4 c.parts).getD i []=(E4 c.parts)[i]:=by simp[List.getD,hltP]
   obtain⟨q,hq⟩: ∃ q,q=(MG ⟨c.id,p⟩ (E4 c.parts) c.metas is i).patch:=⟨_,rfl⟩
   have hgT:=R.get hli
   rw[←hq]at hgT
   have hqm:(⟨is[i],q⟩:Sto)∈T:=MQ hgT
   have hqc:q.changes.length=(c.parts[i]).length:=by
    rw[hq,hQk,AR]
    unfold MG Ez
    dsimp only
    rw[AR,hgk]
   have cgT: ∀ t,C8 Tryz.prog 17 [.slice (T.map eSto) t,.agg (eDig is[i])] (.tuple [.agg (Bn q),.raw (.bool true)]):=fun t=>by
    have:=KM T t is[i]
    rw[hgT]at this
    exact this
   obtain⟨kn1,kn2⟩:=R.knows hli
   refine wz fun b12=>?_
   refine Al 12 ?_
   refine wf ?_
   refine AX (p:=(q.changes.length:Int)=((c.parts[i]).length:Nat)) (fun h=>(h (by omega)).elim) (fun _=>?_)
   refine wf ?_
   obtain⟨l,hl⟩: ∃ l,l=(E4 c.parts)[i]:=⟨_,rfl⟩
   have hll:=hP.lt _ (AB hltP)
   rw[←hl]at hQk hll
   have hql:(c.parts[i]).length=l.length:=by rw[hQk,AR]
   have hl20:l.length≤20:=by have:=hr _ (AB hlt);omega
   refine Ab (σ:=Nat) (fun j=>j≤l.length) (fun j=>l.length - j) (fun j=> [(0,.slice (s.map eSto) t),(3,.pt (Ia c) 0),(5,.slice (T.map eSto) .ro),(6,.slice (is.map eDig) .ro),(8,.pt (Bn p) 0),(10,.raw (.int .i64 i)),(12,.pt (Bn q) 0),(88,.slice (c.parts.map Pg) .ro),(89,.raw (.int .i64 c.parts.length)),(90,.raw (.int .i64 i)),(114,.slice ((c.parts[i]).map eI) .ro),(115,.raw (.int .i64 (c.parts[i]).length)),(116,.raw (.int .i64 j))]) (fun _=>LF) 0 (by omega) ⟨rfl,rfl,rfl,rfl,rfl,rfl,rfl,rfl,rfl,rfl,rfl,rfl,rfl⟩ (.refl _) ?_
   rintro j hj
   refine wf ?_
   refine A6 (fun hc2=>?_) (fun hc2=>?_)
   ·have hjl:j < l.length:=by omega
    have hjq:j < (c.parts[i]).length:=by omega
    have hel:(c.parts[i])[j]=(l[j]:Int):=by simp[hQk]
    have hlj:l[j] < p.changes.length:=hll _ (AB hjl)
    have hch:=AB hlj
    have hpf:=EH (Fc (v.id _ hx).1).1
    dsimp only at hpf
    have hfs:CD p.changes l[j]≤16200∧FH p.changes[l[j]]≤16200:=by
     have h1:=(Dc hb0).1
     have h2:=hpf.cnt
     unfold Hl at h2
     have h3:=FV hlj
     have h4:=EN p.changes (show l[j]+1≤p.changes.length by omega)
     omega
    have cF:C8 Tryz.prog 31 [.agg (Bn p),.raw (.int .i64 (l[j]:Int))] (.raw (.int .i64 (CD p.changes l[j]:Int))):=P6 v hx hlj
    have hst:CD q.changes j=Nj (E4 c.parts) p.changes l[j]:=by
     have h1:=ZE (x:=⟨c.id,p⟩) hP (is:=is.take i) (m:=c.metas.getD i Mta.zero) hltP (j:=j) (by rw[←hl];exact hjl)
     rw[hq]
     unfold MG
     dsimp only
     rw[hgk,h1]
     simp only[hl]
    have cG:C8 Tryz.prog 31 [.agg (Bn q),.raw (.int .i64 (j:Int))] (.raw (.int .i64 (Nj (E4 c.parts) p.changes l[j]:Int))):=by
     have:=P6 vT hqm (n:=j) (by dsimp only;omega)
     rw[hst]at this
     exact this
    have hsb:Nj (E4 c.parts) p.changes l[j]≤16200:=by
     have hbT:=vT.close.1.2 _ hqm
     have h1:=(Dc hbT).1
     have h2:=(EH (Fc (vT.id _ hqm).1).1).cnt
     unfold Hl at h2
     dsimp only at h1 h2
     have h4:=EN q.changes (show j≤q.changes.length by omega)
     omega
    have i7:B0 ((p.changes[l[j]]).lines.length≤2000∧0≤(CD p.changes l[j]:Int)∧(CD p.changes l[j]:Int)≤1000000000):=⟨by have:=(gch _ hch).lines;omega,by omega,by omega⟩
    have hcn:=Hc p.changes[l[j]] (CD p.changes l[j])
    refine wn ?_
    refine HD [(0,.slice (s.map eSto) t),(3,.pt (Ia c) 0),(5,.slice (T.map eSto) .ro),(6,.slice (is.map eDig) .ro),(8,.pt (Bn p) 0),(10,.raw (.int .i64 i)),(12,.pt (Bn q) 0),(14,.raw (.int .i64 j)),(15,.raw (.int .i64 (l[j]:Int))),(88,.slice (c.parts.map Pg) .ro),(89,.raw (.int .i64 c.parts.length)),(90,.raw (.int .i64 i)),(114,.slice ((c.parts[i]).map eI) .ro),(115,.raw (.int .i64 (c.parts[i]).length)),(116,.raw (.int .i64 j))] ⟨rfl,rfl,rfl,rfl,rfl,rfl,rfl,rfl,congrArg (fun e=>PV.raw (.int .i64 e)) hel,rfl,rfl,rfl,rfl,rfl,rfl⟩ (.refl _) ?_
    refine BZ 6 ?_ ?_
    ·decide+kernel
    refine wf ?_
    refine Ab (σ:=Nat) (fun r=>r≤FH p.changes[l[j]]) (fun r=>FH p.changes[l[j]] - r) (fun r=> [(0,.slice (s.map eSto) t),(3,.pt (Ia c) 0),(5,.slice (T.map eSto) .ro),(6,.slice (is.map eDig) .ro),(8,.pt (Bn p) 0),(10,.raw (.int .i64 i)),(12,.pt (Bn q) 0),(16,.raw (.int .i64 (CD p.changes l[j]:Int))),(17,.raw (.int .i64 (Nj (E4 c.parts) p.changes l[j]:Int))),(88,.slice (c.parts.map Pg) .ro),(89,.raw (.int .i64 c.parts.length)),(90,.raw (.int .i64 i)),(114,.slice ((c.parts[i]).map eI) .ro),(115,.raw (.int .i64 (c.parts[i]).length)),(116,.raw (.int .i64 j)),(134,.raw (.int .i64 ((CW p.changes[l[j]] (CD p.changes l[j])).length:Nat))),(135,.raw (.int .i64 r))]) (fun _=>LF) 0 (by omega) ⟨rfl,rfl,rfl,rfl,rfl,rfl,rfl,rfl,rfl,rfl,rfl,rfl,rfl,rfl,rfl,rfl,rfl⟩ (.refl _) ?_
    rintro r hr2
    refine wf ?_
    refine A6 (fun hc3=>?_) (fun hc3=>?_)
    ·have hrl:r < FH p.changes[l[j]]:=by omega
     have hn:=hlike hx (n:=CD p.changes l[j]+r) (hpf.lt hlj hrl)
     have hph:=ou (x:=⟨c.id,p⟩) hP (is:=is) hltP hli (j:=j) (by rw[←hl];exact hjl) (by simp only[←hl];exact hlj) (q:=r) (by simp only[←hl];exact hrl)
     simp only[←hl]at hph
     dsimp only at hn hph
     rw[hph,show((CD p.changes l[j]+r:Nat):Int)=(CD p.changes l[j]:Int)+r by omega]at hn
     have ca:=fun ts tt=>aa v vT hn ts tt
     refine wn ?_
     refine BZ 18 ?_ ?_
     ·decide+kernel
     refine wf ?_
     exact⟨r+1,by omega,by dsimp only;omega,⟨rfl,rfl,rfl,rfl,rfl,rfl,rfl,rfl,rfl,rfl,rfl,rfl,rfl,rfl,rfl,rfl,rfl⟩,.refl _⟩
    ·refine wf ?_
     exact⟨j+1,by omega,by dsimp only;omega,⟨rfl,rfl,rfl,rfl,rfl,rfl,rfl,rfl,rfl,rfl,rfl,rfl,rfl⟩,.refl _⟩
   refine wf ?_
   refine Ab (σ:=Nat) (fun j=>j≤(is.take i).length) (fun j=>(is.take i).length - j) (fun j=> [(0,.slice (s.map eSto) t),(3,.pt (Ia c) 0),(5,.slice (T.map eSto) .ro),(6,.slice (is.map eDig) .ro),(8,.pt (Bn p) 0),(10,.raw (.int .i64 i)),(88,.slice (c.parts.map Pg) .ro),(89,.raw (.int .i64 c.parts.length)),(90,.raw (.int .i64 i)),(160,.slice ((is.take i).map eDig) .ro),(161,.raw (.int .i64 (is.take i).length)),(162,.raw (.int .i64 j))]) (fun _=>LF) 0 (by omega) ⟨rfl,rfl,rfl,rfl,rfl,rfl,rfl,rfl,rfl,rfl,rfl,rfl⟩ (.refl _) ?_
   rintro j hj
   have htl:(is.take i).length≤8:=by rw[Aa];omega
   refine wf ?_
   refine A6 (fun hc4=>?_) (fun hc4=>?_)
   ·have hjl:j < (is.take i).length:=by omega
    have hkn:=kn1 _ (AB hjl)
    refine wz fun b20=>?_
    generalize (is.take i)[j]=d at*
    refine Al 20 ?_
    have ck: ∀ t,C8 Tryz.prog 27 [.slice (T.map eSto) t,.agg (eDig is[i]),.agg (eDig d)] (.raw (.bool true)):=fun t=>by
     have:=SP T is[i] d t
     rw[hkn]at this
     exact this
    refine wn ?_
    refine BZ 8 ?_ ?_
    ·decide+kernel
    refine wf ?_
    exact⟨j+1,by omega,by dsimp only;omega,⟨rfl,rfl,rfl,rfl,rfl,rfl,rfl,rfl,rfl,rfl,rfl,rfl⟩,.refl _⟩
   have hnl:(B7 p).length≤1000:=by
    have:=El (IY p).nodup (fun d hd=>v.close.2 _ hx d hd)
    unfold ids at this
    rw[AR]at this
    omega
   refine wf ?_
   refine Ab (σ:=Nat) (fun j=>j≤(B7 p).length) (fun j=>(B7 p).length - j) (fun j=> [(0,.slice (s.map eSto) t),(3,.pt (Ia c) 0),(5,.slice (T.map eSto) .ro),(6,.slice (is.map eDig) .ro),(8,.pt (Bn p) 0),(10,.raw (.int .i64 i)),(88,.slice (c.parts.map Pg) .ro),(89,.raw (.int .i64 c.parts.length)),(90,.raw (.int .i64 i)),(176,.slice ((B7 p).map eDig) .ro),(177,.raw (.int .i64 (B7 p).length)),(178,.raw (.int .i64 j))]) (fun _=>LF) 0 (by omega) ⟨rfl,rfl,rfl,rfl,rfl,rfl,rfl,rfl,rfl,rfl,rfl,rfl⟩ (.refl _) ?_
   clear hj hc4 j
   rintro j hj
   refine wf ?_
   refine A6 (fun hc4=>?_) (fun hc4=>?_)
   ·have hjl:j < (B7 p).length:=by omega
    have hkn:=kn2 _ (AB hjl)
    refine wz fun b22=>?_
    generalize (B7 p)[j]=d at*
    refine Al 22 ?_
    have ck: ∀ t,C8 Tryz.prog 27 [.slice (T.map eSto) t,.agg (eDig is[i]),.agg (eDig d)] (.raw (.bool true)):=fun t=>by
     have:=SP T is[i] d t
     rw[hkn]at this
     exact this
    refine wn ?_
    refine BZ 8 ?_ ?_
    ·decide+kernel
    refine wf ?_
    exact⟨j+1,by omega,by dsimp only;omega,⟨rfl,rfl,rfl,rfl,rfl,rfl,rfl,rfl,rfl,rfl,rfl,rfl⟩,.refl _⟩
   refine wf ?_
   exact⟨i+1,by omega,by dsimp only;omega,⟨rfl,rfl,rfl,rfl,rfl,rfl,rfl,rfl⟩,.refl _⟩
  refine wf ?_
  refine Ab (σ:=Nat) (fun k=>k≤s.length) (fun k=>s.length - k) (fun k=> [(0,.slice (s.map eSto) t),(3,.pt (Ia c) 0),(5,.slice (T.map eSto) .ro),(192,.slice (s.map eSto) t),(193,.raw (.int .i64 s.length)),(194,.raw (.int .i64 k))]) (fun _=>LF) 0 (by omega) ⟨rfl,rfl,rfl,rfl,rfl,rfl⟩ (.refl _) ?_
  rintro k hk
  refine wf ?_
  refine A6 (fun hc5=>?_) (fun hc5=>?_)
  ·have hlt:k < s.length:=by omega
   have hmem:=AB hlt
   refine wz fun b24=>?_
   generalize s[k]=y at*
   refine Al 24 ?_
   refine wf ?_
   refine A6 (fun hd=>?_) (fun hd=>?_)
   ·refine wf ?_
    exact⟨k+1,by omega,by dsimp only;omega,⟨rfl,rfl,rfl,rfl,rfl,rfl⟩,.refl _⟩
   have cc:=SF v hmem
   have hcn:Hl y.patch=cntS s y.id:=by rw[v.cntS hmem]
   have hcl:cntS s y.id≤16200:=by
    rw[←hcn]
    exact(Dc (v.close.1.2 _ hmem)).1
   refine wf ?_
   refine Ab (σ:=Nat) (fun j=>j≤cntS s y.id) (fun j=>cntS s y.id - j) (fun j=> [(0,.slice (s.map eSto) t),(3,.pt (Ia c) 0),(5,.slice (T.map eSto) .ro),(24,.pt (eSto y) 0),(192,.slice (s.map eSto) t),(193,.raw (.int .i64 s.length)),(194,.raw (.int .i64 k)),(205,.raw (.int .i64 (cntS s y.id))),(206,.raw (.int .i64 j))]) (fun _=>LF) 0 (by omega) ⟨rfl,rfl,rfl,rfl,rfl,rfl,rfl,rfl,rfl⟩ (.refl _) ?_
   rintro j hj
   refine wf ?_
   refine A6 (fun hc6=>?_) (fun hc6=>?_)
   ·have hn:=hlike hmem (n:=j) (by omega)
    rw[ke (x:=⟨c.id,p⟩) hd]at hn
    have ca:=fun ts tt=>aa v vT hn ts tt
    refine wz fun b26=>?_
    refine Al 26 ?_
    refine wf ?_
    exact⟨j+1,by omega,by dsimp only;omega,⟨rfl,rfl,rfl,rfl,rfl,rfl,rfl,rfl,rfl⟩,.refl _⟩
   ·refine wf ?_
    exact⟨k+1,by omega,by dsimp only;omega,⟨rfl,rfl,rfl,rfl,rfl,rfl⟩,.refl _⟩
  ·refine wf ?_
   exact B1 (.refl _)
 ·obtain⟨e1,e2⟩:=bK h0
  obtain⟨⟨A1,A2,A3⟩,hA⟩: ∃ A,A=H7 s c.id c.parts c.metas:=⟨_,rfl⟩
  rw[←hA]at c1 h0 e1 e2
  dsimp only at c1 h0 e1 e2
  subst e1 e2
  have hz1:([]:List Sto).length=0:=rfl
  have hz2:([]:List Dig).length=0:=rfl
  refine wn ?_
  refine AX (fun _=>?_) (fun h=>absurd h h0)
  refine wf ?_
  exact B1 (.refl _)⟩
end Go.Proofs
namespace Go.Proofs
open Go Go.Q Go.ChangeShapes Go.WideShapes Go.ChangeAt Go.WideMaps Go.WideElems Go.RowKit
theorem u4:Du Tryz.prog 26 (fun xs=> ∃ x:Mta,xs=GF x):=
 Du.to (Hg (n:=3) (r:= [(9,0),(9,1),(3,2)]) (by kernel_rfl) (by kernel_rfl) (.cons 1 (by kernel_rfl) U3 (.cons 1 (by kernel_rfl) U3 (.cons 1 (by kernel_rfl) U4 (.nil _)))))
  fun xs ⟨_,.cons ⟨a0,e0⟩ (.cons ⟨a1,e1⟩ (.cons ⟨a2,_,e2⟩ .nil)),e⟩=>⟨⟨a0,a1,a2⟩,by subst e0 e1 e2 e;simp[GF,eS]⟩
theorem pG:Du Tryz.prog 50 (fun xs=> ∃ l:List Mta,xs= [.slice (l.map GF) .ro]):=Du.list (sz:=3) u4 (fun _=>by simp) (by kernel_rfl) (by kernel_rfl) rfl (by decide) (ble (by kernel_rfl))
theorem u5:Du Tryz.prog 45 (fun xs=> ∃ l:List Int,xs= [.slice (l.map eI) .ro]):=Du.list (Du.to U4 fun _ ⟨n,_,e⟩=>⟨n,e⟩) (fun _=>rfl) (by kernel_rfl) (by kernel_rfl) rfl (by decide) (ble (by kernel_rfl))
theorem pH:Du Tryz.prog 49 (fun xs=> ∃ l:List (List Int),xs= [.slice (l.map Pg) .ro]):=Du.list u5 (fun _=>rfl) (by kernel_rfl) (by kernel_rfl) rfl (by decide) (ble (by kernel_rfl))
theorem xe:Du Tryz.prog 53 (fun xs=> ∃ c:jD,xs=Ia c):=
 Du.to (Hg (n:=34) (r:= [(31,0),(49,32),(50,33)]) (by kernel_rfl) (by kernel_rfl) (.cons 32 (by kernel_rfl) dy (.cons 1 (by kernel_rfl) pH (.cons 1 (by kernel_rfl) pG (.nil _)))))
  fun xs ⟨_,.cons ⟨a0,e0⟩ (.cons ⟨a1,e1⟩ (.cons ⟨a2,e2⟩ .nil)),e⟩=>⟨⟨a0,a1,a2⟩,by subst e0 e1 e2 e;simp[Ia]⟩
end Go.Proofs
