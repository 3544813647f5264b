/- Contracts of the program: Split. -/
import Derived.Test.YtaibdmankdppkaaGreatDoorYav
import Derived.Test.YtaibdmankdppkaaGreatDoorYao
import Derived.Test.YtaibdmankdppkaaGreatDoorYar
import Derived.Test.YtaibdmankdppkaaGreatDoorYap
import Derived.Test.YtaibdmankdppkaaGreatDoorYas
import Derived.Test.YtaibdmankdppkaaGreatDoorYal
import Derived.Test.YtaibdmankdppkaaGreatDoorYau
import Derived.Test.YtaibdmankdppkaaGreatDoorYag
set_option linter.unusedSimpArgs false
set_option linter.unusedVariables false
set_option maxHeartbeats 8000000
namespace Go.Proofs
open Go Go.Q
attribute [local irreducible] ER AV Gw BA Fc
theorem pA {n:Nat} {Q:List (List Int)} (h:Fw n [] Q=true) {k:Nat} (hk:k < Q.length):Q[k]=((Eh Q)[k]'(by rw[Kc];exact hk)).map fun c:Nat=>(c:Int):=by
 have r:=N1 h
 unfold Eh
 rw[BN,CG]
 refine(List.map_id _).symm.trans (CC fun c hc=>?_)
 have:=(r.lt _ (AF hk) c hc).1
 simp only[id_eq,Function.comp_apply]
 omega
theorem YH {s:List Sto} {id:Dig} {p:Pat} (hp:getS s id=some p) (Q:List (List Int)) (ms:List Mta):Mf s id Q ms=if NT s [id]=true then([],[],19)else if Fw p.changes.length [] Q=false∨ms.length≠Q.length then([],[],1)else
  if Ki (Eh Q) p.changes=true then([],[],9)else Wh ⟨id,p⟩ (Eh Q) ((Eh Q).zip ms) (Ju s [id]) []:=by unfold Mf;rw[hp]
theorem kN {a:Res} {L M:List Res}:(L++(a::M)).Perm (a::(L++M)):=Bc
theorem j9 (s:List Sto) (t:CF) (id:Dig) (Q:List (List Int)) (tq:CF) (ms:List Mta) (tm:CF) (hv:BH s) (hg:Fv s=false) (z:Sv Q ms) (hr: ∀ l∈Q,l.length≤1000000) (hml:ms.length≤1000000):
  CB Tryz.prog 21 [.slice (s.map eSto) t,.agg (eDig id),.slice (Q.map Ui) tq,.slice (ms.map FY) tm] (.tuple [.slice ((Mf s id Q ms).1.map eSto) .ro,.slice ((Mf s id Q ms).2.1.map eDig) .ro,.raw (.int .i64 (Mf s id Q ms).2.2)]):=⟨by
 have hsl:=hv.close.1.1
 have hQl:=z.parts
 have hs8:=(NA hg).1
 have i1:B1 (BH s):=⟨hv⟩
 have i2:B1 (HF s):=⟨hv.close.1⟩
 have i3:B1 (s.length≤1000):=⟨by omega⟩
 cases hp:getS s id with
 |none=>
  have cg:=fun t=>KJ s t id
  rw[hp]at cg
  have e:Mf s id Q ms=([],[],7):=by unfold Mf;rw[hp]
  rw[e]
  refine Au Tryz.func21 Tryz.ntmps21 rfl (rs:= [.tmp 8,.tmp 9,.tmp 10]) rfl rfl fun hb LF=>?_
  refine wz fun b11=>?_
  refine Ao 11 ?_
  refine wf ?_
  exact S4 (x:= .slice [] .nil) (y:= .slice [] .nil) (.tuple3 (.ro _ _) (.ro _ _) (.refl _))
 |some p=>
 have hx:(⟨id,p⟩:Sto)∈s:=Rv hp
 have cg: ∀ t,CB Tryz.prog 17 [.slice (s.map eSto) t,.agg (eDig id)] (.tuple [.agg (Bz p),.raw (.bool true)]):=fun t=>by
  have:=KJ s t id
  rw[hp]at this
  exact this
 have hb0:ED p=false:=hv.close.1.2 _ hx
 obtain⟨_,_,g1,g2,gch⟩:=Ek hb0
 have hkd: ∀ c∈p.changes,1≤c.kind∧c.kind≤7:=hv.kinds hx
 have hpf:=EN (Fj (hv.id _ hx).1).1
 have hc16:CP p.changes p.changes.length≤16200:=by
  have:=(E1 hb0).1
  have h2:=hpf.cnt
  dsimp only at h2
  unfold Hg at h2
  omega
 rw[YH hp]
 refine Au Tryz.func21 Tryz.ntmps21 rfl (rs:= [.tmp 8,.tmp 9,.tmp 10]) rfl rfl fun hb LF=>?_
 refine wz fun b11=>?_
 refine Ao 11 ?_
 refine wf ?_
 refine AW (fun h1=>?_) (fun h1=>?_)
 ·rw[if_pos h1]
  refine wf ?_
  exact S4 (x:= .slice [] .nil) (y:= .slice [] .nil) (.tuple3 (.ro _ _) (.ro _ _) (.refl _))
 rw[if_neg (by simp[h1])]
 refine wf ?_
 refine CW (xs:= [.tmp 39,.tmp 40]) [] LF (f:=63) (cs:= []) (CA _) rfl rfl (.refl _) _ (XD p.changes.length Q tq (by omega) (by omega) hr) fun r L' ⟨hL,hrr⟩=>?_
 subst hL
 rw[B8]
 rcases hrr with ⟨hr1,hok⟩|⟨b,hr1,hok⟩
 ·subst hr1
  rw[if_pos (.inl hok)]
  refine wf ?_
  exact S4 (x:= .slice [] .nil) (y:= .slice [] .nil) (.tuple3 (.ro _ _) (.ro _ _) (.refl _))
 subst hr1 hok
 have hin:((List.range p.changes.length).map fun c=>RA Q (c:Nat))=Nh Q p.changes.length:=rfl
 rw[hin]
 refine wf ?_
 refine BZ [(52,.raw (.bool (decide (Fw p.changes.length [] Q=false∨ms.length≠Q.length)))),(0,.slice (s.map eSto) t),(2,.slice (Q.map Ui) tq),(3,.slice (ms.map FY) tm),(11,.pt (Bz p) 0),(13,.slice ([id].map eDig) .ro),(14,.slice ((Nh Q p.changes.length).map eI) .ro)] (LF) ?_ ?_
 ·repeat' (first|(refine A6 (fun h=>?_) (fun h=>?_)<;>refine wf ?_)|(refine AY (fun h=>?_) (fun h=>?_)<;>refine wf ?_)|(refine AW (fun h=>?_) (fun h=>?_)<;>refine wf ?_)|(refine Av (fun h=>?_) (fun h=>?_)<;>(have h2:=h;(try simp only[AB,A8,AJ,AL]at h2);refine wf ?_)))
  all_goals (refine⟨⟨CD (by rfl) ?_,rfl,rfl,rfl,rfl,rfl,rfl⟩,.refl _⟩;first|(simp_all;done)|(simp_all;omega))
 refine wf ?_
 refine A6 (fun h2=>?_) (fun h2=>?_)
 ·rw[if_pos h2]
  refine wf ?_
  exact S4 (x:= .slice [] .nil) (y:= .slice [] .nil) (.tuple3 (.ro _ _) (.ro _ _) (.refl _))
 rw[if_neg h2]
 have hQ:Fw p.changes.length [] Q=true:=by
  cases hq:Fw p.changes.length [] Q with
  |true=>rfl
  |false=>exact absurd (.inl hq) h2
 have hmq:ms.length=Q.length:=DE fun k=>h2 (.inr k)
 have hpq:LG (Eh Q) p.changes.length:=O2 hQ
 have hrn: ∀ e∈Nh Q p.changes.length,0≤e∧e < (Q.length:Int):=fun e he=>by
  unfold Nh at he
  obtain⟨c,hc,rfl⟩:=AQ.1 he
  have hc:=Br.1 hc
  obtain⟨hk,_⟩:=hpq.mem hc
  rw[Kc]at hk
  have e:RA Q (c:Nat)=(K3 (Eh Q) c:Int):=Sq hQ hc
  rw[e]
  omega
 refine wf ?_
 refine CW (xs:= [.tmp 53,.tmp 54,.tmp 56]) [] LF (f:=64) (cs:= []) (CA _) rfl rfl (.refl _) _ (Ts hv hx (Nh Q p.changes.length) (XN _ _) Q.length (by omega) hrn) fun r L' ⟨bx,tf,ts,hr2,hL2⟩=>?_
 subst hr2 hL2
 rw[B0,B8]
 dsimp only
 rw[uO]
 refine wf ?_
 refine QI (xs:= [.tmp 58]) [.box bx 104 (FP p (Nh Q p.changes.length) (Eb p.changes) tf (H8 p.changes (Nh Q p.changes.length) p.changes.length) ts [] .nil)] LF (.raw (.bool (Ki (Eh Q) p.changes))) (f:=65) (cs:= []) (CA _) rfl rfl (.refl _) (by
  have:=lU hkd (by omega) (fun c hc=>by have:=(gch c hc).over;omega) (Nh Q p.changes.length) (XN _ _) bx (FP p (Nh Q p.changes.length) (Eb p.changes) tf (H8 p.changes (Nh Q p.changes.length) p.changes.length) ts [] .nil) tf
  rw[pr hQ]at this
  exact this) ?_
 refine wf ?_
 refine AW (fun h3=>?_) (fun h3=>?_)
 ·rw[if_pos h3]
  refine wf ?_
  exact S4 (x:= .slice [] .nil) (y:= .slice [] .nil) (.tuple3 (.ro _ _) (.ro _ _) (.refl _))
 rw[if_neg (by simp[h3])]
 obtain⟨W,hW⟩: ∃ W,W=Wh ⟨id,p⟩ (Eh Q) ((Eh Q).zip ms) (Ju s [id]) []:=⟨_,rfl⟩
 rw[←hW]
 have h3':Ki (Eh Q) p.changes=false:=by simpa using h3
 have ok:HZ s ⟨id,p⟩ (Eh Q):=dH hv hx hQ h3'
 have zz:=VL hg hx z
 have a0:KI s ⟨id,p⟩ (Ju s [id]) []:=YI hv hx (by simpa using h1)
 have hzl:((Eh Q).zip ms).length=Q.length:=by rw[List.length_zip,Kc];omega
 have hsb:=nW (cs:=p.changes) (ns:=Nh Q p.changes.length) (m:=1000000000) (by omega)
 refine wf ?_
 refine EO 32 ?_
 refine Ad (σ:=Nat × List Sto × List Dig × CF) (fun k=>k.1≤Q.length∧Wh ⟨id,p⟩ (Eh Q) (((Eh Q).zip ms).drop k.1) k.2.1 k.2.2.1=W∧KI s ⟨id,p⟩ k.2.1 k.2.2.1∧k.2.2.1.length=k.1) (fun k=>Q.length - k.1) (fun k=> [(2,.slice (Q.map Ui) tq),(3,.slice (ms.map FY) tm),(16,.raw (.pointer (some ⟨bx,0,none⟩))),(17,.slice (k.2.1.map eSto) .ro),(63,.slice (Q.map Ui) tq),(64,.raw (.int .i64 Q.length)),(65,.raw (.int .i64 k.1))]) (fun k=> .tok k.2.2.2 k.2.2.1.length 32:: .box bx 104 (FP p (Nh Q p.changes.length) (Eb p.changes) tf (H8 p.changes (Nh Q p.changes.length) p.changes.length) ts k.2.2.1 k.2.2.2)::LF) (0,Ju s [id],[],.nil) ⟨by dsimp only;omega,hW.symm,a0,rfl⟩ ⟨rfl,rfl,rfl,rfl,rfl,rfl,rfl⟩ (.refl _) ?_
 rintro⟨k,T,is,ti⟩ ⟨hk,hI,hA,hlen⟩
 dsimp only at hk hI hA hlen ⊢
 refine wf ?_
 refine A6 (fun hc=>?_) (fun hc=>?_)
 ·have hlt:k < Q.length:=by omega
  have hltm:k < ms.length:=by omega
  have hltP:k < (Eh Q).length:=by rw[Kc];exact hlt
  have hQk:=pA hQ hlt
  have hlk:((Eh Q)[k]).length≤1000000:=by
   have:=hr _ (AF hlt)
   rw[hQk,AR]at this
   exact this
  have hdr:((Eh Q).zip ms).drop k=((Eh Q)[k],ms[k])::((Eh Q).zip ms).drop (k+1):=by
   rw[CH (by omega),List.getElem_zip]
  have hne:p.changes≠ []:=fun e=>by
   have h5:=hpq.ne _ (AF hltP)
   obtain⟨c,hc⟩:=List.exists_mem_of_ne_nil _ h5
   have:=hpq.lt _ (AF hltP) c hc
   rw[e]at this
   exact absurd this (DK _)
  have hC:(((Eh Q)[k]).map fun c=>Eo (fQ p.changes (Nh Q p.changes.length) (H8 p.changes (Nh Q p.changes.length) p.changes.length) is k) (p.changes.getD c Chg.zero))=((Eh Q)[k]).map fun c=>Eo (fS (Eh Q) p.changes is is.length) (p.changes.getD c Chg.zero):=CC fun c _=>by
   rw[show fQ p.changes (Nh Q p.changes.length) (H8 p.changes (Nh Q p.changes.length) p.changes.length) is k=fS (Eh Q) p.changes is is.length from funext fun y=>by rw[hlen];exact xw hQ hne is k y]
  have hbig:ED (JB ⟨id,p⟩ (Eh Q) is (Eh Q)[k] ms[k])=false:=zz.big ok (e:=((Eh Q)[k],ms[k])) (by rw[Kc];omega) (JQ (hdr ▸ AG)) (by simp only[hlen])
  obtain⟨q,hq⟩: ∃ q,q=JB ⟨id,p⟩ (Eh Q) is (Eh Q)[k] ms[k]:=⟨_,rfl⟩
  have hlT:=hA.len
  have hstep:=hA.step (p:=q) (by rw[hq];exact hbig) (by omega)
  rw[hdr,Wh]at hI
  dsimp only at hI
  rw[←hq]at hI
  have i5:B1 (BH T):=⟨hA.val⟩
  have hq':q=⟨(ms[k]).author,(ms[k]).message,(ms[k]).time,Kj (sortD (BP p++is)),((Eh Q)[k]).map fun c=>Eo (fS (Eh Q) p.changes is is.length) (p.changes.getD c Chg.zero)⟩:=hq
  have ca: ∀ p',p'=q→ ∀ u,CB Tryz.prog 35 [.slice (T.map eSto) u,.agg (Bz p')] (.tuple [.slice ((FC T q).1.map eSto) .ro,.agg (eDig (FC T q).2.1),.raw (.int .i64 (FC T q).2.2)]):=fun p' e u=>by
   have i6:B1 (ED q=false):=⟨by rw[hq];exact hbig⟩
   subst e
   exact Xx T _ u
  have ca:=ca _ hq'.symm
  obtain⟨⟨T1,d1,e1⟩,hR⟩: ∃ A,A=FC T q:=⟨_,rfl⟩
  rw[←hR]at ca hI hstep
  dsimp only at ca hI hstep
  refine wf ?_
  refine Bx (xs:= [.tmp 72,.tmp 73,.tmp 74,.tmp 78]) [.box bx 104 (FP p (Nh Q p.changes.length) (Eb p.changes) tf (H8 p.changes (Nh Q p.changes.length) p.changes.length) ts is ti)] (.tok ti is.length 32::LF) (fun R'=> .tok ti is.length 32::(R'++LF)) (f:=66) (cs:= []) (CA _) rfl (by rw[←hQk];rfl) (.swap _ _ _) _ (oc hv hx (Nh Q p.changes.length) (H8 p.changes (Nh Q p.changes.length) p.changes.length) (XN _ _) (by simp[H8]) hsb tf ts ti is (by omega) bx k (Eh Q)[k] (hpq.lt _ (AF hltP)) hlk .ro ms[k] (fun c hc y hy ho hne2=>by
   have hcn:=hpq.lt _ (AF hltP) c hc
   have hinc:K3 (Eh Q) c=k:=O4 hpq.apart hltP hc
   have hm:=Vt hQ (Oi (n:=y.n) hne)
   refine⟨_,hm,?_⟩
   rw[hm]at hne2
   have h6:=Bl.1 h3' c (Br.2 hcn)
   rw[Jq]at h6
   have h7:=Bl.1 h6 y hy
   simp only[ho,EK,AB,hinc]at h7
   omega)) (fun _=>kN) fun r L' ⟨⟨tg,hr3⟩,hL3⟩=>?_
  dsimp only at hr3
  rw[hC]at hr3
  subst hr3 hL3
  rw[B0,B8]
  refine wz fun b21=>?_
  refine Ao 21 ?_
  refine wn ?_
  refine AY (fun h5=>?_) (fun h5=>?_)
  ·rw[if_pos h5]at hI
   rw[←hI]
   refine wf ?_
   exact S4 (x:= .slice [] .nil) (y:= .slice [] .nil) (.tuple3 (.ro _ _) (.ro _ _) (.refl _))
  ·rw[if_neg (by simp[h5])]at hI
   refine wn ?_
   refine Gp [5,8,9,12] (by decide+kernel) ?_
   refine B4 0 ?_
   refine B4 1 ?_
   refine B4 2 ?_
   refine B4 3 ?_
   refine B4 4 ?_
   refine B4 6 ?_
   refine B4 7 ?_
   refine Ab 5 5 ?_
   refine wo ?_
   refine AD ?_
   refine Ab 4 8 ?_
   refine Il (f:=eDig) (l:=is) (m:= [d1]) (by rfl) (by rfl) (by simp only[B6];omega) (by simp only[B6];omega) (fun t=> .here) fun v'=>?_
   refine AD ?_
   refine Ab 3 9 ?_
   refine wo ?_
   refine AD ?_
   refine B4 10 ?_
   refine B4 11 ?_
   refine Ab 0 12 ?_
   refine GJ (ay:= .slice ((is++ [d1]).map eDig) v') (FP p (Nh Q p.changes.length) (Eb p.changes) tf (H8 p.changes (Nh Q p.changes.length) p.changes.length) ts (is++ [d1]) v') rfl rfl Dv.out rfl (by simp) ?_
   refine AD ?_
   refine Cu (by decide+kernel) ?_
   refine wf ?_
   exact⟨(k+1,T1,is++ [d1],v'),⟨by dsimp only;omega,hI,(hstep h5).1,by simp[hlen]⟩,by dsimp only;omega,⟨rfl,rfl,rfl,rfl,rfl,rfl,rfl⟩,.refl _⟩
 ·rw[DH (by omega),Wh]at hI
  refine wn ?_
  rw[←hI]
  refine Gp [4,5,6,7] (by decide+kernel) ?_
  refine B4 0 ?_
  refine B4 1 ?_
  refine B4 2 ?_
  refine B4 3 ?_
  refine Cw (fuel:=3) [4,5] (by decide+kernel) (by simp) fun i hi=>?_
  simp only[AI,Ai,or_false]at hi
  rcases hi with rfl|rfl
  ·refine⟨_,rfl,?_⟩
   refine wo ?_
   refine AD ?_
   refine Ab 2 5 ?_
   refine wo ?_
   refine AD ?_
   refine Ab 1 6 ?_
   refine wo ?_
   refine AD ?_
   refine Ab 0 7 ?_
   refine wo ?_
   refine AD ?_
   refine Cu (by decide+kernel) ?_
   refine wf ?_
   exact S4 (x:= .slice (T.map eSto) .ro) (y:= .slice (is.map eDig) ti) (.tuple3 (.refl _) (.ro _ _) (.refl _))
  ·refine⟨_,rfl,?_⟩
   refine wo ?_
   refine AD ?_
   refine Ab 2 4 ?_
   refine wo ?_
   refine AD ?_
   refine Ab 1 6 ?_
   refine wo ?_
   refine AD ?_
   refine Ab 0 7 ?_
   refine wo ?_
   refine AD ?_
   refine Cu (by decide+kernel) ?_
   refine wf ?_
   exact S4 (x:= .slice (T.map eSto) .ro) (y:= .slice (is.map eDig) ti) (.tuple3 (.refl _) (.ro _ _) (.refl _))⟩
end Go.Proofs
namespace Go.Q
open Go
structure Cut where
 id:Dig
 parts:List (List Int)
 metas:List Mta
def pw (c:Cut):List PV:=(eDig c.id)++([.slice ((c.parts).map Ui) .ro]++([.slice ((c.metas).map FY) .ro]))
@[simp] theorem xh (c:Cut):(pw c).length=34:=by unfold pw;simp
end Go.Q
namespace Go.Proofs
open Go Go.Q
attribute [local irreducible] ER AV Gw BA Fc
instance wJ:Cp Tryz.prog 26 (FY Mta.zero):=Cp.of (us:=(FY Mta.zero).map zv) (by kernel_rfl) (by kernel_rfl)
def N3 (m:Mta):Bool:=decide (60 < m.author.length∨60 < m.message.length)
def SK (l:List Mta):Bool:=l.any N3
instance fy (l:List Mta) (t:CF):CB Tryz.prog 10 [.slice (l.map FY) t] (.raw (.bool (SK l))):=⟨by
 refine Au Tryz.func10 Tryz.ntmps10 rfl (rs:= [.tmp 2]) rfl rfl fun hb LF=>?_
 have hlen:l.length≤140737488355328:=(hb (.slice (l.map FY) t) (by simp)).slice_map
 have hst: ∀ m∈l,m.author.length≤140737488355328∧m.message.length≤140737488355328:=fun m hm=>⟨((hb (.slice (l.map FY) t) (by simp)).slice_at hm (c:= .str m.author) (by simp[FY])).str_len,((hb (.slice (l.map FY) t) (by simp)).slice_at hm (c:= .str m.message) (by simp[FY])).str_len⟩
 refine wf ?_
 refine Ad (σ:=Nat) (fun k=>k≤l.length∧(l.take k).any N3=false) (fun k=>l.length - k) (fun k=> [(5,.slice (l.map FY) t),(6,.raw (.int .i64 l.length)),(7,.raw (.int .i64 k))]) (fun _=>LF) 0 ⟨by omega,by simp⟩ ⟨rfl,rfl,rfl⟩ (.refl _) ?_
 rintro k ⟨hk,hno⟩
 refine wf ?_
 refine A6 (fun hc=>?_) (fun hc=>?_)
 ·have hlt:k < l.length:=by omega
  have hm:=hst _ (AF hlt)
  have hn: ∀ b,N3 l[k]=b→(l.take (k+1)).any N3=b:=fun b h=>by
   rw[A7 hlt,GG,hno];simpa using h
  refine wz fun b4=>?_
  refine Ao 4 ?_
  generalize l[k]=m at*
  refine wf ?_
  refine BZ [(20,.raw (.bool (N3 m))),(5,.slice (l.map FY) t),(6,.raw (.int .i64 l.length)),(7,.raw (.int .i64 k))] (LF) ?_ ?_
  ·repeat' (first|(refine A6 (fun h=>?_) (fun h=>?_)<;>refine wf ?_)|(refine AY (fun h=>?_) (fun h=>?_)<;>refine wf ?_)|(refine AW (fun h=>?_) (fun h=>?_)<;>refine wf ?_)|(refine Av (fun h=>?_) (fun h=>?_)<;>(have h2:=h;(try simp only[AB,A8,AJ,AL]at h2);refine wf ?_)))
   all_goals (refine⟨⟨CD (by rfl) ?_,rfl,rfl,rfl⟩,.refl _⟩;unfold N3;first|(simp_all;done)|(simp_all;omega)|grind)
  refine wf ?_
  refine AW (fun h=>?_) (fun h=>?_)
  ·refine wf ?_
   refine B2 (.of_eq ?_)
   have:=hn true h
   have e:SK l=true:=by
    unfold SK
    rw[←Bm (k+1) l,GG,this];rfl
   rw[e]
  ·refine wf ?_
   exact⟨k+1,⟨by omega,hn false h⟩,by dsimp only;omega,⟨rfl,rfl,rfl⟩,.refl _⟩
 ·rw[AE (by omega)]at hno
  refine wf ?_
  refine B2 (.of_eq ?_)
  unfold SK
  rw[hno]⟩
end Go.Proofs
namespace Go.Proofs
open Go Go.Q
def ao:Mta:=⟨[98,111,98],[],0⟩
def iQ:Dig:=⟨[201,28,190,149,120,204,145,162,76,176,190,248,179,235,174,253,108,101,45,201,70,169,120,103,60,58,28,92,187,85,25,174],rfl⟩
def so:Dig:=⟨[95,52,110,140,148,128,50,197,184,155,177,70,110,45,170,42,165,190,242,91,151,230,172,24,3,168,255,62,132,124,150,202],rfl⟩
def sxI (d:Dig):Chg:={ Chg.zero with kind:=5,file:=⟨d,0⟩,after:=⟨d,0⟩,before:=⟨d,0⟩,lines:= [[120]] }
def sxP:Pat:=⟨[98,111,98],[],0,[],[zp,sxI Dig.zero]⟩
def sxQ:Pat:=⟨[98,111,98],[],0,[qO],[sxI qO]⟩
def sxT:List Sto:= [⟨iQ,sxP⟩]
def sxU:List Sto:= [⟨qO,awC⟩,⟨so,sxQ⟩]
theorem sl:du aw2S [cW,sC] ao=sxP:=by decide+kernel
theorem zY:zd aw2S [cW,sC] ao=(sxT,iQ,0):=by decide+kernel
theorem nQ:ar sxT iQ [[0],[1]] [ao,ao]=(sxU,[qO,so],0):=by decide+kernel
theorem nR:Fk sxP=false:=by decide+kernel
theorem nT:Lx sxT=true:=by decide+kernel
theorem nS:Lx sxU=true:=by decide+kernel
theorem YD:Fv sxT=false:=by decide+kernel
theorem iu:Nw sxU so qO=true:=by decide+kernel
theorem wV:getS sxT iQ=some sxP:=by decide+kernel
attribute [local irreducible] ER AV Gw BA Fc
theorem pH (xs:List (List PV)) (h:xs= []):Le (.raw (.slice none 0 0)) (.slice xs .nil):=fun g v hv=>by
 subst h;rw[hv.raw_inv];exact .nilN none (by simp)
instance (l:List Int):GI (.slice (l.map eI) .ro) Ui l:=⟨Dj.one (c:= .slice (l.map eI) .ro) Dv.out⟩
instance uj:CB Tryz.prog 11 [] (.raw (.bool true)):=⟨by
 have v0:BH []:=Lg qN
 have v1:BH aw1S:=Lg qM
 have v2:BH aw2S:=Lg qL
 have vT:BH sxT:=Lg nT
 have vU:BH sxU:=Lg nS
 have i0:B1 (BH []):=⟨v0⟩
 have i1:B1 (BH aw1S):=⟨v1⟩
 have i2:B1 (BH aw2S):=⟨v2⟩
 have i3:B1 (BH sxU):=⟨vU⟩
 have g0:B1 (ED uo=false):=⟨Xt eb.1⟩
 have g1:B1 (ED vv=false):=⟨Xt eb.2.1⟩
 have a0:=Xx [] uo .nil
 have a1:=fun t=>Xx aw1S vv t
 rw[um]at a0
 rw[uk]at a1
 dsimp only at a0 a1
 have cs: ∀ t u,CB Tryz.prog 12 [.slice (aw2S.map eSto) t,.slice ([cW,sC].map eDig) u,.agg (FY ao)] (.tuple [.slice (sxT.map eSto) .ro,.agg (eDig iQ),.raw (.int .i64 0)]):=fun t u=>by
  have:=TE aw2S t [cW,sC] u ao v2 (by decide) (by decide) (by rw[SL v2,sl];exact Xt nR)
  rw[nY v2,zY]at this
  exact this
 have cg: ∀ t,CB Tryz.prog 17 [.slice (sxT.map eSto) t,.agg (eDig iQ)] (.tuple [.agg (Bz sxP),.raw (.bool true)]):=fun t=>by
  have:=KJ sxT t iQ
  rw[wV]at this
  exact this
 have z:Sv [[0],[1]] [ao,ao]:=⟨by decide,by decide⟩
 have cp: ∀ t u w,CB Tryz.prog 21 [.slice (sxT.map eSto) t,.agg (eDig iQ),.slice (([[0],[1]]:List (List Int)).map Ui) u,.slice ([ao,ao].map FY) w] (.tuple [.slice (sxU.map eSto) .ro,.slice ([qO,so].map eDig) .ro,.raw (.int .i64 0)]):=fun t u w=>by
  have:=j9 sxT t iQ [[0],[1]] u [ao,ao] w vT YD z (by decide) (by decide)
  rw[jA vT YD iQ z,nQ]at this
  exact this
 have ck:=fun t=>iG sxU so qO t
 rw[iu]at ck
 have hl2:sxP.changes.length=2:=rfl
 have hl3: [qO,so].length=2:=rfl
 refine Au Tryz.func11 Tryz.ntmps11 rfl (rs:= [.tmp 0]) rfl rfl fun hb LF=>?_
 refine wf ?_
 refine CW (xs:= [.const (Value.slice none 0 0),.tmp 19]) [] LF (f:=35) (cs:= []) (CA _) rfl rfl (.refl _) _ (BA.args (bs:= [.slice (([]:List Sto).map eSto) .nil,.agg (Bz uo)]) rfl (fun i g1 g2=>by
   match i,g1,g2 with
   |0,_,_=>exact pH _ rfl
   |1,_,_=>exact .of_eq rfl
   |m+2,g1,_=>exact absurd g1 (by simp)) a0.out) fun r L' ⟨e1,e2⟩=>?_
 subst e1;rw[e2,B8]
 refine wf ?_
 refine C6 fun b2=>?_
 refine wo ?_
 refine AD ?_
 refine Ao 2 ?_
 refine HQ [(1,.slice (aw1S.map eSto) .ro),(2,.pt (eDig cW) 0),(3,.raw (.int .i64 0))] ⟨rfl,rfl,rfl⟩ (.refl _) ?_
 refine wf ?_
 refine C6 fun b4=>?_
 refine wo ?_
 refine AD ?_
 refine Ao 4 ?_
 refine HQ [(1,.slice (aw1S.map eSto) .ro),(2,.pt (eDig cW) 0),(3,.raw (.int .i64 0)),(4,.pt (eIdent ⟨cW,0⟩) 0)] ⟨rfl,rfl,rfl,rfl⟩ (.refl _) ?_
 refine wf ?_
 refine CW (xs:= [.tmp 27,.tmp 34]) [] LF (f:=35) (cs:= []) (CA _) rfl rfl (.refl _) _ (BA.args (bs:= [.slice ((aw1S:List Sto).map eSto) .ro,.agg (Bz vv)]) rfl (fun i g1 g2=>by
   match i,g1,g2 with
   |0,_,_=>exact .of_eq rfl
   |1,_,_=>exact .of_eq rfl
   |m+2,g1,_=>exact absurd g1 (by simp)) (a1 .ro).out) fun r L' ⟨e1,e2⟩=>?_
 subst e1;rw[e2,B8]
 refine wf ?_
 refine C6 fun b5=>?_
 refine wo ?_
 refine AD ?_
 refine Ao 5 ?_
 refine HQ [(1,.slice (aw2S.map eSto) .ro),(2,.pt (eDig cW) 0),(3,.raw (.int .i64 0)),(5,.pt (eDig sC) 0),(6,.raw (.int .i64 0))] ⟨rfl,rfl,rfl,rfl,rfl⟩ (.refl _) ?_
 refine wf ?_
 refine C6 fun b7=>?_
 refine wo ?_
 refine AD ?_
 refine Ao 7 ?_
 refine HQ [(1,.slice (aw2S.map eSto) .ro),(2,.pt (eDig cW) 0),(3,.raw (.int .i64 0)),(5,.pt (eDig sC) 0),(6,.raw (.int .i64 0)),(7,.pt (FY ao) 0)] ⟨rfl,rfl,rfl,rfl,rfl,rfl⟩ (.refl _) ?_
 refine wf ?_
 refine C6 fun b9=>?_
 refine wo ?_
 refine AD ?_
 refine Ao 9 ?_
 refine HQ [(3,.raw (.int .i64 0)),(6,.raw (.int .i64 0)),(7,.pt (FY ao) 0),(8,.slice (sxT.map eSto) .ro),(9,.pt (eDig iQ) 0),(10,.raw (.int .i64 0))] ⟨rfl,rfl,rfl,rfl,rfl,rfl⟩ (.refl _) ?_
 refine wf ?_
 refine C6 fun b11=>?_
 refine wo ?_
 refine AD ?_
 refine Ao 11 ?_
 refine HQ [(3,.raw (.int .i64 0)),(6,.raw (.int .i64 0)),(7,.pt (FY ao) 0),(8,.slice (sxT.map eSto) .ro),(9,.pt (eDig iQ) 0),(10,.raw (.int .i64 0)),(11,.pt (Bz sxP) 0),(12,.raw (.bool true))] ⟨rfl,rfl,rfl,rfl,rfl,rfl,rfl,rfl⟩ (.refl _) ?_
 refine wf ?_
 exact B2 (y:= .raw (.bool (Nw sxU so qO))) (.of_eq (by rw[iu])) (hx:=rfl)⟩
theorem ZK {m:Mta} (h:SK [m]=false):m.author.length≤60∧m.message.length≤60:=by
 unfold SK N3 at h
 simp only[ab,List.any_nil,yR,A8]at h
 omega
theorem cF {s:List Sto} (h:Lx s=true):Fv s=false:=by
 unfold Lx at h
 simp only[BW,AJ]at h
 exact h.1
theorem mF {s t:List Sto} (v:BH s) (w:BH t) {x y:Ident} (h:Xv s t x y=true) (ts tt:CF):CB Tryz.prog 30 [.slice (s.map eSto) ts,.slice (t.map eSto) tt,.agg (eIdent x),.agg (eIdent y)] (.raw (.bool true)):=⟨by
 have f1:=fun u=>UK s u x v.close.1
 have f2:=fun u=>UK t u y w.close.1
 have a1:=fun u=>aL v u x
 have a2:=fun u=>aL w u y
 unfold Xv at h
 cases ha:LA s x with
 |none=>rw[ha]at h;cases h
 |some a=>
 cases hb:LA t y with
 |none=>rw[ha,hb]at h;cases h
 |some b=>
 rw[ha]at f1 h
 rw[hb]at f2 h
 dsimp only at h
 unfold dr at h
 simp only[BW,AB]at h
 obtain⟨⟨⟨⟨⟨⟨⟨h1,h2⟩,h3⟩,h4⟩,h5⟩,h6⟩,h7⟩,h8⟩:=h
 rw[BU,ct]at f1 f2
 refine Au Tryz.func30 Tryz.ntmps30 rfl (rs:= [.tmp 8]) rfl rfl fun hb LF=>?_
 refine wz fun b9=>?_
 refine Ao 9 ?_
 refine wz fun b11=>?_
 refine Ao 11 ?_
 refine wf ?_
 refine BZ [(8,.raw (.bool (true))),(0,.slice (s.map eSto) ts)] (LF) ?_ ?_
 ·repeat' (first|(refine A6 (fun h=>?_) (fun h=>?_)<;>refine wf ?_)|(refine AY (fun h=>?_) (fun h=>?_)<;>refine wf ?_)|(refine AW (fun h=>?_) (fun h=>?_)<;>refine wf ?_)|(refine Av (fun h=>?_) (fun h=>?_)<;>(have h2:=h;(try simp only[AB,A8,AJ,AL]at h2);refine wf ?_)))
  all_goals (refine⟨⟨CD (by rfl) ?_,rfl⟩,.refl _⟩;first|(simp_all;done)|(simp_all;omega)|grind)
 refine wf ?_
 exact B2 (.refl _)⟩
def nJ (s:List Sto) (l:List Dig) (i:Nat):Int:=(((BK s).take i).foldl (jP s l) ([],0,[],[])).2.1
theorem dm {s:List Sto} {l:List Dig} {i:Nat} (h:i < (BK s).length):nJ s l (i+1)=if(BK s)[i]∈l then nJ s l i+Go.Proofs.cntS s (BK s)[i]else nJ s l i:=by
 unfold nJ
 rw[A7 h,BO,BM,Ho,pK]
theorem BH.cnt_le {s:List Sto} (v:BH s) {d:Dig} (hd:d∈BK s):0≤(Go.Proofs.cntS s d:Int)∧(Go.Proofs.cntS s d:Int)≤16200:=by
 obtain⟨x,hx,rfl⟩:=AQ.1 ((C8 s).sub _ hd)
 rw[v.cntS hx]
 have:=(E1 (v.close.1.2 x hx)).1
 unfold Hg
 omega
theorem ra {s:List Sto} (v:BH s) {l:List Dig}: ∀ {i:Nat},i≤(BK s).length→0≤nJ s l i∧nJ s l i≤i*16200
 |0,_=>by simp[nJ]
 |i+1,h=>by
  have ih:=ra v (l:=l) (i:=i) (by omega)
  have hc:=v.cnt_le (AF (show i < (BK s).length by omega))
  rw[dm (by omega)]
  split<;>omega
theorem tc {s:List Sto} (v:BH s) {l:List Dig} {id:Dig} {i:Nat} (h:i < (BK s).length) (n:Int):QW s l id ⟨(BK s)[i],n⟩=if(BK s)[i]∈l then⟨id,nJ s l i+n⟩else⟨(BK s)[i],n⟩:=by
 split
 ·rename_i hl
  have e:BK s=(BK s).take i++(BK s)[i]::(BK s).drop (i+1):=by
   rw[←CH h,Bm]
  exact oZ v e hl n
 ·rename_i hl
  exact MB v hl
theorem TF (s:List Sto) (t:CF) (l:List Dig) (u:CF) (m:Mta):CB Tryz.prog 7 [.slice (s.map eSto) t,.slice (l.map eDig) u,.agg (FY m)] (.raw (.bool true)):=⟨by
 refine Au Tryz.func7 Tryz.ntmps7 rfl (rs:= [.tmp 6]) rfl rfl fun hb LF=>?_
 have hlen:l.length≤140737488355328:=(hb (.slice (l.map eDig) u) (by simp)).slice_map
 have cl: ∀ t,CB Tryz.prog 10 [.slice [FY m] t] (.raw (.bool (SK [m]))):=fun t=>fy [m] t
 refine wf ?_
 refine BZ [(32,.raw (.bool (!Lx s||decide (10 < l.length)||SK [m]))),(0,.slice (s.map eSto) t),(1,.slice (l.map eDig) u),(5,.pt (FY m) 0)] (LF) ?_ ?_
 ·repeat' (first|(refine A6 (fun h=>?_) (fun h=>?_)<;>refine wf ?_)|(refine AY (fun h=>?_) (fun h=>?_)<;>refine wf ?_)|(refine AW (fun h=>?_) (fun h=>?_)<;>refine wf ?_)|(refine Av (fun h=>?_) (fun h=>?_)<;>(have h2:=h;(try simp only[AB,A8,AJ,AL]at h2);refine wf ?_)))
  all_goals (refine⟨⟨CD (by rfl) ?_,rfl,rfl,rfl⟩,.refl _⟩;first|(simp_all;done)|(simp_all;omega))
 refine wf ?_
 refine AW (fun h=>?_) (fun h=>?_)
 ·refine wf ?_
  exact B2 (.refl _)
 simp only[CT,AL,A8]at h
 obtain⟨⟨hf,hl⟩,hm⟩:=h
 have v:=Lg hf
 have hg:=cF hf
 have hs:=(NA hg).1
 have hbj:=gG v hg l m (ZK hm).1 (ZK hm).2
 have c1:=fun t u=>TE s t l u m v (by omega) (by omega) hbj
 have co:=fun t=>Rh s t v.close.1 v.asc
 have ho:=C8 s
 have hol:(BK s).length≤200:=by
  have:=Eg ho.nodup (u:=ids s) ho.sub
  have:=v.close.1.1
  unfold ids at*
  simp only[AR]at*
  omega
 by_cases h0:(Uh s l m).2.2=0
 ·obtain⟨T,id,e,S⟩:=sr v hbj (by omega) h0
  rw[e]at c1
  dsimp only at c1
  have hTm:(⟨id,HD s l m⟩:Sto)∈T:=by rw[S.is];exact HC.2 (.inl rfl)
  refine wz fun b8=>?_
  refine Ao 8 ?_
  refine wf ?_
  refine Ad (σ:=Nat) (fun i=>i≤(BK s).length) (fun i=>(BK s).length - i) (fun i=> [(0,.slice (s.map eSto) t),(1,.slice (l.map eDig) u),(7,.slice (T.map eSto) .ro),(8,.pt (eDig id) 0),(10,.raw (.int .i64 (nJ s l i))),(46,.slice ((BK s).map eDig) .ro),(47,.raw (.int .i64 (BK s).length)),(48,.raw (.int .i64 i))]) (fun _=>LF) 0 (by omega) ⟨rfl,rfl,rfl,rfl,rfl,rfl,rfl,rfl⟩ (.refl _) ?_
  rintro i hi
  have hbd:=ra v (l:=l) hi
  refine wf ?_
  refine A6 (fun hc=>?_) (fun hc=>?_)
  ·have hlt:i < (BK s).length:=by omega
   have hmem:=AF hlt
   obtain⟨x,hx,hxd⟩:=AQ.1 (ho.sub _ hmem)
   have hsu:=dm (l:=l) hlt
   have hphi:=fun n=>tc v (l:=l) (id:=id) hlt n
   have hcl:=v.cnt_le hmem
   have hal:=fun(n:Nat) (hn:n < Hg x.patch)=>(S.renamed v).alike v S.val hx hn
   rw[hxd]at hal
   have hcn:Hg x.patch=cntS s (BK s)[i]:=by rw[←hxd,v.cntS hx]
   have cc:=Ov v hx
   have cg: ∀ t,CB Tryz.prog 17 [.slice (s.map eSto) t,.agg (eDig x.id)] (.tuple [.agg (Bz x.patch),.raw (.bool true)]):=fun t=>by
    have:=KJ s t x.id
    rw[v.getS hx]at this
    exact this
   rw[hxd]at cc cg
   rw[hcn]at hal
   refine wz fun b12=>?_
   generalize (BK s)[i]=d at*
   refine Ao 12 ?_
   refine wz fun b13=>?_
   refine Ao 13 ?_
   refine wf ?_
   refine Ad (σ:=Nat) (fun k=>k≤cntS s d) (fun k=>cntS s d - k) (fun k=> [(0,.slice (s.map eSto) t),(1,.slice (l.map eDig) u),(7,.slice (T.map eSto) .ro),(8,.pt (eDig id) 0),(10,.raw (.int .i64 (if d∈l then nJ s l i+(k:Nat)else nJ s l i))),(12,.pt (eDig d) 0),(15,.raw (.bool (decide (d∈l)))),(46,.slice ((BK s).map eDig) .ro),(47,.raw (.int .i64 (BK s).length)),(48,.raw (.int .i64 i)),(62,.raw (.int .i64 (cntS s d))),(63,.raw (.int .i64 k))]) (fun _=>LF) 0 (by omega) ⟨rfl,rfl,rfl,rfl,by show PV.raw _=_;congr 2;split<;>simp,rfl,rfl,rfl,rfl,rfl,rfl,rfl⟩ (.refl _) ?_
   rintro k hk
   refine wf ?_
   refine A6 (fun hc2=>?_) (fun hc2=>?_)
   ·have hkl:k < cntS s d:=by omega
    have hak:=hal k hkl
    have hpk:=hphi k
    have ca:=fun ts tt=>mF v S.val hak ts tt
    rw[hpk]at ca
    refine wz fun b17=>?_
    refine wf ?_
    refine A6 (fun hd=>?_) (fun hd=>?_)
    ·simp only[if_pos hd]at ca ⊢
     refine wf ?_
     exact⟨k+1,by omega,by dsimp only;omega,⟨rfl,rfl,rfl,rfl,congrArg (fun n=>PV.raw (.int .i64 n)) (by omega),rfl,rfl,rfl,rfl,rfl,rfl,rfl⟩,.cons _ (.refl _)⟩
    ·simp only[if_neg hd]at ca ⊢
     refine wf ?_
     exact⟨k+1,by omega,by dsimp only;omega,⟨rfl,rfl,rfl,rfl,rfl,rfl,rfl,rfl,rfl,rfl,rfl,rfl⟩,.cons _ (.refl _)⟩
   ·have hkk:k=cntS s d:=by omega
    subst hkk
    refine wf ?_
    refine⟨i+1,by omega,by dsimp only;omega,⟨rfl,rfl,rfl,rfl,?_,rfl,rfl,rfl⟩,.refl _⟩
    show PV.raw _=_
    rw[hsu]
  ·obtain rfl:i=(BK s).length:=by omega
   have hcT:=Ov S.val hTm
   have hcE:(cntS T id:Int)=nJ s l (BK s).length:=by
    have e1:=S.cnt v
    have e2:=S.val.cntS hTm
    dsimp only at e2
    unfold nJ
    rw[AE (Ah _),e1,e2]
   rw[hcE]at hcT
   dsimp only at hcT
   have cg: ∀ t,CB Tryz.prog 17 [.slice (T.map eSto) t,.agg (eDig id)] (.tuple [.agg (Bz (HD s l m)),.raw (.bool true)]):=fun t=>by
    have:=KJ T t id
    rw[S.get]at this
    exact this
   refine wz fun b18=>?_
   refine Ao 18 ?_
   refine wf ?_
   refine BZ [(6,.raw (.bool (true))),(0,.slice (s.map eSto) t)] (LF) ?_ ?_
   ·repeat' (first|(refine A6 (fun h=>?_) (fun h=>?_)<;>refine wf ?_)|(refine AY (fun h=>?_) (fun h=>?_)<;>refine wf ?_)|(refine AW (fun h=>?_) (fun h=>?_)<;>refine wf ?_)|(refine Av (fun h=>?_) (fun h=>?_)<;>(have h2:=h;(try simp only[AB,A8,AJ,AL]at h2);refine wf ?_)))
    all_goals (refine⟨⟨CD (by rfl) ?_,rfl⟩,.refl _⟩;first|(simp_all;done)|(simp_all;omega)|grind)
   refine wf ?_
   exact B2 (.refl _)
 ·obtain⟨e1,e2⟩:=na h0
  obtain⟨⟨A1,A2,A3⟩,hA⟩: ∃ A,A=Uh s l m:=⟨_,rfl⟩
  rw[←hA]at c1 h0 e1 e2
  dsimp only at c1 h0 e1 e2
  refine wz fun b8=>?_
  refine Ao 8 ?_
  refine wn ?_
  refine AY (fun _=>?_) (fun h=>absurd h h0)
  refine wf ?_
  exact B2 (.refl _)⟩
end Go.Proofs
namespace Go.Proofs
open Go Go.Q Go.ChangeShapes Go.WideShapes Go.ChangeAt Go.WideMaps Go.WideElems Go.RowKit
theorem kX:Dr Tryz.prog 26 (fun xs=> ∃ x:Mta,xs=FY x):=
 Dr.to (HR (n:=3) (r:= [(9,0),(9,1),(3,2)]) (by kernel_rfl) (by kernel_rfl) (.cons 1 (by kernel_rfl) Tq (.cons 1 (by kernel_rfl) Tq (.cons 1 (by kernel_rfl) Tr (.nil _)))))
  fun xs ⟨_,.cons ⟨a0,e0⟩ (.cons ⟨a1,e1⟩ (.cons ⟨a2,_,e2⟩ .nil)),e⟩=>⟨⟨a0,a1,a2⟩,by subst e0 e1 e2 e;simp[FY,eS]⟩
theorem oo:Dr Tryz.prog 50 (fun xs=> ∃ l:List Mta,xs= [.slice (l.map FY) .ro]):=Dr.list (sz:=3) kX (fun _=>by simp) (by kernel_rfl) (by kernel_rfl) rfl (by decide) (ble (by kernel_rfl))
theorem tw:Dr Tryz.prog 45 (fun xs=> ∃ l:List Int,xs= [.slice (l.map eI) .ro]):=Dr.list (Dr.to Tr fun _ ⟨n,_,e⟩=>⟨n,e⟩) (fun _=>rfl) (by kernel_rfl) (by kernel_rfl) rfl (by decide) (ble (by kernel_rfl))
theorem oq:Dr Tryz.prog 49 (fun xs=> ∃ l:List (List Int),xs= [.slice (l.map Ui) .ro]):=Dr.list tw (fun _=>rfl) (by kernel_rfl) (by kernel_rfl) rfl (by decide) (ble (by kernel_rfl))
theorem A0F:Dr Tryz.prog 53 (fun xs=> ∃ c:Cut,xs=pw c):=
 Dr.to (HR (n:=34) (r:= [(31,0),(49,32),(50,33)]) (by kernel_rfl) (by kernel_rfl) (.cons 32 (by kernel_rfl) dh (.cons 1 (by kernel_rfl) oq (.cons 1 (by kernel_rfl) oo (.nil _)))))
  fun xs ⟨_,.cons ⟨a0,e0⟩ (.cons ⟨a1,e1⟩ (.cons ⟨a2,e2⟩ .nil)),e⟩=>⟨⟨a0,a1,a2⟩,by subst e0 e1 e2 e;simp[pw]⟩
end Go.Proofs
