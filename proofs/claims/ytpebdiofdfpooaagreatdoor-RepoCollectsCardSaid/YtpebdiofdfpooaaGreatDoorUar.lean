/- Contracts of the program: a patch added to a set. -/
import Derived.Test.YtpebdiofdfpooaaGreatDoorUan
import Derived.Test.YtpebdiofdfpooaaGreatDoorUao
import Derived.Test.YtpebdiofdfpooaaGreatDoorUaq
import Derived.Test.YtpebdiofdfpooaaGreatDoorUap
import Derived.Test.YtpebdiofdfpooaaGreatDoorUam
import Derived.Maps.RangeRun
set_option linter.unusedSimpArgs false
set_option linter.unusedVariables false
namespace Go.Proofs
open Go Go.Q
attribute [local irreducible] EG AY H2 B2 FZ
theorem jc {p:Pat} (h:(EF p).2=0):(Cq p).2=0∧(Cc p).1=NN p:=by
 have h1: ¬(Cc p).2≠0:=fun h'=>by rw[EF,if_pos h']at h;exact h' h
 unfold Cc at h1 ⊢
 by_cases h2:(Cq p).2≠0
 ·rw[if_pos h2]at h1;exact absurd h2 h1
 rw[if_neg h2]at h1 ⊢
 refine⟨Aj.1 h2,?_⟩
 unfold KC at h1 ⊢
 by_cases h3:65536 < ((NN p).length:Int)
 ·rw[if_pos h3]at h1;exact absurd (by decide) h1
 ·rw[if_neg h3]
theorem W2 {p q:Pat} (gp:EE p=false) (gq:EE q=false) (hp:(EF p).2=0) (hq:(EF q).2=0):decide ((Cc q).1=(Cc p).1)=decide (p=q):=by
 obtain⟨c1,e1⟩:=jc hp
 obtain⟨c2,e2⟩:=jc hq
 rw[e1,e2,decide_eq_decide]
 exact⟨fun h=>je (Nw gp) (Nw gq) c1 c2 h.symm,fun h=>by rw[h]⟩
instance fv (a b:Pat) [ha:B3 (EE a=false)] [hb:B3 (EE b=false)]:Bl Tryz.prog 85 [.agg (CP a),.agg (CP b)] (.raw (.bool (decide ((Cc a).1=(Cc b).1)))):=⟨by
 refine Ak Tryz.func85 Tryz.ntmps85 rfl (rs:= [.tmp 4]) rfl rfl fun hb LF=>?_
 refine wf ?_
 exact Ah (.refl _)⟩
theorem Yg (s:List Sto) (x:Sto):H6 s x=s.take (Jk s x.id)++x::s.drop (Jk s x.id):=by
 have e:(fun(y:Sto)=>!decide (Dh y.id x.id < 0))=fun y=>decide (0≤Dh y.id x.id):=by
  funext y
  by_cases h:Dh y.id x.id < 0
  ·rw[BL h,Ck (by omega)];rfl
  ·rw[Ck h,BL (by omega)];rfl
 unfold H6 Jk
 rw[List.takeWhile_eq_take_findIdx_not,List.dropWhile_eq_drop_findIdx_not,e]
theorem o9 (s:List Sto) (d:Dig):Jk s d≤s.length:=List.findIdx_le_length
theorem oB {s:List Sto} (ha:Ej (ids s)) {d:Dig} (h:d∈ids s): ∃ hlt:Jk s d < s.length,s[Jk s d].id=d∧getS s d=some s[Jk s d].patch:=by
 obtain⟨x,hx,rfl⟩:=AU.1 h
 obtain⟨i,hi,rfl⟩:=AX.1 hx
 have e:Jk s s[i].id=i:=X5 (Nat.le_of_lt hi) (fun k hk hki=>by
  have:=BN.1 ha k i (by simpa [ids]using hk) (by simpa [ids]using hi) hki
  simp only[ids,BT]at this
  exact this) (fun k hk hik=>by
  rcases BB i k with h'|h'
  ·have:=BN.1 ha i k (by simpa [ids]using hi) (by simpa [ids]using hk) h'
   simp only[ids,BT]at this
   rcases UK (Dh s[k].id s[i].id) 0 with h2|h2
   ·exact absurd h2 (Dig.lt_asymm this)
   ·exact h2
  ·have e2:k=i:=by omega
   subst e2
   rcases UK (Dh s[k].id s[k].id) 0 with h2|h2
   ·exact absurd h2 (Dig.lt_irrefl _)
   ·exact h2)
 refine⟨by rw[e];exact hi,?_⟩
 simp only[e]
 exact⟨trivial,KE ha hx⟩
def Pc (s:List Sto) (p:Pat):Int:=if(getS s (EF p).1).isSome=true then(if p=(getS s (EF p).1).getD Pat.zero then 6 else 14)else if Ca (ids s) (Bf p)=false then 19 else FT s p (EF p).1
theorem jf {s:List Sto} {p:Pat} (h0:(EF p).2=0) (hl:s.length < 400):LU s p=if Pc s p≠0 then([],Dig.zero,Pc s p)else(H6 s ⟨(EF p).1,p⟩,(EF p).1,0):=by
 unfold LU Pc
 rw[if_neg (by simp[h0])]
 by_cases h1:(getS s (EF p).1).isSome=true
 ·rw[if_pos h1,if_pos h1]
  by_cases h2:p=(getS s (EF p).1).getD Pat.zero
  ·rw[if_pos h2,if_pos h2];rfl
  ·rw[if_neg h2,if_neg h2];rfl
 rw[if_neg h1,if_neg h1]
 by_cases h3:Ca (ids s) (Bf p)=false
 ·rw[if_pos h3,if_pos h3];rfl
 rw[if_neg h3,if_neg h3]
 by_cases h4:FT s p (EF p).1≠0
 ·rw[if_pos h4,if_pos h4]
 ·rw[if_neg h4,if_neg h4,if_neg (by omega)]
theorem dI {a b:Res} {R LF:List Res}:(R++a::b::LF).Perm (b::a::(R++LF)):=(B8.trans (.cons a B8)).trans (.swap _ _ _)
theorem dH {a b:Res} {R LF:List Res}:(b::a::(R++LF)).Perm (R++(b::a::LF)):=(B8.trans (.cons b B8)).symm
set_option maxHeartbeats 4000000 in
instance qA (s:List Sto) (p:Pat) (t:CW) [hs:B3 (C7 s)] [hg:B3 (EE p=false)]:Bl Tryz.prog 68 [.slice (s.map eSto) t,.agg (CP p)] (.tuple [.slice ((LU s p).1.map eSto) .ro,.agg (eDig (LU s p).2.1),.raw (.int .i64 (LU s p).2.2)]):=⟨by
 have v:=hs.out
 have hgd:=v.close.1
 have hlen:=hgd.1
 have hgp:=hg.out
 have i2:=fun t=>Sh s t (EF p).1 v.asc (by omega)
 have i3:=fun t=>Z8 s t p v.asc (by omega) hgp
 have hpl:=o9 s (EF p).1
 refine Ak Tryz.func68 Tryz.ntmps68 rfl (rs:= [.tmp 4,.cell 5 45,.tmp 6]) rfl rfl fun hb LF=>?_
 refine wf ?_
 refine BR fun b5=>?_
 refine wf ?_
 refine BR fun b7=>?_
 refine wo ?_
 refine AN ?_
 refine Ag 7 ?_
 refine wf ?_
 refine AL (fun h1=>?_) (fun h1=>?_)
 ·refine wf ?_
  refine Xa rfl ?_
  rw[LU,if_pos h1]
  exact .tuple3 (.ro _ _) (.refl _) (.refl _)
 rw[jf h1 (by omega)]
 refine wf ?_
 refine B0 [(32,.raw (.bool (decide ((EF p).1∈ids s∧ ¬p=(getS s (EF p).1).getD Pat.zero)))),(0,.slice (s.map eSto) t),(3,.pt (CP p) 0),(5,.raw (.pointer (some ⟨b5,0,none⟩))),(7,.pt (eDig (EF p).1) 0),(9,.raw (.int .i64 (Jk s (EF p).1:Nat))),(10,.raw (.bool (decide ((EF p).1∈ids s))))] (.box b5 45 (eDig Dig.zero)::LF) ?_ ?_
 ·refine An (fun hp=>?_) (fun hp=>?_)
  ·have hd:=Ab hp
   obtain⟨hlt,hid,hget⟩:=oB v.asc hd
   have hq0:s[Jk s (EF p).1]∈s:=AK hlt
   have i4:B3 (EE s[Jk s (EF p).1].patch=false):=⟨hgd.2 _ hq0⟩
   have heq:=W2 hgp (hgd.2 _ hq0) h1 (v.id _ hq0).1
   refine wf ?_
   refine⟨⟨BO (by rfl) ?_,rfl,rfl,rfl,rfl,rfl,rfl⟩,.refl _⟩
   rw[heq,hget,Option.getD_some]
   generalize s[Jk s (EF p).1].patch=q
   by_cases h2:p=q
   ·rw[BL h2,Ck (fun h=>h.2 h2)];rfl
   ·rw[Ck h2,BL ⟨hd,h2⟩];rfl
  ·have hd:=BJ hp
   refine wf ?_
   refine⟨⟨BO (by rfl) ?_,rfl,rfl,rfl,rfl,rfl,rfl⟩,.refl _⟩
   simp[hd]
 have hsome:=IR v.asc (EF p).1
 refine wf ?_
 refine Cz (σ:=Unit) (fun _=>True) (fun _=> [(0,.slice (s.map eSto) t),(3,.pt (CP p) 0),(5,.raw (.pointer (some ⟨b5,0,none⟩))),(7,.pt (eDig (EF p).1) 0),(8,.raw (.int .i64 (Pc s p))),(9,.raw (.int .i64 (Jk s (EF p).1:Nat)))]) (fun _=> .box b5 45 (eDig Dig.zero)::LF) ?_ ?_
 ·refine A1 (fun h=>?_) (fun h=>?_)
  ·have eA:Pc s p=14:=by
    unfold Pc;rw[hsome,if_pos (BL h.1),if_neg h.2]
   refine wf ?_
   exact⟨(),trivial,⟨rfl,rfl,rfl,rfl,by rw[eA];rfl,rfl⟩,.refl _⟩
  refine wf ?_
  refine A1 (fun h2=>?_) (fun h2=>?_)
  ·have eA:Pc s p=6:=by
    unfold Pc;rw[hsome,if_pos (BL h2),if_pos (Dn fun h3=>h ⟨h2,h3⟩)]
   refine wf ?_
   exact⟨(),trivial,⟨rfl,rfl,rfl,rfl,by rw[eA];rfl,rfl⟩,.refl _⟩
  have hns: ¬(getS s (EF p).1).isSome=true:=by rw[hsome];simpa using h2
  refine wf ?_
  refine AO (fun h3=>?_) (fun h3=>?_)
  ·have eA:Pc s p=19:=by
    unfold Pc;rw[if_neg hns,if_pos (LA h3)]
   refine wf ?_
   exact⟨(),trivial,⟨rfl,rfl,rfl,rfl,by rw[eA];rfl,rfl⟩,.refl _⟩
  have eA:Pc s p=FT s p (EF p).1:=by
   unfold Pc;rw[if_neg hns,if_neg (Il h3)]
  refine wn ?_
  refine EB [1,5] (by decide+kernel) ?_
  refine Aw 0 ?_
  refine Aw 2 ?_
  refine Aw 3 ?_
  refine Aw 4 ?_
  refine Av 2 1 ?_
  refine Bo (xs:= [.tmp 26]) [] (.box b5 45 (eDig Dig.zero)::LF) (f:=104) (cs:= []) (Bx _) rfl rfl (.refl _) _ (Nr s t) fun r L' ⟨m,e1,e2⟩=>?_
  subst e1;rw[e2]
  refine AN ?_
  refine Av 1 5 ?_
  refine Bo (xs:= [.tmp 27,.tmp 30]) (Gj m []) (.box b5 45 (eDig Dig.zero)::LF) (f:=105) (cs:= []) (Bx _) rfl rfl (.refl _) _ (VF s hgd m [] (fun d l h=>by simp[Dv]at h) ⟨(EF p).1,p⟩ hgp) fun u L' ⟨e1,kn3,e2,hkn3⟩=>?_
  subst e1;rw[e2]
  refine AN ?_
  refine Av 0 6 ?_
  refine wo ?_
  refine AN ?_
  refine Ct (by decide+kernel) ?_
  rw[show Qu s (⟨(EF p).1,p⟩:Sto).patch (⟨(EF p).1,p⟩:Sto).id=Pc s p from(Xz s (EF p).1 h1).trans eA.symm]
  exact⟨(),trivial,⟨rfl,rfl,rfl,rfl,rfl,rfl⟩,.cons _ (.refl _)⟩
 intro _ _
 refine wf ?_
 refine B0 [(56,.raw (.bool (decide (Pc s p=0∧400≤(s.length:Int))))),(0,.slice (s.map eSto) t),(3,.pt (CP p) 0),(5,.raw (.pointer (some ⟨b5,0,none⟩))),(7,.pt (eDig (EF p).1) 0),(8,.raw (.int .i64 (Pc s p))),(9,.raw (.int .i64 (Jk s (EF p).1:Nat)))] (.box b5 45 (eDig Dig.zero)::LF) ?_ ?_
 ·repeat' (first|(refine A1 (fun h=>?_) (fun h=>?_)<;>refine wf ?_)|(refine AL (fun h=>?_) (fun h=>?_)<;>refine wf ?_)|(refine AO (fun h=>?_) (fun h=>?_)<;>refine wf ?_)|(refine An (fun h=>?_) (fun h=>?_)<;>(have h2:=h;(try simp only[AB,A7,AG,AF]at h2);refine wf ?_)))
  all_goals (refine⟨⟨BO (by rfl) ?_,rfl,rfl,rfl,rfl,rfl,rfl⟩,.refl _⟩;first|(simp_all;done)|grind)
 refine wf ?_
 refine A1 (fun h=>?_) (fun _=>?_)
 ·omega
 refine wf ?_
 refine AL (fun h=>?_) (fun h=>?_)
 ·refine wf ?_
  refine Xa rfl ?_
  rw[if_pos h]
  exact .tuple3 (.ro _ _) (.refl _) (.refl _)
 rw[if_neg (fun h'=>h' h)]
 refine wn ?_
 refine EB [1,6,7,10] (by decide+kernel) ?_
 refine Aw 0 ?_
 refine Aw 2 ?_
 refine Aw 3 ?_
 refine Aw 4 ?_
 refine Aw 5 ?_
 refine Aw 8 ?_
 refine De (fuel:=5) [1,6] (by decide+kernel) (by simp) fun i hi=>?_
 simp only[AQ,BF,or_false]at hi
 rcases hi with rfl|rfl
 ·refine⟨_,rfl,?_⟩
  refine Bo (xs:= [.tmp 61]) [] (.box b5 45 (eDig Dig.zero)::LF) (f:=55) (cs:= []) (Bx _) rfl rfl (.refl _) _ (Oc s t (by omega)) fun r R0 ⟨v0,e1,hv0⟩=>?_
  subst e1
  refine AN ?_
  refine Av 4 6 ?_
  refine KL (cs:=eSto (⟨(EF p).1,p⟩:Sto)) (.agg _) (by simp) (by decide) fun b=>?_
  refine AN ?_
  refine Av 3 7 ?_
  refine Bo (xs:= [.tmp 62,.tmp 63,.tmp 67]) (R0++ [Res.box b 47 (eSto (⟨(EF p).1,p⟩:Sto))]) (.box b5 45 (eDig Dig.zero)::LF) (f:=131) (cs:= []) (Bx _) rfl rfl (by rw[AJ];exact B8.symm) _ (Tg v0 s R0 hv0 (Jk s (EF p).1) hpl (by omega) b (⟨(EF p).1,p⟩:Sto)) fun r L' ⟨v2,R2,e1,hv2,e2⟩=>?_
  subst e1;rw[e2]
  refine AN ?_
  refine Av 2 9 ?_
  refine wo ?_
  refine AN ?_
  refine Av 1 10 ?_
  refine RI (L':= .box b5 45 (eDig Dig.zero):: .box b 47 (eSto (⟨(EF p).1,p⟩:Sto))::(R2++LF)) (by rw[AJ];exact dI) rfl ?_ (fun h=>h)
  refine wo ?_
  refine AN ?_
  refine Av 0 11 ?_
  refine wo ?_
  refine AN ?_
  refine Ct (by decide+kernel) ?_
  have hxl:((s.take (Jk s (EF p).1)++(⟨(EF p).1,p⟩:Sto)::s.drop (Jk s (EF p).1)).map eSto).length≤201:=by
   simp only[AR,A8,AV,AH,Ao];omega
  refine HC 4 hv2 ⟨by unfold maxN;omega,by unfold maxN;omega⟩ dH rfl ?_
  refine wf ?_
  refine Xa rfl ?_
  rw[Yg]
  exact .refl _
 ·refine⟨_,rfl,?_⟩
  refine KL (cs:=eSto (⟨(EF p).1,p⟩:Sto)) (.agg _) (by simp) (by decide) fun b=>?_
  refine AN ?_
  refine Av 4 1 ?_
  refine Bo (xs:= [.tmp 61]) [] (.box b 47 (eSto (⟨(EF p).1,p⟩:Sto)):: .box b5 45 (eDig Dig.zero)::LF) (f:=55) (cs:= []) (Bx _) rfl rfl (.refl _) _ (Oc s t (by omega)) fun r R0 ⟨v0,e1,hv0⟩=>?_
  subst e1
  refine AN ?_
  refine Av 3 7 ?_
  refine Bo (xs:= [.tmp 62,.tmp 63,.tmp 67]) (R0++ [Res.box b 47 (eSto (⟨(EF p).1,p⟩:Sto))]) (.box b5 45 (eDig Dig.zero)::LF) (f:=131) (cs:= []) (Bx _) rfl rfl (by rw[AJ];exact .refl _) _ (Tg v0 s R0 hv0 (Jk s (EF p).1) hpl (by omega) b (⟨(EF p).1,p⟩:Sto)) fun r L' ⟨v2,R2,e1,hv2,e2⟩=>?_
  subst e1;rw[e2]
  refine AN ?_
  refine Av 2 9 ?_
  refine wo ?_
  refine AN ?_
  refine Av 1 10 ?_
  refine RI (L':= .box b5 45 (eDig Dig.zero):: .box b 47 (eSto (⟨(EF p).1,p⟩:Sto))::(R2++LF)) (by rw[AJ];exact dI) rfl ?_ (fun h=>h)
  refine wo ?_
  refine AN ?_
  refine Av 0 11 ?_
  refine wo ?_
  refine AN ?_
  refine Ct (by decide+kernel) ?_
  have hxl:((s.take (Jk s (EF p).1)++(⟨(EF p).1,p⟩:Sto)::s.drop (Jk s (EF p).1)).map eSto).length≤201:=by
   simp only[AR,A8,AV,AH,Ao];omega
  refine HC 4 hv2 ⟨by unfold maxN;omega,by unfold maxN;omega⟩ dH rfl ?_
  refine wf ?_
  refine Xa rfl ?_
  rw[Yg]
  exact .refl _⟩
end Go.Proofs
namespace Go.Proofs
open Go Go.Q
def zP:Chg:={ Chg.zero with kind:=1,type:=1 }
def ga:Dig:=⟨[29,5,81,176,77,171,31,168,3,84,99,177,155,5,61,168,37,109,70,193,94,5,28,98,24,204,118,247,185,184,170,220],rfl⟩
def gZ:Dig:=⟨[240,168,68,31,108,233,64,210,234,68,91,7,227,21,139,135,67,203,230,233,173,209,83,239,153,132,174,43,167,0,34,187],rfl⟩
def mZ:Dig:=⟨[213,83,79,138,58,73,5,36,69,187,190,214,93,193,171,28,47,86,11,254,23,204,168,89,142,6,60,190,106,212,44,43],rfl⟩
theorem iL {s:List Sto} (v:C7 s):DC s (K4 s)=(ids s,0):=by
 obtain⟨L,e,hc,hm⟩:=v.closedM (l:=K4 s) fun d hd=>(QM.1 hd).1
 rw[e]
 have:L=ids s:=Ej.ext hc.asc v.asc fun d=>⟨hc.sub d,fun hd=>(hm d).2 (iM v _ hd rfl)⟩
 rw[this]
theorem cR {r:Repo} {n:Str} {b:Brn} (hb:r.branches.getD (C3 Brn.name r.branches n).toNat Brn.zero=b):Kx r n=Bt r.pool b.ids:=by unfold Kx;rw[hb]
theorem H4.set_view {r:Repo} (v:H4 r) {n:Str} (h: ¬C3 Brn.name r.branches n < 0):C6 r n=some (Kx r n)∧Ey (Kx r n) r.pool∧EK n=true∧(∀ t∈r.tags,n≠t.name):=by
 obtain⟨b,hb,e,hg⟩:=Fi h
 rw[cR hg]
 subst e
 have hv:=HI v.ascB hb
 exact⟨hv,v.viewS hv,(v.okB b hb).name,fun t ht=>(v.okT t ht).new b hb⟩
theorem Ey.of_isU {p q u:List Sto} (vp:C7 p) (vq:C7 q) (h:Pk p q u) (hl:p.length+q.length≤200):Ey p u∧Ey q u:=
 have vu:=vp.union vq h hl
 ⟨⟨vp,vu,fun x hx=>(h.mem x).2 (.inl hx)⟩,⟨vq,vu,fun x hx=>(h.mem x).2 (.inr hx)⟩⟩
theorem PD {a b:List Sto} (ha:Ej (ids a)) (hb:Ej (ids b)) (hl:a.length+b.length≤400) (h:(EP a b).2=0):Pk a b (EP a b).1:=by
 by_cases hc:ly a b
 ·obtain⟨u,e,i⟩:=Va ha hb hl hc
  rw[e];exact i
 ·rw[aZ ha hc]at h;cases h
theorem Ey.len {p q:List Sto} (h:Ey p q):p.length≤q.length:=by
 have h1:=Eh h.vp.asc.nodup h.idsS
 rwa [Dj,Dj]at h1
theorem SV {r:Repo} (v:H4 r) {n:Str} {p:Pat} (hg:EE p=false) (hl:2*r.pool.length+1≤200) (h:(Js r n p).2.2=0):
  ∃ s,C6 r n=some s∧Ey s r.pool∧lx s ⟨(EF p).1,p⟩∧C7 (H6 s ⟨(EF p).1,p⟩)∧(Js r n p).2.1=(EF p).1∧H4 (Js r n p).1∧Pk r.pool (H6 s ⟨(EF p).1,p⟩) (Js r n p).1.pool∧
    (∀ m,C6 (Js r n p).1 m=if m=n then some (H6 s ⟨(EF p).1,p⟩)else C6 r m)∧(Js r n p).1= { r with pool:=(Js r n p).1.pool,branches:=Dw Brn.name r.branches ⟨n,ids (H6 s ⟨(EF p).1,p⟩)⟩ }:=by
 have hz:EO r=0:=(DH v.pool.close.1).2 v
 unfold Js at h ⊢
 rw[if_neg (by rw[hz];simp)]at h ⊢
 split at h
 ·cases h
 rename_i h1
 rw[if_neg h1]
 obtain⟨e1,e2,e3,e4⟩:=v.set_view h1
 split at h
 ·rename_i h2;exact absurd h h2
 rename_i h2
 rw[if_neg h2]
 obtain⟨hf,ha⟩:=e2.vp.rAdd_ok hg (Aj.1 h2)
 generalize hs:Kx r n=s at*
 rw[ha]at h ⊢
 dsimp only at h ⊢
 have hsl:=e2.len
 have vs:=e2.vp.put hf (by omega)
 split at h
 ·rename_i h3;exact absurd h h3
 rename_i h3
 rw[if_neg h3]
 dsimp only
 have hu:=PD v.pool.asc vs.asc (by rw[Nq];omega) (Aj.1 h3)
 generalize (EP r.pool (H6 s ⟨(EF p).1,p⟩)).1=u at hu ⊢
 obtain⟨s1,s2⟩:=Ey.of_isU v.pool vs hu (by rw[Nq];omega)
 obtain⟨v1,hv1⟩:=v.grow s1
 obtain⟨b,hb,eb,_⟩:=Fi h1
 refine⟨s,e1,e2,hf,vs,rfl,v1.putB (b:=⟨n,ids (H6 s ⟨(EF p).1,p⟩)⟩) (X9 s2 e3) e4 ?_,hu,fun m=>?_,rfl⟩
 ·rw[Qp (r:={ r with pool:=u }) v1 (b:=⟨n,_⟩) hb eb];exact v.lenB
 ·have:=v1.view_setB (b:=⟨n,ids (H6 s ⟨(EF p).1,p⟩)⟩) m
  refine this.trans ?_
  dsimp only
  rw[s2.keep_ids,hv1]
theorem nZ {s:List Sto} (v:C7 s) {d:Dig} (h:(MU s d).2=0):d∈ids s∧C7 (MU s d).1∧(∀ x,x∈(MU s d).1↔x∈s∧x.id≠d):=by
 unfold MU at h ⊢
 split at h
 ·cases h
 rename_i h1
 rw[if_neg h1]
 split at h
 ·cases h
 rename_i h2
 rw[if_neg h2]
 dsimp only
 have hd:d∈ids s:=Aj.1 h1
 have hn: ∀ x∈s,d∉Bf x.patch:=fun x hx hd=>h2 (BW.2 ⟨x,hx,by simpa using hd⟩)
 have e:s.filter (fun x=>!decide (x.id=d))=Bt s ((ids s).filter fun x=>!decide (x=d)):=by
  unfold Bt
  refine J5 fun x hx=>?_
  have hxs:x.id∈ids s:=AU.2 ⟨x,hx,rfl⟩
  by_cases h:x.id=d<;>simp[h,hxs,hd]
 refine⟨hd,?_,fun x=>?_⟩
 ·rw[e]
  refine v.keep fun x hx _ y hy=>EI.2 ⟨v.close.2 x hx y hy,?_⟩
  have:y≠d:=fun e=>hn x hx (e ▸ hy)
  simpa using this
 ·rw[EI];simp
theorem PN {r:Repo} (v:H4 r) {n:Str} {d:Dig} (h:(Fg r n d).2=0): ∃ s w,C6 r n=some s∧Ey s r.pool∧d∈ids s∧MU s d=(w,0)∧Ey w r.pool∧(∀ x,x∈w↔x∈s∧x.id≠d)∧H4 (Fg r n d).1∧
  (Fg r n d).1= { r with branches:=Dw Brn.name r.branches ⟨n,ids w⟩ }∧ ∀ m,C6 (Fg r n d).1 m=if m=n then some w else C6 r m:=by
 have hz:EO r=0:=(DH v.pool.close.1).2 v
 unfold Fg at h ⊢
 rw[if_neg (by rw[hz];simp)]at h ⊢
 split at h
 ·cases h
 rename_i h1
 rw[if_neg h1]
 obtain⟨e1,e2,e3,e4⟩:=v.set_view h1
 split at h
 ·rename_i h2;exact absurd h h2
 rename_i h2
 rw[if_neg h2]
 dsimp only
 obtain⟨hd,vw,hw⟩:=nZ e2.vp (Aj.1 h2)
 have er:MU (Kx r n) d=((MU (Kx r n) d).1,0):=Prod.ext rfl (Aj.1 h2)
 generalize (MU (Kx r n) d).1=w at*
 have hs:Ey w r.pool:=⟨vw,v.pool,fun x hx=>e2.sub x ((hw x).1 hx).1⟩
 obtain⟨b,hb,eb,_⟩:=Fi h1
 refine⟨_,w,e1,e2,hd,er,hs,hw,v.putB (b:=⟨n,ids w⟩) (X9 hs e3) e4 ?_,rfl,fun m=>?_⟩
 ·rw[Qp v (b:=⟨n,_⟩) hb eb];exact v.lenB
 ·rw[v.view_setB]
  dsimp only
  rw[hs.keep_ids]
theorem Gy {r:Repo} (v:H4 r) {n:Str} {s:List Sto} (hg:Dc s) (hl:r.pool.length+s.length≤200) (h:(CT r n s).2.2=0): ∃ b w,b∈r.branches∧b.name=n∧C6 r n=some (Bt r.pool b.ids)∧C7 s∧Pk r.pool s (CT r n s).1.pool∧Ey s (CT r n s).1.pool∧Ey r.pool (CT r n s).1.pool∧
  (CT r n s).2.1=(ids s).filter (fun d=>decide (d∉b.ids))∧Pk (Bt r.pool b.ids) s w∧Ey w (CT r n s).1.pool∧H4 (CT r n s).1∧
  (CT r n s).1= { r with pool:=(CT r n s).1.pool,branches:=Dw Brn.name r.branches ⟨n,ids w⟩ }∧ ∀ m,C6 (CT r n s).1 m=if m=n then some w else C6 r m:=by
 have hz:EO r=0:=(DH v.pool.close.1).2 v
 unfold CT at h ⊢
 rw[if_neg (by rw[hz];simp)]at h ⊢
 split at h
 ·cases h
 rename_i h1
 rw[if_neg h1]
 obtain⟨b,hb,eb,hgb⟩:=Fi h1
 split at h
 ·rename_i h2;exact absurd h h2
 rename_i h2
 rw[if_neg h2]
 have vs:=KI hg (Aj.1 h2)
 split at h
 ·rename_i h3;exact absurd h h3
 rename_i h3
 rw[if_neg h3]
 dsimp only
 have hu:=PD v.pool.asc vs.asc (by omega) (Aj.1 h3)
 generalize (EP r.pool s).1=u at hu ⊢
 obtain⟨s1,s2⟩:=Ey.of_isU v.pool vs hu hl
 obtain⟨v1,hv1⟩:=v.grow s1
 unfold dQ
 rw[hgb]
 have ob:=v.okB b hb
 have hv:C6 r n=some (Bt r.pool b.ids):=eb ▸ HI v.ascB hb
 have vo:=v.viewS hv
 generalize hA:CU b.ids ((ids s).filter fun d=>decide (d∉b.ids))=A
 have hAm: ∀ d,d∈A↔d∈b.ids∨d∈ids s:=fun d=>by
  rw[←hA,Ec,EI]
  by_cases hd:d∈b.ids<;>simp[hd]
 have hAa:Ej A:=hA ▸ Eb ob.asc
 have oA:lq u ⟨n,A⟩:=⟨eb ▸ ob.name,hAa,fun d hd=>by
  rcases(hAm d).1 hd with hd|hd
  ·exact s1.idsS d (ob.sub d hd)
  ·exact s2.idsS d hd,fun d hd x hx=>(hAm x).2 (by
  rcases(hAm d).1 hd with hd|hd
  ·rw[s1.nd (ob.sub d hd)]at hx
   exact .inl (ob.nd d hd x hx)
  ·rw[s2.nd hd]at hx
   exact .inr (vs.close.nd d x hx))⟩
 have hw:Pk (Bt r.pool b.ids) s (Bt u A):=⟨s1.vq.asc.sublist (Gk _ _),fun x=>by
  rw[Dz,Dz,hAm]
  constructor
  ·rintro⟨hx,hd|hd⟩
   ·exact .inl ⟨s1.mem hx (ob.sub _ hd),hd⟩
   ·exact .inr (s2.mem hx hd)
  ·rintro(⟨hx,hd⟩|hx)
   ·exact⟨s1.sub x hx,.inl hd⟩
   ·exact⟨s2.sub x hx,.inr (AU.2 ⟨x,hx,rfl⟩)⟩⟩
 have ew:ids (Bt u A)=A:=oA.ids s1.vq
 refine⟨b,Bt u A,hb,eb,hv,vs,hu,s2,s1,rfl,hw,⟨oA.valid s1.vq,s1.vq,fun x hx=>(Dz.1 hx).1⟩,v1.putB (b:=⟨n,A⟩) oA (fun t ht=>by have:=(v.okT t ht).new b hb;exact eb ▸ this) ?_,by rw[ew],fun m=>?_⟩
 ·rw[Qp (r:={ r with pool:=u }) v1 (b:=⟨n,_⟩) hb eb];exact v.lenB
 ·have:=v1.view_setB (b:=⟨n,A⟩) m
  refine this.trans ?_
  dsimp only
  rw[hv1]
theorem H4.cur_view {r:Repo} (v:H4 r): ∃ s,C6 r r.current=some s:=by
 obtain⟨b,hb,e⟩:=v.cur
 exact⟨_,e ▸ HI v.ascB hb⟩
theorem iK {s q:List Sto} (h:Ey s q) {bs:List Brn} {n note:Str} (hn:EK n=true) (hb: ∀ b∈bs,b.name≠n) (hl:note.length≤1000):rV q bs ⟨n,note,K4 s⟩∧tagV q ⟨n,note,K4 s⟩=s:=by
 have hts: ∀ d∈K4 s,d∈ids s:=fun d hd=>(QM.1 hd).1
 refine⟨⟨hn,hb,hl,h.vp.asc.sublist (iJ s),fun d hd=>h.idsS d (hts d hd),fun p hp q' hq=>?_⟩,?_⟩
 ·by_cases e:p=q'
  ·exact .inl e
  refine .inr ?_
  dsimp only at hp hq
  rw[h.knows (hts p hp)]
  cases hk:Fv s p q' with
  |false=>rfl
  |true=>
   exfalso
   obtain⟨L,eL,_,hm⟩:=h.vp.closedM (l:= [p]) fun d hd=>by rw[B1.1 hd];exact hts p hp
   rw[h.vp.knows,eL]at hk
   have hq2:q'∈L:=by simpa using hk
   exact e (B1.1 (aH hq ((hm _).1 hq2))).symm
 ·unfold tagV
  dsimp only
  rw[h.clo hts,iL h.vp]
  exact h.keep_ids
theorem WY {r:Repo} (v:H4 r) {n note:Str} (h:(NM r n note).2=0): ∃ s,C6 r r.current=some s∧C6 r n=none∧H4 (NM r n note).1∧(NM r n note).1.pool=r.pool∧ ∀ m,C6 (NM r n note).1 m=if m=n then some s else C6 r m:=by
 have hz:EO r=0:=(DH v.pool.close.1).2 v
 obtain⟨s,hs⟩:=v.cur_view
 unfold NM at h ⊢
 rw[if_neg (by rw[hz];simp)]at h ⊢
 split at h
 ·cases h
 rename_i h1
 rw[if_neg h1]
 split at h
 ·cases h
 rename_i h2
 rw[if_neg h2]
 split at h
 ·rename_i h3;exact absurd h h3
 rename_i h3
 rw[if_neg h3]
 split at h
 ·cases h
 rename_i h4
 rw[if_neg h4]
 dsimp only
 rw[hs,Option.getD_some]
 obtain⟨f1,f2⟩:=Mr h3
 obtain⟨o1,o2⟩:=iK (v.viewS hs) (bs:=r.branches) (n:=n) (note:=note) (by simpa using h1) f1 (by omega)
 refine⟨s,rfl,FP.2 ⟨f1,f2⟩,v.putT o1 (by have:=VB (nm:=Tgg.name) r.tags ⟨n,note,K4 s⟩;omega),rfl,fun m=>?_⟩
 rw[v.view_setT f1,o2]
theorem fY {r:Repo} {m:Str}:m∈Ha r↔(∃ b∈r.branches,b.name=m)∨ ∃ t∈r.tags,t.name=m:=by
 unfold Ha
 rw[Ai,AU,AU]
theorem JK {r:Repo} {m:Str}:m∈Ha r↔ ∃ s,C6 r m=some s:=by
 rw[fY]
 constructor
 ·intro h
  cases hv:C6 r m with
  |some s=>exact⟨s,rfl⟩
  |none=>
   rw[FP]at hv
   rcases h with ⟨b,hb,e⟩|⟨t,ht,e⟩
   ·exact absurd e (hv.1 b hb)
   ·exact absurd e (hv.2 t ht)
 ·rintro⟨s,hs⟩
  rcases Ga hs with ⟨b,hb,e,_⟩|⟨_,t,ht,e,_⟩
  ·exact .inl ⟨b,hb,e⟩
  ·exact .inr ⟨t,ht,e⟩
theorem Rn {α:Type} (f:α→List Dig) {d:Dig}: ∀ {l:List α} {a:List Dig},d∈l.foldl (fun a n=>CU a (f n)) a↔d∈a∨ ∃ n∈l,d∈f n
 | [],a=>by simp
 |x::l,a=>by
  rw[EJ,Rn f (l:=l),Ec]
  simp only[AQ,exists_eq_or_imp,or_assoc]
theorem Gi {r:Repo} {d:Dig}:d∈EY r↔ ∃ m s,C6 r m=some s∧d∈ids s:=by
 unfold EY
 rw[Rn]
 constructor
 ·rintro(h|⟨n,hn,h⟩)
  ·cases h
  ·obtain⟨s,hs⟩:=JK.1 hn
   rw[hs]at h
   exact⟨n,s,hs,h⟩
 ·rintro⟨m,s,hs,h⟩
  exact .inr ⟨m,JK.2 ⟨s,hs⟩,by rw[hs];exact h⟩
theorem VD {r r':Repo} (h: ∀ m,C6 r' m=C6 r m): ∀ d,d∈EY r'↔d∈EY r:=fun d=>by simp only[Gi,h]
theorem Zf {r:Repo} (v:H4 r):Ey (Bt r.pool (EY r)) r.pool∧yP r (Bt r.pool (EY r)):=by
 have hk: ∀ d,d∈ids (Bt r.pool (EY r))↔d∈EY r:=fun d=>by
  rw[HQ]
  refine⟨fun h=>h.2,fun h=>⟨?_,h⟩⟩
  obtain⟨m,s,hs,hd⟩:=Gi.1 h
  exact(v.viewS hs).idsS d hd
 refine⟨⟨v.pool.keep fun x hx hd y hy=>?_,v.pool,fun x hx=>(Dz.1 hx).1⟩,fun b hb d hd=>(hk d).2 ?_,fun t ht d hd=>(hk d).2 ?_⟩
 ·obtain⟨m,s,hs,hd⟩:=Gi.1 hd
  have sp:=v.viewS hs
  refine Gi.2 ⟨m,s,hs,?_⟩
  exact sp.vp.close.2 x (sp.mem hx hd) y hy
 ·refine Gi.2 ⟨b.name,_,HI v.ascB hb,?_⟩
  exact HQ.2 ⟨(v.okB b hb).sub d hd,hd⟩
 ·have ot:=v.okT t ht
  refine Gi.2 ⟨t.name,_,OA v.ascT ht ot.new,?_⟩
  obtain⟨L,e,hL⟩:=v.pool.closed ot.sub
  unfold tagV
  rw[e]
  exact HQ.2 ⟨ot.sub d hd,hL.has d hd⟩
theorem HG {r:Repo} (v:H4 r):DS r=({ r with pool:=Bt r.pool (EY r) },(r.pool.length:Int) - (Bt r.pool (EY r)).length)∧H4 (DS r).1∧ ∀ m,C6 (DS r).1 m=C6 r m:=by
 have hz:EO r=0:=(DH v.pool.close.1).2 v
 obtain⟨h1,h2⟩:=Zf v
 have e:DS r=({ r with pool:=Bt r.pool (EY r) },(r.pool.length:Int) - (Bt r.pool (EY r)).length):=by
  unfold DS
  rw[if_neg (by rw[hz];simp)]
 rw[e]
 refine⟨rfl,(dF h1 h2).2 v,fun m=>(Vf h1 h2 m).symm⟩
end Go.Proofs
namespace Go.Q
open Go
section
variable {P:Program} {N:Nat} {all:Array Oper} {K:Env→List Res→Prop} {fl:List Bool} {os:List Oper} {ρ:Env} {L:List Res} {Q:PPost} {c:Code} {d:Nat} {ty:TypeId} {pos:String} {af:Array Edge} {T KT ET:Nat}
end
section
variable {P:Program} {N:Nat} {all:Array Oper} {K:Env→List Res→Prop} {fl:List Bool} {os:List Oper} {ρ:Env} {L:List Res} {d:Nat} {ty:TypeId} {pos:String} {af:Array Edge}
variable {κ α:Type} [DecidableEq κ] {ek:κ→PV} {ev:α→PV} {T KT ET:Nat}
end
end Go.Q
namespace Go.Proofs
open Go Go.Q
attribute [local irreducible] EG AY B2 FZ
theorem Vi {s:List Sto} (v:C7 s) {x:Sto} (hx:x∈s):(Bf x.patch).length≤200:=by
 have h1:=Eh (TF x.patch).nodup (fun d hd=>v.close.2 x hx d hd)
 have:=v.close.1.1
 rw[Dj]at h1
 omega
instance vA (s:List Sto) (p q:Dig) (t:CW) [hs:B3 (C7 s)]:Bl Tryz.prog 117 [.slice (s.map eSto) t,.agg (eDig p),.agg (eDig q)] (.raw (.bool (Fv s p q))):=⟨by
 have v:=hs.out
 have cx:=fun t u=>Zs s [p] t u (hl:=⟨by simp⟩)
 rw[v.knows]
 refine Ak Tryz.func117 Tryz.ntmps117 rfl (rs:= [.tmp 6]) rfl rfl fun hb LF=>?_
 refine wf ?_
 refine An (fun hp=>?_) (fun hp=>?_)
 ·refine wf ?_
  refine Ah (.of_eq ?_)
  rw[hp];rfl
 ·refine wf ?_
  refine Ah (.of_eq ?_)
  rw[hp];rfl⟩
instance tw (s:List Sto) (p q:Dig) (t:CW) [hs:B3 (La s)]:Bl Tryz.prog 172 [.slice (s.map eSto) t,.agg (eDig p),.agg (eDig q)] (.raw (.bool (Fv s p q))):=⟨by
 refine Ak Tryz.func172 Tryz.ntmps172 rfl (rs:= [.tmp 6]) rfl rfl fun hb LF=>?_
 unfold Fv
 refine wf ?_
 repeat' (first|(refine A1 (fun h=>?_) (fun h=>?_)<;>refine wf ?_)|(refine AL (fun h=>?_) (fun h=>?_)<;>refine wf ?_)|(refine AO (fun h=>?_) (fun h=>?_)<;>refine wf ?_)|(refine An (fun h=>?_) (fun h=>?_)<;>(have h2:=h;(try simp only[AB,A7,AG,AF]at h2);refine wf ?_)))
 all_goals (refine Ah (.of_eq ?_);first|(simp_all;done)|grind)⟩
end Go.Proofs
namespace Go.Proofs
open Go Go.Q
theorem eN {s:List Sto} (ha:Ej (ids s)):s.Nodup:=by
 have h:=ha.nodup
 unfold ids at h
 rw[List.Nodup,List.pairwise_map]at h
 exact h.imp fun h e=>h (by rw[e])
end Go.Proofs
