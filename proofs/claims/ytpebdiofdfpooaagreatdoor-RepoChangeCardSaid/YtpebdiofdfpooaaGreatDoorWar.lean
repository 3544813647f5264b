/- Contracts of the program: a patch added to a set. -/
import Derived.Test.YtpebdiofdfpooaaGreatDoorWan
import Derived.Test.YtpebdiofdfpooaaGreatDoorWao
import Derived.Test.YtpebdiofdfpooaaGreatDoorWaq
import Derived.Test.YtpebdiofdfpooaaGreatDoorWap
import Derived.Test.YtpebdiofdfpooaaGreatDoorWam
import Derived.Maps.RangeRun
set_option linter.unusedSimpArgs false
set_option linter.unusedVariables false
namespace Go.Proofs
open Go Go.Q
attribute [local irreducible] EB AW GJ B2 FW
theorem iC {p:Pat} (h:(EW p).2=0):(Cv p).2=0∧(Cj p).1=Mn p:=by
 have h1: ¬(Cj p).2≠0:=fun h'=>by rw[EW,if_pos h']at h;exact h' h
 unfold Cj at h1 ⊢
 by_cases h2:(Cv p).2≠0
 ·rw[if_pos h2]at h1;exact absurd h2 h1
 rw[if_neg h2]at h1 ⊢
 refine⟨Ae.1 h2,?_⟩
 unfold Jo at h1 ⊢
 by_cases h3:65536 < ((Mn p).length:Int)
 ·rw[if_pos h3]at h1;exact absurd (by decide) h1
 ·rw[if_neg h3]
theorem V7 {p q:Pat} (gp:EA p=false) (gq:EA q=false) (hp:(EW p).2=0) (hq:(EW q).2=0):decide ((Cj q).1=(Cj p).1)=decide (p=q):=by
 obtain⟨c1,e1⟩:=iC hp
 obtain⟨c2,e2⟩:=iC hq
 rw[e1,e2,decide_eq_decide]
 exact⟨fun h=>iG (NP gp) (NP gq) c1 c2 h.symm,fun h=>by rw[h]⟩
instance ec (a b:Pat) [ha:B0 (EA a=false)] [hb:B0 (EA b=false)]:Bj Tryz.prog 85 [.agg (Cc a),.agg (Cc b)] (.raw (.bool (decide ((Cj a).1=(Cj b).1)))):=⟨by
 refine Aj Tryz.func85 Tryz.ntmps85 rfl (rs:= [.tmp 4]) rfl rfl fun hb LF=>?_
 refine wf ?_
 exact Al (.refl _)⟩
theorem Y1 (s:List Sto) (x:Sto):J1 s x=s.take (JR s x.id)++x::s.drop (JR s x.id):=by
 have e:(fun(y:Sto)=>!decide (DY y.id x.id < 0))=fun y=>decide (0≤DY y.id x.id):=by
  funext y
  by_cases h:DY y.id x.id < 0
  ·rw[Bh h,Ca (by omega)];rfl
  ·rw[Ca h,Bh (by omega)];rfl
 unfold J1 JR
 rw[List.takeWhile_eq_take_findIdx_not,List.dropWhile_eq_drop_findIdx_not,e]
theorem mV (s:List Sto) (d:Dig):JR s d≤s.length:=List.findIdx_le_length
theorem mW {s:List Sto} (ha:Eo (ids s)) {d:Dig} (h:d∈ids s): ∃ hlt:JR s d < s.length,s[JR s d].id=d∧getS s d=some s[JR s d].patch:=by
 obtain⟨x,hx,rfl⟩:=AX.1 h
 obtain⟨i,hi,rfl⟩:=Ak.1 hx
 have e:JR s s[i].id=i:=Vx (Nat.le_of_lt hi) (fun k hk hki=>by
  have:=BQ.1 ha k i (by simpa [ids]using hk) (by simpa [ids]using hi) hki
  simp only[ids,BT]at this
  exact this) (fun k hk hik=>by
  rcases BC i k with h'|h'
  ·have:=BQ.1 ha i k (by simpa [ids]using hi) (by simpa [ids]using hk) h'
   simp only[ids,BT]at this
   rcases Tg (DY s[k].id s[i].id) 0 with h2|h2
   ·exact absurd h2 (Dig.lt_asymm this)
   ·exact h2
  ·have e2:k=i:=by omega
   subst e2
   rcases Tg (DY s[k].id s[k].id) 0 with h2|h2
   ·exact absurd h2 (Dig.lt_irrefl _)
   ·exact h2)
 refine⟨by rw[e];exact hi,?_⟩
 simp only[e]
 exact⟨trivial,Js ha hx⟩
def P1 (s:List Sto) (p:Pat):Int:=if(getS s (EW p).1).isSome=true then(if p=(getS s (EW p).1).getD Pat.zero then 6 else 14)else if Ck (ids s) (BX p)=false then 19 else FP s p (EW p).1
theorem iH {s:List Sto} {p:Pat} (h0:(EW p).2=0) (hl:s.length < 400):Ic s p=if P1 s p≠0 then([],Dig.zero,P1 s p)else(J1 s ⟨(EW p).1,p⟩,(EW p).1,0):=by
 unfold Ic P1
 rw[if_neg (by simp[h0])]
 by_cases h1:(getS s (EW p).1).isSome=true
 ·rw[if_pos h1,if_pos h1]
  by_cases h2:p=(getS s (EW p).1).getD Pat.zero
  ·rw[if_pos h2,if_pos h2];rfl
  ·rw[if_neg h2,if_neg h2];rfl
 rw[if_neg h1,if_neg h1]
 by_cases h3:Ck (ids s) (BX p)=false
 ·rw[if_pos h3,if_pos h3];rfl
 rw[if_neg h3,if_neg h3]
 by_cases h4:FP s p (EW p).1≠0
 ·rw[if_pos h4,if_pos h4]
 ·rw[if_neg h4,if_neg h4,if_neg (by omega)]
theorem br {a b:Res} {R LF:List Res}:(R++a::b::LF).Perm (b::a::(R++LF)):=(BA.trans (.cons a BA)).trans (.swap _ _ _)
theorem bq {a b:Res} {R LF:List Res}:(b::a::(R++LF)).Perm (R++(b::a::LF)):=(BA.trans (.cons b BA)).symm
set_option maxHeartbeats 4000000 in
instance nx (s:List Sto) (p:Pat) (t:CZ) [hs:B0 (Cg s)] [hg:B0 (EA p=false)]:Bj Tryz.prog 68 [.slice (s.map eSto) t,.agg (Cc p)] (.tuple [.slice ((Ic s p).1.map eSto) .ro,.agg (eDig (Ic s p).2.1),.raw (.int .i64 (Ic s p).2.2)]):=⟨by
 have v:=hs.out
 have hgd:=v.close.1
 have hlen:=hgd.1
 have hgp:=hg.out
 have i2:=fun t=>Rz s t (EW p).1 v.asc (by omega)
 have i3:=fun t=>YN s t p v.asc (by omega) hgp
 have hpl:=mV s (EW p).1
 refine Aj Tryz.func68 Tryz.ntmps68 rfl (rs:= [.tmp 4,.cell 5 45,.tmp 6]) rfl rfl fun hb LF=>?_
 refine wf ?_
 refine BN fun b5=>?_
 refine wf ?_
 refine BN fun b7=>?_
 refine wo ?_
 refine AE ?_
 refine Ag 7 ?_
 refine wf ?_
 refine AN (fun h1=>?_) (fun h1=>?_)
 ·refine wf ?_
  refine Kx rfl ?_
  rw[Ic,if_pos h1]
  exact .tuple3 (.ro _ _) (.refl _) (.refl _)
 rw[iH h1 (by omega)]
 refine wf ?_
 refine BB [(32,.raw (.bool (decide ((EW p).1∈ids s∧ ¬p=(getS s (EW p).1).getD Pat.zero)))),(0,.slice (s.map eSto) t),(3,.pt (Cc p) 0),(5,.raw (.pointer (some ⟨b5,0,none⟩))),(7,.pt (eDig (EW p).1) 0),(9,.raw (.int .i64 (JR s (EW p).1:Nat))),(10,.raw (.bool (decide ((EW p).1∈ids s))))] (.box b5 45 (eDig Dig.zero)::LF) ?_ ?_
 ·refine Aw (fun hp=>?_) (fun hp=>?_)
  ·have hd:=An hp
   obtain⟨hlt,hid,hget⟩:=mW v.asc hd
   have hq0:s[JR s (EW p).1]∈s:=AO hlt
   have i4:B0 (EA s[JR s (EW p).1].patch=false):=⟨hgd.2 _ hq0⟩
   have heq:=V7 hgp (hgd.2 _ hq0) h1 (v.id _ hq0).1
   refine wf ?_
   refine⟨⟨BW (by rfl) ?_,rfl,rfl,rfl,rfl,rfl,rfl⟩,.refl _⟩
   rw[heq,hget,BO]
   generalize s[JR s (EW p).1].patch=q
   by_cases h2:p=q
   ·rw[Bh h2,Ca (fun h=>h.2 h2)];rfl
   ·rw[Ca h2,Bh ⟨hd,h2⟩];rfl
  ·have hd:=B6 hp
   refine wf ?_
   refine⟨⟨BW (by rfl) ?_,rfl,rfl,rfl,rfl,rfl,rfl⟩,.refl _⟩
   simp[hd]
 have hsome:=JT v.asc (EW p).1
 refine wf ?_
 refine DD (σ:=Unit) (fun _=>True) (fun _=> [(0,.slice (s.map eSto) t),(3,.pt (Cc p) 0),(5,.raw (.pointer (some ⟨b5,0,none⟩))),(7,.pt (eDig (EW p).1) 0),(8,.raw (.int .i64 (P1 s p))),(9,.raw (.int .i64 (JR s (EW p).1:Nat)))]) (fun _=> .box b5 45 (eDig Dig.zero)::LF) ?_ ?_
 ·refine A1 (fun h=>?_) (fun h=>?_)
  ·have eA:P1 s p=14:=by
    unfold P1;rw[hsome,if_pos (Bh h.1),if_neg h.2]
   refine wf ?_
   exact⟨(),trivial,⟨rfl,rfl,rfl,rfl,by rw[eA];rfl,rfl⟩,.refl _⟩
  refine wf ?_
  refine A1 (fun h2=>?_) (fun h2=>?_)
  ·have eA:P1 s p=6:=by
    unfold P1;rw[hsome,if_pos (Bh h2),if_pos (FH fun h3=>h ⟨h2,h3⟩)]
   refine wf ?_
   exact⟨(),trivial,⟨rfl,rfl,rfl,rfl,by rw[eA];rfl,rfl⟩,.refl _⟩
  have hns: ¬(getS s (EW p).1).isSome=true:=by rw[hsome];simpa using h2
  refine wf ?_
  refine AU (fun h3=>?_) (fun h3=>?_)
  ·have eA:P1 s p=19:=by
    unfold P1;rw[if_neg hns,if_pos (KG h3)]
   refine wf ?_
   exact⟨(),trivial,⟨rfl,rfl,rfl,rfl,by rw[eA];rfl,rfl⟩,.refl _⟩
  have eA:P1 s p=FP s p (EW p).1:=by
   unfold P1;rw[if_neg hns,if_neg (Hl h3)]
  refine wn ?_
  refine Db [1,5] (by decide+kernel) ?_
  refine Ai 0 ?_
  refine Ai 2 ?_
  refine Ai 3 ?_
  refine Ai 4 ?_
  refine Af 2 1 ?_
  refine Bn (xs:= [.tmp 26]) [] (.box b5 45 (eDig Dig.zero)::LF) (f:=104) (cs:= []) (Bu _) rfl rfl (.refl _) _ (NG s t) fun r L' ⟨m,e1,e2⟩=>?_
  subst e1;rw[e2]
  refine AE ?_
  refine Af 1 5 ?_
  refine Bn (xs:= [.tmp 27,.tmp 30]) (GU m []) (.box b5 45 (eDig Dig.zero)::LF) (f:=105) (cs:= []) (Bu _) rfl rfl (.refl _) _ (UE s hgd m [] (fun d l h=>by simp[Dr]at h) ⟨(EW p).1,p⟩ hgp) fun u L' ⟨e1,kn3,e2,hkn3⟩=>?_
  subst e1;rw[e2]
  refine AE ?_
  refine Af 0 6 ?_
  refine wo ?_
  refine AE ?_
  refine C5 (by decide+kernel) ?_
  rw[show QO s (⟨(EW p).1,p⟩:Sto).patch (⟨(EW p).1,p⟩:Sto).id=P1 s p from(XG s (EW p).1 h1).trans eA.symm]
  exact⟨(),trivial,⟨rfl,rfl,rfl,rfl,rfl,rfl⟩,.cons _ (.refl _)⟩
 intro _ _
 refine wf ?_
 refine BB [(56,.raw (.bool (decide (P1 s p=0∧400≤(s.length:Int))))),(0,.slice (s.map eSto) t),(3,.pt (Cc p) 0),(5,.raw (.pointer (some ⟨b5,0,none⟩))),(7,.pt (eDig (EW p).1) 0),(8,.raw (.int .i64 (P1 s p))),(9,.raw (.int .i64 (JR s (EW p).1:Nat)))] (.box b5 45 (eDig Dig.zero)::LF) ?_ ?_
 ·repeat' (first|(refine A1 (fun h=>?_) (fun h=>?_)<;>refine wf ?_)|(refine AN (fun h=>?_) (fun h=>?_)<;>refine wf ?_)|(refine AU (fun h=>?_) (fun h=>?_)<;>refine wf ?_)|(refine Aw (fun h=>?_) (fun h=>?_)<;>(have h2:=h;(try simp only[AJ,A8,AQ,AR]at h2);refine wf ?_)))
  all_goals (refine⟨⟨BW (by rfl) ?_,rfl,rfl,rfl,rfl,rfl,rfl⟩,.refl _⟩;first|(simp_all;done)|grind)
 refine wf ?_
 refine A1 (fun h=>?_) (fun _=>?_)
 ·omega
 refine wf ?_
 refine AN (fun h=>?_) (fun h=>?_)
 ·refine wf ?_
  refine Kx rfl ?_
  rw[if_pos h]
  exact .tuple3 (.ro _ _) (.refl _) (.refl _)
 rw[if_neg (fun h'=>h' h)]
 refine wn ?_
 refine Db [1,6,7,10] (by decide+kernel) ?_
 refine Ai 0 ?_
 refine Ai 2 ?_
 refine Ai 3 ?_
 refine Ai 4 ?_
 refine Ai 5 ?_
 refine Ai 8 ?_
 refine C3 (fuel:=5) [1,6] (by decide+kernel) (by simp) fun i hi=>?_
 simp only[AI,Ar,or_false]at hi
 rcases hi with rfl|rfl
 ·refine⟨_,rfl,?_⟩
  refine Bn (xs:= [.tmp 61]) [] (.box b5 45 (eDig Dig.zero)::LF) (f:=55) (cs:= []) (Bu _) rfl rfl (.refl _) _ (O0 s t (by omega)) fun r R0 ⟨v0,e1,hv0⟩=>?_
  subst e1
  refine AE ?_
  refine Af 4 6 ?_
  refine Jz (cs:=eSto (⟨(EW p).1,p⟩:Sto)) (.agg _) (by simp) (by decide) fun b=>?_
  refine AE ?_
  refine Af 3 7 ?_
  refine Bn (xs:= [.tmp 62,.tmp 63,.tmp 67]) (R0++ [Res.box b 47 (eSto (⟨(EW p).1,p⟩:Sto))]) (.box b5 45 (eDig Dig.zero)::LF) (f:=131) (cs:= []) (Bu _) rfl rfl (by rw[AL];exact BA.symm) _ (Sr v0 s R0 hv0 (JR s (EW p).1) hpl (by omega) b (⟨(EW p).1,p⟩:Sto)) fun r L' ⟨v2,R2,e1,hv2,e2⟩=>?_
  subst e1;rw[e2]
  refine AE ?_
  refine Af 2 9 ?_
  refine wo ?_
  refine AE ?_
  refine Af 1 10 ?_
  refine Qi (L':= .box b5 45 (eDig Dig.zero):: .box b 47 (eSto (⟨(EW p).1,p⟩:Sto))::(R2++LF)) (by rw[AL];exact br) rfl ?_ (fun h=>h)
  refine wo ?_
  refine AE ?_
  refine Af 0 11 ?_
  refine wo ?_
  refine AE ?_
  refine C5 (by decide+kernel) ?_
  have hxl:((s.take (JR s (EW p).1)++(⟨(EW p).1,p⟩:Sto)::s.drop (JR s (EW p).1)).map eSto).length≤201:=by
   simp only[AF,A7,AG,AH,Ab];omega
  refine Gz 4 hv2 ⟨by unfold maxN;omega,by unfold maxN;omega⟩ bq rfl ?_
  refine wf ?_
  refine Kx rfl ?_
  rw[Y1]
  exact .refl _
 ·refine⟨_,rfl,?_⟩
  refine Jz (cs:=eSto (⟨(EW p).1,p⟩:Sto)) (.agg _) (by simp) (by decide) fun b=>?_
  refine AE ?_
  refine Af 4 1 ?_
  refine Bn (xs:= [.tmp 61]) [] (.box b 47 (eSto (⟨(EW p).1,p⟩:Sto)):: .box b5 45 (eDig Dig.zero)::LF) (f:=55) (cs:= []) (Bu _) rfl rfl (.refl _) _ (O0 s t (by omega)) fun r R0 ⟨v0,e1,hv0⟩=>?_
  subst e1
  refine AE ?_
  refine Af 3 7 ?_
  refine Bn (xs:= [.tmp 62,.tmp 63,.tmp 67]) (R0++ [Res.box b 47 (eSto (⟨(EW p).1,p⟩:Sto))]) (.box b5 45 (eDig Dig.zero)::LF) (f:=131) (cs:= []) (Bu _) rfl rfl (by rw[AL];exact .refl _) _ (Sr v0 s R0 hv0 (JR s (EW p).1) hpl (by omega) b (⟨(EW p).1,p⟩:Sto)) fun r L' ⟨v2,R2,e1,hv2,e2⟩=>?_
  subst e1;rw[e2]
  refine AE ?_
  refine Af 2 9 ?_
  refine wo ?_
  refine AE ?_
  refine Af 1 10 ?_
  refine Qi (L':= .box b5 45 (eDig Dig.zero):: .box b 47 (eSto (⟨(EW p).1,p⟩:Sto))::(R2++LF)) (by rw[AL];exact br) rfl ?_ (fun h=>h)
  refine wo ?_
  refine AE ?_
  refine Af 0 11 ?_
  refine wo ?_
  refine AE ?_
  refine C5 (by decide+kernel) ?_
  have hxl:((s.take (JR s (EW p).1)++(⟨(EW p).1,p⟩:Sto)::s.drop (JR s (EW p).1)).map eSto).length≤201:=by
   simp only[AF,A7,AG,AH,Ab];omega
  refine Gz 4 hv2 ⟨by unfold maxN;omega,by unfold maxN;omega⟩ bq rfl ?_
  refine wf ?_
  refine Kx rfl ?_
  rw[Y1]
  exact .refl _⟩
end Go.Proofs
namespace Go.Proofs
open Go Go.Q
def y4:Chg:={ Chg.zero with kind:=1,type:=1 }
def tA:Dig:=⟨[29,5,81,176,77,171,31,168,3,84,99,177,155,5,61,168,37,109,70,193,94,5,28,98,24,204,118,247,185,184,170,220],rfl⟩
def sy:Dig:=⟨[240,168,68,31,108,233,64,210,234,68,91,7,227,21,139,135,67,203,230,233,173,209,83,239,153,132,174,43,167,0,34,187],rfl⟩
def sx:Dig:=⟨[213,83,79,138,58,73,5,36,69,187,190,214,93,193,171,28,47,86,11,254,23,204,168,89,142,6,60,190,106,212,44,43],rfl⟩
theorem lV {r:Repo} {n:Str} {b:Brn} (hb:r.branches.getD (Bw Brn.name r.branches n).toNat Brn.zero=b):KV r n=CU r.pool b.ids:=by unfold KV;rw[hb]
theorem ZI.set_view {r:Repo} (v:ZI r) {n:Str} (h: ¬Bw Brn.name r.branches n < 0):EC r n=some (KV r n)∧U5 (KV r n) r.pool∧EN n=true∧(∀ t∈r.tags,n≠t.name):=by
 obtain⟨b,hb,e,hg⟩:=Yi h
 rw[lV hg]
 subst e
 have hv:=VX v.ascB hb
 exact⟨hv,v.viewS hv,(v.okB b hb).name,fun t ht=>(v.okT t ht).new b hb⟩
theorem U5.of_isU {p q u:List Sto} (vp:Cg p) (vq:Cg q) (h:XA p q u) (hl:p.length+q.length≤200):U5 p u∧U5 q u:=
 have vu:=vp.union vq h hl
 ⟨⟨vp,vu,fun x hx=>(h.mem x).2 (.inl hx)⟩,⟨vq,vu,fun x hx=>(h.mem x).2 (.inr hx)⟩⟩
theorem ZR {a b:List Sto} (ha:Eo (ids a)) (hb:Eo (ids b)) (hl:a.length+b.length≤400) (h:(DN a b).2=0):XA a b (DN a b).1:=by
 by_cases hc:l4 a b
 ·obtain⟨u,e,i⟩:=dX ha hb hl hc
  rw[e];exact i
 ·rw[Zk ha hc]at h;cases h
theorem U5.len {p q:List Sto} (h:U5 p q):p.length≤q.length:=by
 have h1:=FJ h.vp.asc.nodup h.idsS
 rwa [E6,E6]at h1
theorem ZI.cur_view {r:Repo} (v:ZI r): ∃ s,EC r r.current=some s:=by
 obtain⟨b,hb,e⟩:=v.cur
 exact⟨_,e ▸ VX v.ascB hb⟩
theorem eE {r:Repo} {m:Str}:m∈MC r↔(∃ b∈r.branches,b.name=m)∨ ∃ t∈r.tags,t.name=m:=by
 unfold MC
 rw[Ay,AX,AX]
theorem Sg {r:Repo} {m:Str}:m∈MC r↔ ∃ s,EC r m=some s:=by
 rw[eE]
 constructor
 ·intro h
  cases hv:EC r m with
  |some s=>exact⟨s,rfl⟩
  |none=>
   rw[Rq]at hv
   rcases h with ⟨b,hb,e⟩|⟨t,ht,e⟩
   ·exact absurd e (hv.1 b hb)
   ·exact absurd e (hv.2 t ht)
 ·rintro⟨s,hs⟩
  rcases Lf hs with ⟨b,hb,e,_⟩|⟨_,t,ht,e,_⟩
  ·exact .inl ⟨b,hb,e⟩
  ·exact .inr ⟨t,ht,e⟩
theorem RA {α:Type} (f:α→List Dig) {d:Dig}: ∀ {l:List α} {a:List Dig},d∈l.foldl (fun a n=>C9 a (f n)) a↔d∈a∨ ∃ n∈l,d∈f n
 | [],a=>by simp
 |x::l,a=>by
  rw[ED,RA f (l:=l),EO]
  simp only[AI,exists_eq_or_imp,or_assoc]
theorem aJ {r:Repo} {d:Dig}:d∈Jl r↔ ∃ m s,EC r m=some s∧d∈ids s:=by
 unfold Jl
 rw[RA]
 constructor
 ·rintro(h|⟨n,hn,h⟩)
  ·cases h
  ·obtain⟨s,hs⟩:=Sg.1 hn
   rw[hs]at h
   exact⟨n,s,hs,h⟩
 ·rintro⟨m,s,hs,h⟩
  exact .inr ⟨m,Sg.2 ⟨s,hs⟩,by rw[hs];exact h⟩
end Go.Proofs
namespace Go.Q
open Go
section
variable {P:Program} {N:Nat} {all:Array Oper} {K:Env→List Res→Prop} {fl:List Bool} {os:List Oper} {ρ:Env} {L:List Res} {Q:PPost} {c:Code} {d:Nat} {ty:TypeId} {pos:String} {af:Array Edge} {T KT ET:Nat}
end
section
variable {P:Program} {N:Nat} {all:Array Oper} {K:Env→List Res→Prop} {fl:List Bool} {os:List Oper} {ρ:Env} {L:List Res} {d:Nat} {ty:TypeId} {pos:String} {af:Array Edge}
variable {κ α:Type} [DecidableEq κ] {ek:κ→PV} {ev:α→PV} {T KT ET:Nat}
end
end Go.Q
namespace Go.Proofs
open Go Go.Q
attribute [local irreducible] EB AW B2 FW
theorem Uf {s:List Sto} (v:Cg s) {x:Sto} (hx:x∈s):(BX x.patch).length≤200:=by
 have h1:=FJ (SP x.patch).nodup (fun d hd=>v.close.2 x hx d hd)
 have:=v.close.1.1
 rw[E6]at h1
 omega
instance tR (s:List Sto) (p q:Dig) (t:CZ) [hs:B0 (Cg s)]:Bj Tryz.prog 117 [.slice (s.map eSto) t,.agg (eDig p),.agg (eDig q)] (.raw (.bool (Gl s p q))):=⟨by
 have v:=hs.out
 have cx:=fun t u=>ZD s [p] t u (hl:=⟨by simp⟩)
 rw[v.knows]
 refine Aj Tryz.func117 Tryz.ntmps117 rfl (rs:= [.tmp 6]) rfl rfl fun hb LF=>?_
 refine wf ?_
 refine Aw (fun hp=>?_) (fun hp=>?_)
 ·refine wf ?_
  refine Al (.of_eq ?_)
  rw[hp];rfl
 ·refine wf ?_
  refine Al (.of_eq ?_)
  rw[hp];rfl⟩
instance sH (s:List Sto) (p q:Dig) (t:CZ) [hs:B0 (KN s)]:Bj Tryz.prog 172 [.slice (s.map eSto) t,.agg (eDig p),.agg (eDig q)] (.raw (.bool (Gl s p q))):=⟨by
 refine Aj Tryz.func172 Tryz.ntmps172 rfl (rs:= [.tmp 6]) rfl rfl fun hb LF=>?_
 unfold Gl
 refine wf ?_
 repeat' (first|(refine A1 (fun h=>?_) (fun h=>?_)<;>refine wf ?_)|(refine AN (fun h=>?_) (fun h=>?_)<;>refine wf ?_)|(refine AU (fun h=>?_) (fun h=>?_)<;>refine wf ?_)|(refine Aw (fun h=>?_) (fun h=>?_)<;>(have h2:=h;(try simp only[AJ,A8,AQ,AR]at h2);refine wf ?_)))
 all_goals (refine Al (.of_eq ?_);first|(simp_all;done)|grind)⟩
end Go.Proofs
namespace Go.Proofs
open Go Go.Q
end Go.Proofs
