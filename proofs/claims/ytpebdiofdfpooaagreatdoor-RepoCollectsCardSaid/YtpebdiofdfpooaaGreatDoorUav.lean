/- Contracts: the reference's layer 36: names dropped, patches added and removed. -/
import Derived.Test.YtpebdiofdfpooaaGreatDoorUau
import Derived.Test.YtpebdiofdfpooaaGreatDoorUas
import Derived.Test.YtpebdiofdfpooaaGreatDoorUaq
import Derived.Test.YtpebdiofdfpooaaGreatDoorUah
import Derived.Test.YtpebdiofdfpooaaGreatDoorRows
import Derived.LaidMore
import Derived.Stop.Joined
import Derived.Test.YtpebdiofdfpooaaGreatDoorCards
import Derived.Test.YtpebdiofdfpooaaGreatDoorTie
set_option linter.unusedSimpArgs false
set_option linter.unusedVariables false
set_option maxHeartbeats 8000000
namespace Go.Proofs
open Go Go.Q
attribute [local irreducible] EG AY H2 B2 FZ
theorem PZ (r:Repo) (hlb:r.branches.length≤1000) (hlt:r.tags.length≤1000):Bl Tryz.prog 24 [.agg (Ay r)] (.slice ((Ha r).map eS) .ro):=⟨by
 refine Ak Tryz.func24 Tryz.ntmps24 rfl (rs:= [.tmp 2]) rfl rfl fun hb LF=>?_
 unfold Ha
 refine wf ?_
 refine Ee 1 ?_
 refine AW (σ:=Nat × CW) (fun z=>z.1≤r.branches.length) (fun z=>r.branches.length - z.1) (fun z=> [(1,.pt (Ay r) 0),(3,.slice (((r.branches.take z.1).map (·.name)).map eS) z.2),(4,.raw (.int .i64 z.1))]) (fun z=> .tok z.2 ((r.branches.take z.1).map (·.name)).length 1::LF) (0,.nil) (by simp) ⟨rfl,rfl,rfl⟩ (.refl _) ?_
 rintro⟨k,u⟩ hk
 dsimp only at hk ⊢
 refine wf ?_
 refine A1 (fun hc=>?_) (fun hc=>?_)
 ·have hl:k < r.branches.length:=by omega
  have e1:(r.branches.take (k+1)).map (·.name)=(r.branches.take k).map (·.name)++ [r.branches[k].name]:=by rw[A6 hl,Az];rfl
  have e2:((r.branches.take k).map (·.name)).length≤1000:=by rw[AR,AV];omega
  generalize (r.branches.take k).map (·.name)=A at e1 e2 ⊢
  refine Xw fun u'=>?_
  refine⟨(k+1,u'),by dsimp only;omega,by dsimp only;omega,⟨rfl,?_,rfl⟩,?_⟩
  ·dsimp only;rw[e1];rfl
  ·dsimp only;rw[e1];exact .refl _
 rw[AA (by omega)]
 have e0:(r.branches.map (·.name)).length≤1000:=by rw[AR];exact hlb
 generalize r.branches.map (·.name)=A0 at e0 ⊢
 clear hc hk
 refine wf ?_
 refine AW (σ:=Nat × CW) (fun z=>z.1≤r.tags.length) (fun z=>r.tags.length - z.1) (fun z=> [(1,.pt (Ay r) 0),(3,.slice ((A0++(r.tags.take z.1).map (·.name)).map eS) z.2),(5,.raw (.int .i64 z.1))]) (fun z=> .tok z.2 (A0++(r.tags.take z.1).map (·.name)).length 1::LF) (0,u) (by simp) ⟨rfl,by dsimp only;rw[uE,CY,B6];rfl,rfl⟩ (by dsimp only;rw[uE,CY,B6];exact .refl _) ?_
 rintro⟨k,u⟩ hk
 dsimp only at hk ⊢
 refine wf ?_
 refine A1 (fun hc=>?_) (fun hc=>?_)
 ·have hl:k < r.tags.length:=by omega
  have e1:A0++(r.tags.take (k+1)).map (·.name)=(A0++(r.tags.take k).map (·.name))++ [r.tags[k].name]:=by rw[A6 hl,Az,AJ];rfl
  have e2:(A0++(r.tags.take k).map (·.name)).length≤2000:=by rw[A8,AR,AV];omega
  generalize A0++(r.tags.take k).map (·.name)=A at e1 e2 ⊢
  refine Xw fun u'=>?_
  refine⟨(k+1,u'),by dsimp only;omega,by dsimp only;omega,⟨rfl,?_,rfl⟩,?_⟩
  ·dsimp only;rw[e1];rfl
  ·dsimp only;rw[e1];exact .refl _
 ·rw[AA (by omega)]
  refine wf ?_
  exact Ah (.ro _ _)⟩
end Go.Proofs
namespace Go.Proofs
open Go Go.Q
theorem Ey.self {p:List Sto} (v:C7 p):Ey p p:=⟨v,v,fun _ h=>h⟩
theorem pH {r:Repo} (v:H4 r) {a:Deed} (hp:EE a.patch=false) (hs:Dc a.set) (hl:2*r.pool.length+1≤200) (hl2:r.pool.length+a.set.length≤200) (h:(SR r a).2=0) (hk1:1≤a.kind) (hk7:a.kind≤7):
  Ey r.pool (SR r a).1.pool∧(∀ y∈(SR r a).1.pool,y∈r.pool∨a.kind=4∨(a.kind=6∧y∈a.set))∧(a.kind=4→ ∃ x,∀ y∈(SR r a).1.pool,y∈r.pool∨y=x):=by
 have same: ∀ {r':Repo},r'.pool=r.pool→a.kind≠4→Ey r.pool r'.pool∧(∀ y∈r'.pool,y∈r.pool∨a.kind=4∨(a.kind=6∧y∈a.set))∧(a.kind=4→ ∃ x,∀ y∈r'.pool,y∈r.pool∨y=x):=fun e hk=>by
  rw[e]
  exact⟨.self v.pool,fun y hy=> .inl hy,fun h=>absurd h hk⟩
 unfold SR at h ⊢
 split at h
 ·rename_i hk
  rw[if_pos hk]
  obtain⟨s,e1,e2,e3,e4,e5⟩:=UC v h
  exact same e4 (by omega)
 rename_i hk1
 rw[if_neg hk1]
 split at h
 ·rename_i hk
  rw[if_pos hk]
  exact same (U1 v h).2.1 (by omega)
 rename_i hk2
 rw[if_neg hk2]
 split at h
 ·rename_i hk
  rw[if_pos hk]
  exact same (Sf v h).2.1 (by omega)
 rename_i hk3
 rw[if_neg hk3]
 split at h
 ·rename_i hk
  rw[if_pos hk]
  obtain⟨s,e1,e2,hf,vs,e3,e4,hu,e5,e6⟩:=SV v hp hl h
  refine⟨⟨v.pool,e4.pool,fun x hx=>(hu.mem x).2 (.inl hx)⟩,fun y _=> .inr (.inl hk),fun _=>⟨⟨(EF a.patch).1,a.patch⟩,fun y hy=>?_⟩⟩
  rcases(hu.mem y).1 hy with hy|hy
  ·exact .inl hy
  ·rcases GJ.1 hy with e|hy
   ·exact .inr e
   ·exact .inl (e2.sub y hy)
 rename_i hk4
 rw[if_neg hk4]
 split at h
 ·rename_i hk
  rw[if_pos hk]
  obtain⟨s,w,e1,e2,hd,er,hw,hm,e3,e4,e5⟩:=PN v h
  exact same (by rw[e4]) (by omega)
 rename_i hk5
 rw[if_neg hk5]
 split at h
 ·rename_i hk
  rw[if_pos hk]
  obtain⟨b,w,hb,eb,e1,vs,hu,s2,s1,em,hw,sw,e3,e4,e5⟩:=Gy v hs hl2 h
  refine⟨s1,fun y hy=>?_,fun h=>by omega⟩
  rcases(hu.mem y).1 hy with hy|hy
  ·exact .inl hy
  ·exact .inr (.inr ⟨hk,hy⟩)
 rename_i hk6
 rw[if_neg hk6]
 rw[if_pos (by omega)]at h ⊢
 obtain⟨s,e1,e2,e3,e4,e5⟩:=WY v h
 exact same e4 (by omega)
structure S4 (r:Repo) (n:Str) (s:List Sto):Prop where
 ok:H4 r
 view:C6 r n=some s
 no: ∀ b∈r.branches,b.name≠n
theorem S4.start {r:Repo} (v:H4 r) {n:Str} (h:(NM r n []).2=0): ∃ s,C6 r r.current=some s∧S4 (NM r n []).1 n s∧(NM r n []).1.pool=r.pool:=by
 obtain⟨s,e1,e2,e3,e4,e5⟩:=WY v h
 refine⟨s,e1,⟨e3,by rw[e5,if_pos rfl],fun b hb=>?_⟩,e4⟩
 have hb1:(NM r n []).1.branches=r.branches:=by
  have hz:EO r=0:=(DH v.pool.close.1).2 v
  unfold NM at h ⊢
  rw[if_neg (by rw[hz];simp)]at h ⊢
  split at h
  ·cases h
  rename_i h1
  rw[if_neg h1]
  split at h
  ·cases h
  rename_i h2
  rw[if_neg h2]
  split at h
  ·rename_i h3;exact absurd h h3
  rename_i h3
  rw[if_neg h3]
  split at h
  ·cases h
  rename_i h4
  rw[if_neg h4]
 rw[hb1]at hb
 exact(FP.1 e2).1 b hb
theorem S4.step {r:Repo} {n:Str} {s:List Sto} (t:S4 r n s) {a:Deed} (hp:EE a.patch=false) (hs:Dc a.set) (hl:2*r.pool.length+1≤200) (hl2:r.pool.length+a.set.length≤200) (h:(SR r a).2=0) (hd: ¬(a.kind=2∧a.name=n)):S4 (SR r a).1 n s∧(SR r a).1.pool.length≤r.pool.length+1+a.set.length:=by
 obtain⟨k1,k2,k3,k4,k5⟩:=ba t.ok hp hs hl hl2 h
 refine⟨⟨k1,?_,fun b hb e=>?_⟩,k5⟩
 ·rcases k2 n s t.view with ⟨e1,e2⟩|⟨s',e1,e2⟩
  ·exact absurd ⟨e1,e2.symm⟩ hd
  ·rw[e1,e2 fun⟨e3,h4,h6⟩=>?_]
   obtain⟨b,hb,e⟩:=k3 ⟨h4,h6⟩
   exact t.no b hb (e.trans e3.symm)
 ·rcases k4 b hb with ⟨c,hc,e2⟩|h2
  ·exact t.no c hc (e2.trans e)
  ·rw[e,t.view]at h2;cases h2
theorem ss {n:Str} (h:(SE n).2=0):H4 (SE n).1∧(SE n).1.pool= []:=by
 unfold SE at h ⊢
 split at h
 ·cases h
 rename_i h1
 rw[if_neg h1]
 have hn:EK n=true:=by simpa using h1
 dsimp only
 refine⟨⟨Sd (s:= []) (by decide+kernel),by simp,by simp,En _ _,fun b hb=>?_,List.Pairwise.nil,fun t ht=>by simp at ht,⟨⟨n,[]⟩,B1.2 rfl,rfl⟩⟩,rfl⟩
 rw[B1.1 hb]
 exact⟨hn,List.Pairwise.nil,fun d hd=>by simp at hd,fun d hd=>by simp at hd⟩
attribute [local irreducible] EG AY H2 B2 FZ
theorem H4.good {r:Repo} (v:H4 r):Dc r.pool:=v.pool.close.1
theorem H4.chk {r:Repo} (v:H4 r):EO r=0:=(DH v.good).2 v
theorem IG {r:Repo} (v:H4 r) {n:Str} {s:List Sto} (h:C6 r n=some s):N4 r n=(s,0):=by
 unfold N4
 rw[if_neg (by rw[v.chk];simp),h]
theorem eR {r:Repo} (v:H4 r) {n:Str} (h:C6 r n=none):N4 r n=([],7):=by
 unfold N4
 rw[if_neg (by rw[v.chk];simp),h]
theorem pJ {r:Repo} (v:H4 r) {a:Deed} (hk:a.kind=2) (h:(SR r a).2=0):C6 (SR r a).1 a.name=none:=by
 unfold SR at h ⊢
 rw[if_neg (by omega),if_pos hk]at h ⊢
 rw[(U1 v h).2.2,if_pos rfl]
theorem PK (r:Repo) (x:Deed):Bl Tryz.prog 9 [.agg (Ay r),.agg (DM x)] (.raw (.bool true)):=⟨by
 refine Ak Tryz.func9 Tryz.ntmps9 rfl (rs:= [.tmp 4]) rfl rfl fun hb LF=>?_
 refine wf ?_
 refine B0 [(20,.raw (.bool ((!Qc r||Pa x)))),(2,.pt (Ay r) 0),(3,.pt (DM x) 0)] (LF) ?_ ?_
 ·repeat' (first|(refine A1 (fun h=>?_) (fun h=>?_)<;>refine wf ?_)|(refine AL (fun h=>?_) (fun h=>?_)<;>refine wf ?_)|(refine AO (fun h=>?_) (fun h=>?_)<;>refine wf ?_)|(refine An (fun h=>?_) (fun h=>?_)<;>(have h2:=h;(try simp only[AB,A7,AG,AF]at h2);refine wf ?_)))
  all_goals (refine⟨⟨BO (by rfl) ?_,rfl,rfl⟩,.refl _⟩;first|(simp_all;done)|(simp_all;omega)|grind)
 refine wf ?_
 refine AO (fun h=>?_) (fun h=>?_)
 ·refine wf ?_
  exact Ah (.refl _)
 obtain⟨h1,h2⟩:=Bc.1 h
 obtain⟨v,h8,hb8,ht8⟩:=Ko (r:=r) (by simpa using h1)
 obtain⟨hp,hs,hs8⟩:=LG h2
 have c1:=Xc r x v.good hp hs (by omega) (by omega)
 have c2:=PZ r (by omega) (by omega)
 have hlaw:=ba v hp hs (by omega) (by omega)
 have hdr:=fun hk=>pJ v (a:=x) hk
 generalize SR r x=z at c1 hlaw hdr
 obtain⟨q,e⟩:=z
 dsimp only at c1 hlaw hdr
 refine wz fun b5=>?_
 refine Ag 5 ?_
 refine wf ?_
 refine AL (fun h=>?_) (fun h=>?_)
 ·refine wf ?_
  exact Ah (.refl _)
 have h:e=0:=by simpa using h
 subst h
 obtain⟨vq,k2,k3,k4,k5⟩:=hlaw rfl
 have hnv:=fun m=>(JK (r:=r) (m:=m)).1
 have hnl:(Ha r).length≤16:=by unfold Ha;rw[A8,AR,AR];omega
 generalize Ha r=nl at c2 hnv hnl
 refine wf ?_
 refine AW (σ:=Nat) (fun k=>k≤nl.length) (fun k=>nl.length - k) (fun k=> [(2,.pt (Ay r) 0),(3,.pt (DM x) 0),(5,.pt (Ay q) 0),(32,.slice (nl.map eS) .ro),(33,.raw (.int .i64 nl.length)),(34,.raw (.int .i64 k))]) (fun _=>LF) 0 (by simp) ⟨rfl,rfl,rfl,rfl,rfl,rfl⟩ (.refl _) ?_
 rintro k hk
 refine wf ?_
 refine A1 (fun hc=>?_) (fun hc=>?_)
 ·have hlt:k < nl.length:=by omega
  obtain⟨s,hsv⟩:=hnv nl[k] (AK hlt)
  have c3:=Hi r nl[k] v.good
  rw[IG v hsv]at c3
  have k2:=k2 nl[k] s hsv
  have c4:=Hi q nl[k] vq.good
  have hq:(∃ s',N4 q nl[k]=(s',0)∧(¬(nl[k]=x.name∧4≤x.kind∧x.kind≤6)→s'=s))∨(N4 q nl[k]=([],7)∧x.kind=2∧nl[k]=x.name):=by
   cases hv:C6 q nl[k]with
   |none=>
    refine .inr ⟨eR vq hv,?_⟩
    rcases k2 with h|⟨s',h,_⟩
    ·exact h
    ·rw[hv]at h;cases h
   |some s'=>
    refine .inl ⟨s',IG vq hv,fun hn=>?_⟩
    rcases k2 with ⟨h,hm⟩|⟨s2,h,hh⟩
    ·rw[hm,hdr h rfl]at hv;cases hv
    ·rw[hv]at h
     cases h
     exact hh hn
  dsimp only at c3
  clear k2 hsv hnv
  refine wf ?_
  generalize nl[k]=nm at c3 c4 hq ⊢
  refine B0 [(9,.raw (.bool (decide (nm=x.name∧4≤x.kind∧x.kind≤6)))),(2,.pt (Ay r) 0),(3,.pt (DM x) 0),(5,.pt (Ay q) 0),(8,.str nm),(32,.slice (nl.map eS) .ro),(33,.raw (.int .i64 nl.length)),(34,.raw (.int .i64 k))] LF ?_ ?_
  ·repeat' (first|(refine A1 (fun h=>?_) (fun h=>?_)<;>refine wf ?_)|(refine AL (fun h=>?_) (fun h=>?_)<;>refine wf ?_)|(refine AO (fun h=>?_) (fun h=>?_)<;>refine wf ?_)|(refine An (fun h=>?_) (fun h=>?_)<;>(have h2:=h;(try simp only[AB,A7,AG,AF]at h2);refine wf ?_)))
   all_goals (refine⟨⟨BO (by rfl) ?_,rfl,rfl,rfl,rfl,rfl,rfl,rfl⟩,.refl _⟩;clear hq c3 c4;first|(simp_all;done)|(simp_all;omega)|grind)
  rcases hq with ⟨s',hq1,hq2⟩|⟨hq1,hq2,hq3⟩
  ·rw[hq1]at c4
   dsimp only at c4
   refine wf ?_
   refine B0 [(94,.raw (.bool false)),(2,.pt (Ay r) 0),(3,.pt (DM x) 0),(5,.pt (Ay q) 0),(32,.slice (nl.map eS) .ro),(33,.raw (.int .i64 nl.length)),(34,.raw (.int .i64 k))] LF ?_ ?_
   ·repeat' (first|(refine A1 (fun h=>?_) (fun h=>?_)<;>refine wf ?_)|(refine AL (fun h=>?_) (fun h=>?_)<;>refine wf ?_)|(refine AO (fun h=>?_) (fun h=>?_)<;>refine wf ?_)|(refine An (fun h=>?_) (fun h=>?_)<;>(have h2:=h;(try simp only[AB,A7,AG,AF]at h2);refine wf ?_)))
    all_goals (refine⟨⟨BO (by rfl) ?_,rfl,rfl,rfl,rfl,rfl,rfl⟩,.refl _⟩;clear c3 c4;first|(simp_all;done)|(simp_all;omega)|grind)
   refine wf ?_
   exact⟨k+1,by omega,by dsimp only;omega,⟨rfl,rfl,rfl,rfl,rfl,rfl⟩,.refl _⟩
  ·rw[hq1]at c4
   dsimp only at c4
   refine wf ?_
   refine B0 [(94,.raw (.bool false)),(2,.pt (Ay r) 0),(3,.pt (DM x) 0),(5,.pt (Ay q) 0),(32,.slice (nl.map eS) .ro),(33,.raw (.int .i64 nl.length)),(34,.raw (.int .i64 k))] LF ?_ ?_
   ·repeat' (first|(refine A1 (fun h=>?_) (fun h=>?_)<;>refine wf ?_)|(refine AL (fun h=>?_) (fun h=>?_)<;>refine wf ?_)|(refine AO (fun h=>?_) (fun h=>?_)<;>refine wf ?_)|(refine An (fun h=>?_) (fun h=>?_)<;>(have h2:=h;(try simp only[AB,A7,AG,AF]at h2);refine wf ?_)))
    all_goals (refine⟨⟨BO (by rfl) ?_,rfl,rfl,rfl,rfl,rfl,rfl⟩,.refl _⟩;clear c3 c4;first|(simp_all;done)|(simp_all;omega)|grind)
   refine wf ?_
   exact⟨k+1,by omega,by dsimp only;omega,⟨rfl,rfl,rfl,rfl,rfl,rfl⟩,.refl _⟩
 ·refine wf ?_
  exact Ah (.refl _)⟩
theorem bJ {α:Type} {l:List α} (h:l.Nodup) {x:α} (hx: ∀ y∈l,y=x):l.length≤1:=by
 match l,h,hx with
 | [],_,_=>simp
 | [_],_,_=>simp
 |a::b::l,h,hx=>
  have e1:=hx a (by simp)
  have e2:=hx b (by simp)
  simp[e1,e2]at h
theorem bq {s:List Sto} (h:Ej (ids s)):s.Nodup:=by
 have:=h.nodup
 unfold ids at this
 exact(List.pairwise_map.1 this).imp fun h e=>h (congrArg _ e)
theorem UR (r:Repo) (x:Deed):Bl Tryz.prog 10 [.agg (Ay r),.agg (DM x)] (.raw (.bool true)):=⟨by
 refine Ak Tryz.func10 Tryz.ntmps10 rfl (rs:= [.tmp 4]) rfl rfl fun hb LF=>?_
 refine wf ?_
 refine B0 [(20,.raw (.bool ((!Qc r||Pa x)))),(2,.pt (Ay r) 0),(3,.pt (DM x) 0)] (LF) ?_ ?_
 ·repeat' (first|(refine A1 (fun h=>?_) (fun h=>?_)<;>refine wf ?_)|(refine AL (fun h=>?_) (fun h=>?_)<;>refine wf ?_)|(refine AO (fun h=>?_) (fun h=>?_)<;>refine wf ?_)|(refine An (fun h=>?_) (fun h=>?_)<;>(have h2:=h;(try simp only[AB,A7,AG,AF]at h2);refine wf ?_)))
  all_goals (refine⟨⟨BO (by rfl) ?_,rfl,rfl⟩,.refl _⟩;first|(simp_all;done)|(simp_all;omega)|grind)
 refine wf ?_
 refine AO (fun h=>?_) (fun h=>?_)
 ·refine wf ?_
  exact Ah (.refl _)
 obtain⟨h1,h2⟩:=Bc.1 h
 obtain⟨v,h8,hb8,ht8⟩:=Ko (r:=r) (by simpa using h1)
 obtain⟨hp,hs,hs8⟩:=LG h2
 have c1:=Xc r x v.good hp hs (by omega) (by omega)
 have hlaw:=pH v hp hs (by omega) (by omega)
 generalize SR r x=z at c1 hlaw
 obtain⟨q,e⟩:=z
 dsimp only at c1 hlaw
 refine wz fun b5=>?_
 refine Ag 5 ?_
 refine wf ?_
 refine B0 [(39,.raw (.bool (decide (e≠0∨x.kind < 1∨7 < x.kind)))),(2,.pt (Ay r) 0),(3,.pt (DM x) 0),(5,.pt (Ay q) 0)] (LF) ?_ ?_
 ·repeat' (first|(refine A1 (fun h=>?_) (fun h=>?_)<;>refine wf ?_)|(refine AL (fun h=>?_) (fun h=>?_)<;>refine wf ?_)|(refine AO (fun h=>?_) (fun h=>?_)<;>refine wf ?_)|(refine An (fun h=>?_) (fun h=>?_)<;>(have h2:=h;(try simp only[AB,A7,AG,AF]at h2);refine wf ?_)))
  all_goals (refine⟨⟨BO (by rfl) ?_,rfl,rfl,rfl⟩,.refl _⟩;first|(simp_all;done)|(simp_all;omega)|grind)
 refine wf ?_
 refine A1 (fun h=>?_) (fun h=>?_)
 ·refine wf ?_
  exact Ah (.refl _)
 have he:e=0:=by omega
 have hk1:1≤x.kind:=by omega
 have hk7:x.kind≤7:=by omega
 clear h
 obtain⟨sp,sm,sx⟩:=hlaw he hk1 hk7
 have hql:=sp.vq.close.1.1
 obtain⟨mr,hmr⟩: ∃ mr:Nat→Nat,∀ k,mr k=((q.pool.take k).filter fun y=>decide (y.id∉ids r.pool)).length:=⟨_,fun _=>rfl⟩
 have hm0:mr 0=0:=by rw[hmr];rfl
 have hms: ∀ k (hk:k < q.pool.length),mr (k+1)=if q.pool[k].id∈ids r.pool then mr k else mr k+1:=fun k hk=>by
  rw[hmr,hmr,A6 hk,Du,A8]
  by_cases h:q.pool[k].id∈ids r.pool<;>simp[h]
 have hml: ∀ k,mr k≤q.pool.length:=fun k=>by
  rw[hmr]
  have h1:=Cv (fun y:Sto=>decide (y.id∉ids r.pool)) (q.pool.take k)
  have h2:(q.pool.take k).length≤q.pool.length:=by rw[AV];omega
  omega
 have hme:q.pool.length=r.pool.length+mr q.pool.length:=by
  rw[hmr,Cu]
  exact QP sp.vp sp
 have hm1:x.kind=4→mr q.pool.length≤1:=fun h4=>by
  obtain⟨w,hw⟩:=sx h4
  rw[hmr,Cu]
  refine bJ (x:=w) ((bq sp.vq.asc).filter _) fun y hy=>?_
  obtain⟨hy1,hy2⟩:=EI.1 hy
  rcases hw y hy1 with h|h
  ·exact absurd (AU.2 ⟨y,h,rfl⟩) (Ab hy2)
  ·exact h
 clear hmr sx hlaw
 refine wf ?_
 refine AW (σ:=Nat) (fun k=>k≤q.pool.length) (fun k=>q.pool.length - k) (fun k=> [(2,.pt (Ay r) 0),(3,.pt (DM x) 0),(5,.pt (Ay q) 0),(7,.raw (.int .i64 (mr k:Int))),(42,.slice (q.pool.map eSto) .ro),(43,.raw (.int .i64 q.pool.length)),(44,.raw (.int .i64 k))]) (fun _=>LF) 0 (by simp) ⟨rfl,rfl,rfl,by rw[hm0];rfl,rfl,rfl,rfl⟩ (.refl _) ?_
 rintro k hk
 refine wf ?_
 refine A1 (fun hc=>?_) (fun hc=>?_)
 ·have hlt:k < q.pool.length:=by omega
  have hmsk:=hms k hlt
  have hmk:=hml k
  have hyq:=AK hlt
  have hin:q.pool[k].id∈ids r.pool→getS r.pool q.pool[k].id=some q.pool[k].patch:=fun h=>v.pool.getS (sp.mem hyq h)
  have hout:q.pool[k].id∉ids r.pool→getS r.pool q.pool[k].id=none:=fun h=>by
   have:=SP r.pool q.pool[k].id
   cases hg:getS r.pool q.pool[k].id with
   |none=>rfl
   |some p=>rw[hg]at this;simp[h]at this
  have hnew:q.pool[k].id∉ids r.pool→x.kind≠4→x.kind=6∧(getS x.set q.pool[k].id).isSome=true:=fun h h4=>by
   rcases sm _ hyq with h5|h5|⟨h5,h6⟩
   ·exact absurd (AU.2 ⟨_,h5,rfl⟩) h
   ·exact absurd h5 h4
   ·refine⟨h5,?_⟩
    rw[SP]
    exact BL (AU.2 ⟨_,h6,rfl⟩)
  clear sm hms hml hme hm1
  refine wz fun b9=>?_
  refine Ag 9 ?_
  generalize q.pool[k]=y at hmsk hin hout hnew
  have c3:=fun t=>Xn r.pool y.id t
  have c4:=fun t=>Xn x.set y.id t
  unfold oG at c3 c4
  by_cases hyi:y.id∈ids r.pool
  ·rw[hin hyi]at c3
   rw[if_pos hyi]at hmsk
   dsimp only[Option.getD_some,Option.isSome_some]at c3
   clear hin hout hnew
   generalize getS x.set y.id=w at c4
   refine wz fun b10=>?_
   refine Ag 10 ?_
   refine wz fun b12=>?_
   refine Ag 12 ?_
   refine wf ?_
   refine B0 [(89,.raw (.bool false)),(2,.pt (Ay r) 0),(3,.pt (DM x) 0),(5,.pt (Ay q) 0),(7,.raw (.int .i64 (mr k:Int))),(11,.raw (.bool true)),(42,.slice (q.pool.map eSto) .ro),(43,.raw (.int .i64 q.pool.length)),(44,.raw (.int .i64 k))] LF ?_ ?_
   ·repeat' (first|(refine A1 (fun h=>?_) (fun h=>?_)<;>refine wf ?_)|(refine AL (fun h=>?_) (fun h=>?_)<;>refine wf ?_)|(refine AO (fun h=>?_) (fun h=>?_)<;>refine wf ?_)|(refine An (fun h=>?_) (fun h=>?_)<;>(have h2:=h;(try simp only[AB,A7,AG,AF]at h2);refine wf ?_)))
    all_goals (refine⟨⟨BO (by rfl) ?_,rfl,rfl,rfl,rfl,rfl,rfl,rfl,rfl⟩,.refl _⟩;clear c3 c4;first|(simp_all;done)|grind)
   refine wf ?_
   exact⟨k+1,by omega,by dsimp only;omega,⟨rfl,rfl,rfl,by rw[hmsk];rfl,rfl,rfl,rfl⟩,.refl _⟩
  ·rw[hout hyi]at c3
   rw[if_neg hyi]at hmsk
   dsimp only[Option.getD_none,Option.isSome_none]at c3
   have hnew:=hnew hyi
   clear hin hout
   generalize getS x.set y.id=w at c4 hnew
   refine wz fun b10=>?_
   refine Ag 10 ?_
   refine wz fun b12=>?_
   refine Ag 12 ?_
   refine wf ?_
   refine B0 [(89,.raw (.bool false)),(2,.pt (Ay r) 0),(3,.pt (DM x) 0),(5,.pt (Ay q) 0),(7,.raw (.int .i64 (mr k:Int))),(11,.raw (.bool false)),(42,.slice (q.pool.map eSto) .ro),(43,.raw (.int .i64 q.pool.length)),(44,.raw (.int .i64 k))] LF ?_ ?_
   ·repeat' (first|(refine A1 (fun h=>?_) (fun h=>?_)<;>refine wf ?_)|(refine AL (fun h=>?_) (fun h=>?_)<;>refine wf ?_)|(refine AO (fun h=>?_) (fun h=>?_)<;>refine wf ?_)|(refine An (fun h=>?_) (fun h=>?_)<;>(have h2:=h;(try simp only[AB,A7,AG,AF]at h2);refine wf ?_)))
    all_goals (refine⟨⟨BO (by rfl) ?_,rfl,rfl,rfl,rfl,rfl,rfl,rfl,rfl⟩,.refl _⟩;clear c3 c4;first|(simp_all;done)|grind)
   refine wf ?_
   exact⟨k+1,by omega,by dsimp only;omega,⟨rfl,rfl,rfl,by rw[hmsk];rfl,rfl,rfl,rfl⟩,.refl _⟩
 ·have hkk:k=q.pool.length:=by omega
  subst hkk
  clear hms hml sm sp hc hk
  generalize mr q.pool.length=m at hme hm1 ⊢
  refine wf ?_
  refine B0 [(4,.raw (.bool true))] LF ?_ ?_
  ·repeat' (first|(refine A1 (fun h=>?_) (fun h=>?_)<;>refine wf ?_)|(refine AL (fun h=>?_) (fun h=>?_)<;>refine wf ?_)|(refine AO (fun h=>?_) (fun h=>?_)<;>refine wf ?_)|(refine An (fun h=>?_) (fun h=>?_)<;>(have h2:=h;(try simp only[AB,A7,AG,AF]at h2);refine wf ?_)))
   all_goals (refine⟨BO (by rfl) ?_,.refl _⟩;first|(simp_all;done)|(simp_all;omega)|grind)
  refine wf ?_
  exact Ah (.refl _)⟩
theorem UU (r:Repo) (n:Str) (s t:List Sto) (ta tb:CW):Bl Tryz.prog 6 [.agg (Ay r),.str n,.slice (s.map eSto) ta,.slice (t.map eSto) tb] (.raw (.bool true)):=⟨by
 refine Ak Tryz.func6 Tryz.ntmps6 rfl (rs:= [.tmp 8]) rfl rfl fun hb LF=>?_
 have hn:=(hb (.str n) (by simp)).str_len
 clear hb
 refine wf ?_
 refine B0 [(44,.raw (.bool ((!Qc r||decide (60 < (n.length:Int))||!QF s||!QF t)))),(1,.str n),(2,.slice (s.map eSto) ta),(3,.slice (t.map eSto) tb),(4,.pt (Ay r) 0)] (LF) ?_ ?_
 ·repeat' (first|(refine A1 (fun h=>?_) (fun h=>?_)<;>refine wf ?_)|(refine AL (fun h=>?_) (fun h=>?_)<;>refine wf ?_)|(refine AO (fun h=>?_) (fun h=>?_)<;>refine wf ?_)|(refine An (fun h=>?_) (fun h=>?_)<;>(have h2:=h;(try simp only[AB,A7,AG,AF]at h2);refine wf ?_)))
  all_goals (refine⟨⟨BO (by rfl) ?_,rfl,rfl,rfl,rfl⟩,.refl _⟩;first|(simp_all;done)|(simp_all;omega)|grind)
 refine wf ?_
 refine AO (fun h=>?_) (fun h=>?_)
 ·refine wf ?_
  exact Ah (.refl _)
 simp only[Bc,AF]at h
 obtain⟨⟨⟨h1,_⟩,h2⟩,h3⟩:=h
 obtain⟨v,h8,hb8,ht8⟩:=Ko h1
 have vs:=Sd h2
 have vt:=Sd h3
 have ls:=ZR h2
 have lt:=ZR h3
 have c1:=Hi r n v.good
 have c2:=fun u=>KQ r n s u v.good vs.close.1 (by omega)
 by_cases hm:(CT r n s).2.2=0
 rotate_left
 ·generalize N4 r n=z at c1
  generalize CT r n s=y at c2 hm
  obtain⟨a,e⟩:=z
  obtain⟨b,l,f⟩:=y
  dsimp only at c1 c2 hm
  refine wz fun b11=>?_
  refine Ag 11 ?_
  refine wf ?_
  refine B0 [(65,.raw (.bool (true))),(1,.str n)] (LF) ?_ ?_
  ·repeat' (first|(refine A1 (fun h=>?_) (fun h=>?_)<;>refine wf ?_)|(refine AL (fun h=>?_) (fun h=>?_)<;>refine wf ?_)|(refine AO (fun h=>?_) (fun h=>?_)<;>refine wf ?_)|(refine An (fun h=>?_) (fun h=>?_)<;>(have h2:=h;(try simp only[AB,A7,AG,AF]at h2);refine wf ?_)))
   all_goals (refine⟨⟨BO (by rfl) ?_,rfl⟩,.refl _⟩;first|(simp_all;done)|(simp_all;omega)|grind)
  refine wf ?_
  exact Ah (.refl _)
 obtain⟨b,w,hb,eb,e1,_,hu,s2,s1,em,hw,sw,v1,_,e5⟩:=Gy v vs.close.1 (by omega) hm
 have hag:=Yy v (n:=n) vs.close.1 (by omega) hm
 have hsw:=fun h2 h3=>bF v (n:=n) vs.close.1 vt.close.1 (by omega) hm h2 h3
 have hul:=hu.len
 have vb:=(v.okB b hb).valid v.pool
 have hbi:=(v.okB b hb).ids v.pool
 have hml:=fX vb vs hw (l:=b.ids) fun d=>by rw[hbi]
 rw[IG v e1]at c1
 have hr1: ∃ a l,CT r n s=(a,l,0):=⟨(CT r n s).1,(CT r n s).2.1,by rw[←hm]⟩
 obtain⟨a,l,hr⟩:=hr1
 rw[hr]at c2 hu s2 s1 em sw v1 e5 hag hsw hul
 dsimp only at c1 c2 hu s2 s1 em sw v1 e5 hag hsw hul
 rw[←em]at hml
 have ea:=e5 n
 rw[if_pos rfl]at ea
 generalize Bt r.pool b.ids=old at c1 vb hw hml
 have vw:=v1.viewV ea
 have hol:old.length≤w.length:=by omega
 have hwl:=sw.len
 have c3:=Hi a n v1.good
 rw[IG v1 ea]at c3
 have c4:=fun t u=>Qs old s t u vb vs (by omega)
 rw[VE vb.asc vs.asc (by omega) hw]at c4
 have c5:=fun u=>KQ a n s u v1.good vs.close.1 (by omega)
 rw[hag]at c5
 have c6:=fun u=>KQ a n t u v1.good vt.close.1 (by omega)
 have c7:=fun u=>KQ r n t u v.good vt.close.1 (by omega)
 dsimp only at c3 c4 c5
 clear hu s2 s1 em sw ea e5 hb eb e1 hag hbi hw hm hr
 refine wz fun b11=>?_
 refine Ag 11 ?_
 refine wf ?_
 refine B0 [(100,.raw (.bool (false))),(1,.str n),(2,.slice (s.map eSto) ta),(3,.slice (t.map eSto) tb),(4,.pt (Ay r) 0),(11,.pt (Ay a) 0)] (LF) ?_ ?_
 ·repeat' (first|(refine A1 (fun h=>?_) (fun h=>?_)<;>refine wf ?_)|(refine AL (fun h=>?_) (fun h=>?_)<;>refine wf ?_)|(refine AO (fun h=>?_) (fun h=>?_)<;>refine wf ?_)|(refine An (fun h=>?_) (fun h=>?_)<;>(have h2:=h;(try simp only[AB,A7,AG,AF]at h2);refine wf ?_)))
  all_goals (refine⟨⟨BO (by rfl) ?_,rfl,rfl,rfl,rfl,rfl⟩,.refl _⟩;first|(simp_all;done)|(simp_all;omega)|grind)
 refine wf ?_
 refine BR fun b18=>?_
 refine wo ?_
 refine AN ?_
 refine Ag 18 ?_
 have g1:=di a
 refine wf ?_
 refine AL (fun h=>absurd rfl h) (fun _=>?_)
 have hdv:(CT r n t).2.2=0→H4 (CT r n t).1∧(CT r n t).1.pool.length≤16:=fun h=>by
  obtain⟨_,_,_,_,_,_,hu,_,_,_,_,_,v2,_⟩:=Gy v vt.close.1 (by omega) h
  have:=hu.len
  exact⟨v2,by omega⟩
 generalize CT a n t=y at c6 hsw
 generalize CT r n t=x at c7 hsw hdv
 obtain⟨c,lc,j⟩:=y
 obtain⟨d,ld,k⟩:=x
 dsimp only at c6 c7 hsw hdv
 refine wz fun b21=>?_
 refine Ag 21 ?_
 refine wf ?_
 refine BR fun b24=>?_
 refine wf ?_
 refine B0 [(143,.raw (.bool ((!decide (j=0)||!decide (k=0))))),(1,.str n),(2,.slice (s.map eSto) ta),(21,.pt (Ay c) 0),(24,.raw (.pointer (some ⟨b24,0,none⟩)))] (.box b24 27 (Ay d)::LF) ?_ ?_
 ·repeat' (first|(refine A1 (fun h=>?_) (fun h=>?_)<;>refine wf ?_)|(refine AL (fun h=>?_) (fun h=>?_)<;>refine wf ?_)|(refine AO (fun h=>?_) (fun h=>?_)<;>refine wf ?_)|(refine An (fun h=>?_) (fun h=>?_)<;>(have h2:=h;(try simp only[AB,A7,AG,AF]at h2);refine wf ?_)))
  all_goals (refine⟨⟨BO (by rfl) ?_,rfl,rfl,rfl,rfl⟩,.refl _⟩;first|(simp_all;done)|(simp_all;omega)|grind)
 refine wf ?_
 refine AO (fun h=>?_) (fun h=>?_)
 ·refine wf ?_
  exact Ah (.refl _)
 simp only[Bc,AF,AB]at h
 obtain⟨rfl,rfl⟩:=h
 obtain⟨q1,q2⟩:=hsw rfl rfl
 obtain⟨vd,hdl⟩:=hdv rfl
 have c8:=fun u=>KQ d n s u vd.good vs.close.1 (by omega)
 clear hsw hdv c6 c7
 generalize CT d n s=w at c8 q1 q2
 obtain⟨d2,l2,k2⟩:=w
 dsimp only at c8 q1 q2
 subst q1 q2
 have g2:=di c
 refine wf ?_
 exact Ah (.refl _)⟩
instance xe:Ch Tryz.prog 58 (DM Deed.zero):=Ch.of (us:=(DM Deed.zero).map zv) (by kernel_rfl) (by kernel_rfl)
theorem Wv (n:Str) (l:List Deed) (ta:CW):Bl Tryz.prog 8 [.str n,.slice (l.map DM) ta] (.raw (.bool true)):=⟨by
 have c1:=dP n
 have hne:(SE n).2=0∨(SE n).2=5:=by unfold SE;split<;>simp
 have hnv:=fun h=>ss (n:=n) h
 generalize SE n=z at c1 hne hnv
 obtain⟨r0,e⟩:=z
 dsimp only at c1 hne hnv
 refine Ak Tryz.func8 Tryz.ntmps8 rfl (rs:= [.tmp 4]) rfl rfl fun hb LF=>?_
 have hll:=(hb (.slice (l.map DM) ta) (by simp)).slice_map
 refine wf ?_
 refine BR fun b5=>?_
 refine wf ?_
 refine B0 [(26,.raw (.bool (decide (¬e=0∨12 < (l.length:Int))))),(1,.slice (l.map DM) ta),(5,.raw (.pointer (some ⟨b5,0,none⟩))),(6,.raw (.int .i64 e))] (.box b5 27 (Ay r0)::LF) ?_ ?_
 ·repeat' (first|(refine A1 (fun h=>?_) (fun h=>?_)<;>refine wf ?_)|(refine AL (fun h=>?_) (fun h=>?_)<;>refine wf ?_)|(refine AO (fun h=>?_) (fun h=>?_)<;>refine wf ?_)|(refine An (fun h=>?_) (fun h=>?_)<;>(have h2:=h;(try simp only[AB,A7,AG,AF]at h2);refine wf ?_)))
  all_goals (refine⟨⟨BO (by rfl) ?_,rfl,rfl,rfl⟩,.refl _⟩;first|(simp_all;done)|(simp_all;omega)|grind)
 refine wf ?_
 refine A1 (fun h=>?_) (fun h=>?_)
 ·refine wf ?_
  refine B0 [(4,.raw (.bool true))] LF ?_ ?_
  ·repeat' (first|(refine A1 (fun h=>?_) (fun h=>?_)<;>refine wf ?_)|(refine AL (fun h=>?_) (fun h=>?_)<;>refine wf ?_)|(refine AO (fun h=>?_) (fun h=>?_)<;>refine wf ?_)|(refine An (fun h=>?_) (fun h=>?_)<;>(have h2:=h;(try simp only[AB,A7,AG,AF]at h2);refine wf ?_)))
   all_goals (refine⟨BO (by rfl) ?_,.cons _ (.refl _)⟩;first|(simp_all;done)|(simp_all;omega)|grind)
  refine wf ?_
  exact Ah (.refl _)
 have he:e=0:=Aj.1 fun h2=>h (.inl h2)
 have hl12:l.length≤12:=by omega
 subst he
 obtain⟨v0,hp0⟩:=hnv rfl
 clear h hne hnv
 refine wf ?_
 refine AW (σ:=Nat × Repo) (fun z=>z.1≤l.length∧H4 z.2∧z.2.pool.length≤9*z.1) (fun z=>l.length - z.1) (fun z=> [(5,.raw (.pointer (some ⟨b5,0,none⟩))),(36,.slice (l.map DM) ta),(37,.raw (.int .i64 l.length)),(38,.raw (.int .i64 z.1))]) (fun z=> .box b5 27 (Ay z.2)::LF) (0,r0) ⟨by simp,v0,by dsimp only;rw[hp0];simp⟩ ⟨rfl,rfl,rfl,rfl⟩ (.refl _) ?_
 clear c1 v0 hp0
 rintro⟨k,r⟩ ⟨hk,v,hpl⟩
 dsimp only at hk v hpl ⊢
 refine wf ?_
 refine A1 (fun hc=>?_) (fun hc=>?_)
 ·have hlt:k < l.length:=by omega
  refine wz fun b8=>?_
  refine Ag 8 ?_
  generalize l[k]=a
  refine wf ?_
  refine AO (fun h=>?_) (fun h=>?_)
  ·refine wf ?_
   exact Ah (.refl _)
  obtain⟨hp,hs,hs8⟩:=LG h
  have c1:=Xc r a v.good hp hs (by omega) (by omega)
  have hlaw:=ba v hp hs (by omega) (by omega)
  generalize SR r a=z at c1 hlaw
  obtain⟨q,e⟩:=z
  dsimp only at c1 hlaw
  refine wz fun b9=>?_
  refine Ag 9 ?_
  refine wf ?_
  refine AL (fun h=>?_) (fun h=>?_)
  ·refine wf ?_
   exact⟨(k+1,r),⟨by dsimp only;omega,v,by dsimp only;omega⟩,by dsimp only;omega,⟨rfl,rfl,rfl,rfl⟩,.refl _⟩
  have he:e=0:=by simpa using h
  subst he
  obtain⟨vq,_,_,_,k5⟩:=hlaw rfl
  clear hlaw c1
  have c2:=GN q vq.good
  rw[vq.chk]at c2
  have hqb:=vq.lenB
  have hqt:=vq.lenT
  have c3:=PZ q (by omega) (by omega)
  have hnv:=fun m=>(JK (r:=q) (m:=m)).1
  have hnl:(Ha q).length≤200:=by unfold Ha;rw[A8,AR,AR];omega
  generalize Ha q=nl at c3 hnv hnl
  refine wf ?_
  refine AW (σ:=Nat) (fun j=>j≤nl.length) (fun j=>nl.length - j) (fun j=> [(5,.raw (.pointer (some ⟨b5,0,none⟩))),(36,.slice (l.map DM) ta),(37,.raw (.int .i64 l.length)),(38,.raw (.int .i64 k)),(58,.slice (nl.map eS) .ro),(59,.raw (.int .i64 nl.length)),(60,.raw (.int .i64 j))]) (fun j=> .box b5 27 (Ay q)::LF) 0 (by simp) ⟨rfl,rfl,rfl,rfl,rfl,rfl,rfl⟩ (.refl _) ?_
  rintro j hj
  refine wf ?_
  refine A1 (fun hc=>?_) (fun hc=>?_)
  ·have hjl:j < nl.length:=by omega
   obtain⟨s,hsv⟩:=hnv nl[j] (AK hjl)
   have c4:=Hi q nl[j] vq.good
   rw[IG vq hsv]at c4
   have vs:=vq.viewV hsv
   have igs:B3 (Dc s):=⟨vs.close.1⟩
   have c5:=fun t=>Pn s t
   rw[Kp vs]at c5
   dsimp only at c4
   refine wf ?_
   exact⟨j+1,by omega,by dsimp only;omega,⟨rfl,rfl,rfl,rfl,rfl,rfl,rfl⟩,.refl _⟩
  ·refine wf ?_
   exact⟨(k+1,q),⟨by dsimp only;omega,vq,by dsimp only;omega⟩,by dsimp only;omega,⟨rfl,rfl,rfl,rfl⟩,.refl _⟩
 ·refine wf ?_
  exact Ah (.refl _)⟩
theorem YS (r:Repo) (n:Str) (l:List Deed) (ta:CW):Bl Tryz.prog 11 [.agg (Ay r),.str n,.slice (l.map DM) ta] (.raw (.bool true)):=⟨by
 refine Ak Tryz.func11 Tryz.ntmps11 rfl (rs:= [.tmp 6]) rfl rfl fun hb LF=>?_
 have hll:=(hb (.slice (l.map DM) ta) (by simp)).slice_map
 have hn:=(hb (.str n) (by simp)).str_len
 clear hb
 refine gQ fun b3=>?_
 refine wf ?_
 refine B0 [(27,.raw (.bool ((!Qc r||decide (60 < (n.length:Int))||decide (8 < (l.length:Int)))))),(1,.str n),(2,.slice (l.map DM) ta),(3,.raw (.pointer (some ⟨b3,0,none⟩)))] (.box b3 27 (Ay r)::LF) ?_ ?_
 ·repeat' (first|(refine A1 (fun h=>?_) (fun h=>?_)<;>refine wf ?_)|(refine AL (fun h=>?_) (fun h=>?_)<;>refine wf ?_)|(refine AO (fun h=>?_) (fun h=>?_)<;>refine wf ?_)|(refine An (fun h=>?_) (fun h=>?_)<;>(have h2:=h;(try simp only[AB,A7,AG,AF]at h2);refine wf ?_)))
  all_goals (refine⟨⟨BO (by rfl) ?_,rfl,rfl,rfl⟩,.refl _⟩;first|(simp_all;done)|(simp_all;omega)|grind)
 refine wf ?_
 refine AO (fun h=>?_) (fun h=>?_)
 ·refine wf ?_
  exact Ah (.refl _)
 simp only[Bc,AF,A7]at h
 obtain⟨⟨h1,_⟩,hl8⟩:=h
 obtain⟨v,h8,hb8,ht8⟩:=Ko h1
 obtain⟨s,hs⟩:=v.cur_view
 have c1:=Hi r r.current v.good
 rw[IG v hs]at c1
 have c2:=cK r n [] v.good
 by_cases hf:(NM r n []).2=0
 rotate_left
 ·generalize NM r n []=z at c2 hf
  obtain⟨q,f⟩:=z
  dsimp only at c1 c2 hf
  refine wf ?_
  refine AL (fun _=>?_) (fun h=>absurd h hf)
  refine wf ?_
  exact Ah (.refl _)
 obtain⟨s',hs',t0,hp0⟩:=S4.start v hf
 have:s'=s:=by rw[hs]at hs';exact(BX hs').symm
 subst this
 generalize NM r n []=z at c2 hf t0 hp0
 obtain⟨q,f⟩:=z
 dsimp only at c1 c2 hf t0 hp0
 subst hf
 have g1:=di s'
 have hl8:l.length≤8:=by omega
 refine wf ?_
 refine AW (σ:=Nat × Repo) (fun z=>z.1≤l.length+1∧S4 z.2 n s'∧z.2.pool.length≤8+9*z.1) (fun z=>l.length+1 - z.1) (fun z=> [(1,.str n),(2,.slice (l.map DM) ta),(3,.raw (.pointer (some ⟨b3,0,none⟩))),(7,.slice (s'.map eSto) .ro),(10,.raw (.int .i64 ((z.1:Int) - 1)))]) (fun z=> .box b3 27 (Ay z.2)::LF) (0,q) ⟨by simp,t0,by dsimp only;rw[hp0];omega⟩ ⟨rfl,rfl,rfl,rfl,rfl⟩ (.refl _) ?_
 clear c1 c2 hs hs' t0 hp0 v h1 h8 hb8 ht8
 rintro⟨k,q⟩ ⟨hk,tq,hpl⟩
 dsimp only at hk tq hpl ⊢
 have cv: ∀ q':Repo,S4 q' n s'→Bl Tryz.prog 14 [.agg (Ay q'),.str n] (.tuple [.slice (s'.map eSto) .ro,.raw (.int .i64 0)]):=fun q' t=>by
  have c:=Hi q' n t.ok.good
  rw[IG t.ok t.view]at c
  exact c
 refine wf ?_
 refine A1 (fun hc=>?_) (fun hc=>?_)
 rotate_left
 ·refine wf ?_
  exact Ah (.refl _)
 cases k with
 |zero=>
  have c3:=cv q tq
  refine wf ?_
  refine AL (fun h=>absurd rfl h) (fun _=>?_)
  refine wf ?_
  exact⟨(1,q),⟨by dsimp only;omega,tq,by dsimp only;omega⟩,by dsimp only;omega,⟨rfl,rfl,rfl,rfl,rfl⟩,.refl _⟩
 |succ k=>
  have e1:((k+1:Nat):Int) - 1=(k:Int):=by omega
  rw[e1]at hc ⊢
  have hlt:k < l.length:=by omega
  generalize ha:l[k]=a
  refine wf ?_
  rw[ha]
  refine B0 [(88,.raw (.bool (Pa a||(decide (a.kind=2)&&decide (a.name=n))))),(1,.str n),(2,.slice (l.map DM) ta),(3,.raw (.pointer (some ⟨b3,0,none⟩))),(7,.slice (s'.map eSto) .ro),(10,.raw (.int .i64 (k:Int)))] (.box b3 27 (Ay q)::LF) ?_ ?_
  ·repeat' (first|(refine A1 (fun h=>?_) (fun h=>?_)<;>refine wf ?_)|(refine AL (fun h=>?_) (fun h=>?_)<;>refine wf ?_)|(refine AO (fun h=>?_) (fun h=>?_)<;>refine wf ?_)|(refine An (fun h=>?_) (fun h=>?_)<;>(have h2:=h;(try simp only[AB,A7,AG,AF]at h2);refine wf ?_)))
   all_goals (refine⟨⟨BO (by rfl) ?_,rfl,rfl,rfl,rfl,rfl⟩,.refl _⟩;clear cv hc;first|(simp_all;done)|grind)
  refine wf ?_
  refine AO (fun h=>?_) (fun h=>?_)
  ·refine wf ?_
   exact Ah (.refl _)
  obtain⟨h1,h2⟩:=Bc.1 h
  have hnd: ¬(a.kind=2∧a.name=n):=fun⟨x,y⟩=>by rw[BL x,BL y]at h2;cases h2
  obtain⟨hp,hs,hs8⟩:=LG h1
  have c1:=Xc q a tq.ok.good hp hs (by omega) (by omega)
  have hst:=fun h=>tq.step hp hs (by omega) (by omega) h hnd
  generalize SR q a=z at c1 hst
  obtain⟨q2,e⟩:=z
  dsimp only at c1 hst
  clear h h1 h2 hnd
  rw[←ha]at c1
  refine wn ?_
  refine Cz (σ:=Nat) (fun _=>True) (fun b11=> [(1,.str n),(2,.slice (l.map DM) ta),(3,.raw (.pointer (some ⟨b3,0,none⟩))),(7,.slice (s'.map eSto) .ro),(10,.raw (.int .i64 (k:Int))),(11,.raw (.pointer (some ⟨b11,0,none⟩))),(12,.raw (.int .i64 e))]) (fun b11=> .box b11 27 (Ay q2):: .box b3 27 (Ay q)::LF) ?_ ?_
  ·refine EB [0,9,10,11] (by decide+kernel) ?_
   refine Aw 1 ?_
   refine Aw 2 ?_
   refine Aw 3 ?_
   refine Aw 4 ?_
   refine De (fuel:=7) [0,9] (by decide+kernel) (by simp) fun i hi=>?_
   simp only[AQ,BF,or_false]at hi
   rcases hi with rfl|rfl
   ·refine⟨_,rfl,?_⟩
    refine wo ?_
    refine AN ?_
    refine Aw 5 ?_
    refine Aw 6 ?_
    refine Aw 7 ?_
    refine Aw 8 ?_
    refine Av 2 9 ?_
    refine BR fun b11=>?_
    refine AN ?_
    refine Av 1 10 ?_
    refine wo ?_
    refine AN ?_
    refine Av 0 11 ?_
    refine wo ?_
    refine AN ?_
    refine Ct (by decide+kernel) ?_
    exact⟨b11,trivial,⟨rfl,rfl,rfl,rfl,rfl,rfl,rfl⟩,.refl _⟩
   ·refine⟨_,rfl,?_⟩
    refine BR fun b11=>?_
    refine AN ?_
    refine Av 6 0 ?_
    refine wo ?_
    refine AN ?_
    refine Aw 5 ?_
    refine Aw 6 ?_
    refine Aw 7 ?_
    refine Aw 8 ?_
    refine Av 1 10 ?_
    refine wo ?_
    refine AN ?_
    refine Av 0 11 ?_
    refine wo ?_
    refine AN ?_
    refine Ct (by decide+kernel) ?_
    exact⟨b11,trivial,⟨rfl,rfl,rfl,rfl,rfl,rfl,rfl⟩,.refl _⟩
  intro b11 _
  refine Ag 11 ?_
  by_cases he:e=0
  ·obtain⟨t2,k5⟩:=hst he
   subst he
   have c3:=cv q2 t2
   refine wf ?_
   refine AL (fun h=>absurd rfl h) (fun _=>?_)
   refine wf ?_
   exact⟨(k+2,q2),⟨by dsimp only;omega,t2,by dsimp only;omega⟩,by dsimp only;omega,⟨rfl,rfl,rfl,rfl,by dsimp only;show PV.raw _=PV.raw _;congr 2;omega⟩,.refl _⟩
  ·have c3:=cv q tq
   refine wf ?_
   refine A1 (fun h=>absurd h he) (fun _=>?_)
   refine wf ?_
   refine AL (fun h=>absurd rfl h) (fun _=>?_)
   refine wf ?_
   exact⟨(k+2,q),⟨by dsimp only;omega,tq,by dsimp only;omega⟩,by dsimp only;omega,⟨rfl,rfl,rfl,rfl,by dsimp only;show PV.raw _=PV.raw _;congr 2;omega⟩,.refl _⟩⟩
theorem SD (r:Repo) (n:Str) (p:Pat):Bl Tryz.prog 4 [.agg (Ay r),.str n,.agg (CP p)] (.raw (.bool true)):=⟨by
 refine Ak Tryz.func4 Tryz.ntmps4 rfl (rs:= [.tmp 6]) rfl rfl fun hb LF=>?_
 have hn:=(hb (.str n) (by simp)).str_len
 clear hb
 refine wf ?_
 refine B0 [(39,.raw (.bool ((!Qc r||decide (60 < (n.length:Int))||HZ p)))),(1,.str n),(3,.pt (Ay r) 0),(5,.pt (CP p) 0)] (LF) ?_ ?_
 ·repeat' (first|(refine A1 (fun h=>?_) (fun h=>?_)<;>refine wf ?_)|(refine AL (fun h=>?_) (fun h=>?_)<;>refine wf ?_)|(refine AO (fun h=>?_) (fun h=>?_)<;>refine wf ?_)|(refine An (fun h=>?_) (fun h=>?_)<;>(have h2:=h;(try simp only[AB,A7,AG,AF]at h2);refine wf ?_)))
  all_goals (refine⟨⟨BO (by rfl) ?_,rfl,rfl,rfl⟩,.refl _⟩;first|(simp_all;done)|(simp_all;omega)|grind)
 refine wf ?_
 refine AO (fun h=>?_) (fun h=>?_)
 ·refine wf ?_
  exact Ah (.refl _)
 simp only[Bc,AF]at h
 obtain⟨⟨h1,_⟩,h2⟩:=h
 have hp:=UE h2
 obtain⟨v,h8,hb8,ht8⟩:=Ko h1
 have c1:=Jo r v.good
 obtain⟨e1,vc,_⟩:=HG v
 have hct:=Um v
 have hcv:=fun x hx=>U5 v (x:=x) hx
 have hm:(DS r).2=(r.pool.length:Int) - (DS r).1.pool.length:=by rw[e1]
 have hcl:(DS r).1.pool.length≤r.pool.length:=by
  rw[e1];exact Cv _ _
 generalize DS r=z at c1 vc hct hcv hm hcl
 obtain⟨c,m⟩:=z
 dsimp only at c1 vc hct hcv hm hcl
 have hkp:Bt c.pool (EY c)=c.pool:=by
  obtain⟨k1,_,_⟩:=HG vc
  rw[hct]at k1
  exact(congrArg (fun z=>z.1.pool) k1).symm
 have c2:=Jo c vc.good
 rw[hct]at c2
 dsimp only at c2
 clear hct e1
 subst hm
 have hcb:=vc.lenB
 have hct:=vc.lenT
 refine wz fun b7=>?_
 refine Ag 7 ?_
 refine wz fun b9=>?_
 refine Ag 9 ?_
 refine wf ?_
 refine B0 [(69,.raw (.bool (false))),(1,.str n),(5,.pt (CP p) 0),(7,.pt (Ay c) 0)] (LF) ?_ ?_
 ·repeat' (first|(refine A1 (fun h=>?_) (fun h=>?_)<;>refine wf ?_)|(refine AL (fun h=>?_) (fun h=>?_)<;>refine wf ?_)|(refine AO (fun h=>?_) (fun h=>?_)<;>refine wf ?_)|(refine An (fun h=>?_) (fun h=>?_)<;>(have h2:=h;(try simp only[AB,A7,AG,AF]at h2);refine wf ?_)))
  all_goals (refine⟨⟨BO (by rfl) ?_,rfl,rfl,rfl⟩,.refl _⟩;first|(simp_all;done)|(simp_all;omega)|grind)
 refine wf ?_
 have c3:=PZ c (by omega) (by omega)
 have hnv:=fun m=>(JK (r:=c) (m:=m)).1
 have hnl:(Ha c).length≤200:=by unfold Ha;rw[A8,AR,AR];omega
 generalize Ha c=nl at c3 hnv hnl hcv
 refine AW (σ:=Nat) (fun k=>k≤c.pool.length) (fun k=>c.pool.length - k) (fun k=> [(1,.str n),(5,.pt (CP p) 0),(7,.pt (Ay c) 0),(71,.slice (c.pool.map eSto) .ro),(72,.raw (.int .i64 c.pool.length)),(73,.raw (.int .i64 k))]) (fun _=>LF) 0 (by simp) ⟨rfl,rfl,rfl,rfl,rfl,rfl⟩ (.refl _) ?_
 rintro k hk
 refine wf ?_
 refine A1 (fun hc=>?_) (fun hc=>?_)
 ·have hlt:k < c.pool.length:=by omega
  have hcv:=hcv _ (AK hlt)
  refine wz fun b12=>?_
  refine Ag 12 ?_
  generalize c.pool[k]=x at hcv
  obtain⟨hV,hVd⟩: ∃ hV:Str→Bool,∀ m,hV m=(getS ((C6 c m).getD []) x.id).isSome:=⟨_,fun _=>rfl⟩
  have hany:nl.any hV=true:=by
   obtain⟨m,s,hm,hs,hg⟩:=hcv
   refine BW.2 ⟨m,hm,?_⟩
   rw[hVd,hs];exact hg
  refine wf ?_
  refine AW (σ:=Nat) (fun j=>j≤nl.length) (fun j=>nl.length - j) (fun j=> [(1,.str n),(5,.pt (CP p) 0),(7,.pt (Ay c) 0),(12,.pt (eSto x) 0),(13,.raw (.bool ((nl.take j).any hV))),(71,.slice (c.pool.map eSto) .ro),(72,.raw (.int .i64 c.pool.length)),(73,.raw (.int .i64 k)),(78,.slice (nl.map eS) .ro),(79,.raw (.int .i64 nl.length)),(80,.raw (.int .i64 j))]) (fun _=>LF) 0 (by simp) ⟨rfl,rfl,rfl,rfl,rfl,rfl,rfl,rfl,rfl,rfl,rfl⟩ (.refl _) ?_
  rintro j hj
  refine wf ?_
  refine A1 (fun hc=>?_) (fun hc=>?_)
  ·have hjl:j < nl.length:=by omega
   obtain⟨s,hsv⟩:=hnv nl[j] (AK hjl)
   have c4:=Hi c nl[j] vc.good
   rw[IG vc hsv]at c4
   dsimp only at c4
   have c5:=fun t=>Xn s x.id t
   unfold oG at c5
   have hnx:(nl.take (j+1)).any hV=((nl.take j).any hV||(getS s x.id).isSome):=by
    rw[A6 hjl,FH]
    simp[hVd,hsv]
   generalize (nl.take j).any hV=bo at hnx ⊢
   generalize getS s x.id=w at c5 hnx
   refine wz fun b18=>?_
   refine Ag 18 ?_
   refine wf ?_
   refine B0 [(13,.raw (.bool (bo||w.isSome))),(1,.str n),(5,.pt (CP p) 0),(7,.pt (Ay c) 0),(12,.pt (eSto x) 0),(71,.slice (c.pool.map eSto) .ro),(72,.raw (.int .i64 c.pool.length)),(73,.raw (.int .i64 k)),(78,.slice (nl.map eS) .ro),(79,.raw (.int .i64 nl.length)),(80,.raw (.int .i64 j))] LF ?_ ?_
   ·repeat' (first|(refine A1 (fun h=>?_) (fun h=>?_)<;>refine wf ?_)|(refine AL (fun h=>?_) (fun h=>?_)<;>refine wf ?_)|(refine AO (fun h=>?_) (fun h=>?_)<;>refine wf ?_)|(refine An (fun h=>?_) (fun h=>?_)<;>(have h2:=h;(try simp only[AB,A7,AG,AF]at h2);refine wf ?_)))
    all_goals (refine⟨⟨BO (by rfl) ?_,rfl,rfl,rfl,rfl,rfl,rfl,rfl,rfl,rfl,rfl⟩,.refl _⟩;clear c4 c5 hnx;first|(simp_all;done)|grind)
   refine wf ?_
   exact⟨j+1,by omega,by dsimp only;omega,⟨rfl,rfl,rfl,rfl,by rw[hnx];rfl,rfl,rfl,rfl,rfl,rfl,rfl⟩,.refl _⟩
  ·rw[AA (by omega),hany]
   refine wf ?_
   exact⟨k+1,by omega,by dsimp only;omega,⟨rfl,rfl,rfl,rfl,rfl,rfl⟩,.refl _⟩
 clear hk hc hcv hnv hnl c3
 have c3:=SX c n p vc.good hp (by omega)
 have c4:=fun t=>Xn c.pool (Js c n p).2.1 t
 unfold oG at c4
 have hal:=fun h=>SV vc (n:=n) hp (by omega) h
 have har:=fun h h2=>bu vc hkp (n:=n) hp (by omega) h h2
 have hgi:=SP c.pool (Js c n p).2.1
 generalize hz:Js c n p=z at c3 c4 hal har hgi
 obtain⟨a,d,e⟩:=z
 dsimp only at c3 c4 hal har hgi
 generalize getS c.pool d=w at c4 hgi
 refine wf ?_
 refine BR fun b20=>?_
 refine BR fun b21=>?_
 refine wo ?_
 refine AN ?_
 refine Ag 21 ?_
 refine Ag 20 ?_
 refine wz fun b23=>?_
 refine Ag 23 ?_
 refine wf ?_
 refine B0 [(128,.raw (.bool ((!decide (e=0)||w.isSome)))),(1,.str n),(7,.pt (Ay c) 0),(20,.pt (Ay a) 0),(21,.pt (eDig d) 0)] (LF) ?_ ?_
 ·repeat' (first|(refine A1 (fun h=>?_) (fun h=>?_)<;>refine wf ?_)|(refine AL (fun h=>?_) (fun h=>?_)<;>refine wf ?_)|(refine AO (fun h=>?_) (fun h=>?_)<;>refine wf ?_)|(refine An (fun h=>?_) (fun h=>?_)<;>(have h2:=h;(try simp only[AB,A7,AG,AF]at h2);refine wf ?_)))
  all_goals (refine⟨⟨BO (by rfl) ?_,rfl,rfl,rfl,rfl⟩,.refl _⟩;first|(simp_all;done)|(simp_all;omega)|grind)
 refine wf ?_
 refine AO (fun h=>?_) (fun h=>?_)
 ·refine wf ?_
  exact Ah (.refl _)
 simp only[Bc,AF,AB]at h
 obtain⟨he,hw⟩:=h
 subst he
 obtain⟨s0,_,_,_,_,hd,va,_,_,_⟩:=hal rfl
 subst hd
 rw[hw]at hgi
 obtain⟨r1,r2⟩:=har rfl (by simpa using hgi.symm)
 have c5:=PO a n (EF p).1 va.good
 have vb:H4 (Fg a n (EF p).1).1:=by
  obtain⟨_,_,_,_,_,_,_,_,vb,_⟩:=PN va r1
  exact vb
 generalize Fg a n (EF p).1=y at c5 r1 r2 vb
 obtain⟨b,f⟩:=y
 dsimp only at c5 r1 r2 vb
 subst r1
 have c6:=Jo b vb.good
 rw[r2]at c6
 dsimp only at c6
 have g1:=di c
 refine wf ?_
 refine BR fun b25=>?_
 refine wf ?_
 exact Ah (.refl _)⟩
end Go.Proofs
namespace Go.Proofs
open Go Go.Q
theorem ble {a b:Nat} (h:Nat.ble a b=true):a≤b:=Ux h
theorem Vh:DY Tryz.prog 3 (fun xs=> ∃ n,(Lit.int .i64 n).wf=true∧xs= [.raw (.int .i64 n)]):=fQ (by kernel_rfl)
theorem ym:DY Tryz.prog 4 (fun xs=> ∃ b,xs=eB b):=au (by kernel_rfl)
theorem Kh:DY Tryz.prog 9 (fun xs=> ∃ s,xs=eS s):=fO (by kernel_rfl)
theorem dM:DY Tryz.prog 45 (fun xs=> ∃ d,xs=eDig d):=fR (e:=5) (by kernel_rfl) (by kernel_rfl) (by kernel_rfl) (by kernel_rfl)
theorem k9:DY Tryz.prog 98 (fun xs=> ∃ x,xs=eIdent x):=
 DY.to (Fh (n:=33) (r:= [(45,0),(3,32)]) (by kernel_rfl) (by kernel_rfl) (.cons 32 (by kernel_rfl) dM (.cons 1 (by kernel_rfl) Vh (.nil _))))
  fun xs ⟨_,.cons ⟨d,e0⟩ (.cons ⟨n,_,e1⟩ .nil),e⟩=>⟨⟨d,n⟩,by subst e0 e1 e;simp[eIdent]⟩
theorem si:DY Tryz.prog 48 (fun xs=> ∃ l:List Str,xs= [.slice (l.map eS) .ro]):=DY.list Kh (fun _=>rfl) (by kernel_rfl) (by kernel_rfl) rfl (by decide) (ble (by kernel_rfl))
theorem wI:DY Tryz.prog 99 (fun xs=> ∃ l:List Ident,xs= [.slice (l.map eIdent) .ro]):=DY.list (sz:=33) k9 (fun _=>by simp) (by kernel_rfl) (by kernel_rfl) rfl (by decide) (ble (by kernel_rfl))
theorem aw:DY Tryz.prog 39 (fun xs=> ∃ l:List Dig,xs= [.slice (l.map eDig) .ro]):=DY.list (sz:=32) dM (fun _=>by simp) (by kernel_rfl) (by kernel_rfl) rfl (by decide) (ble (by kernel_rfl))
theorem wJ:DY Tryz.prog 101 (fun xs=> ∃ c,xs=BC c):=
 DY.to (Fh (n:=139) (r:= [(3,0),(98,1),(3,34),(98,35),(9,68),(3,69),(9,70),(98,71),(98,104),(48,137),(99,138)]) (by kernel_rfl) (by kernel_rfl)
  (.cons 1 (by kernel_rfl) Vh (.cons 33 (by kernel_rfl) k9 (.cons 1 (by kernel_rfl) Vh (.cons 33 (by kernel_rfl) k9 (.cons 1 (by kernel_rfl) Kh (.cons 1 (by kernel_rfl) Vh (.cons 1 (by kernel_rfl) Kh (.cons 33 (by kernel_rfl) k9 (.cons 33 (by kernel_rfl) k9 (.cons 1 (by kernel_rfl) si (.cons 1 (by kernel_rfl) wI (.nil _)))))))))))))
  fun xs ⟨yss,h,e⟩=>by
   rcases h with _|⟨⟨a0,_,e0⟩,h⟩
   rcases h with _|⟨⟨a1,e1⟩,h⟩
   rcases h with _|⟨⟨a2,_,e2⟩,h⟩
   rcases h with _|⟨⟨a3,e3⟩,h⟩
   rcases h with _|⟨⟨a4,e4⟩,h⟩
   rcases h with _|⟨⟨a5,_,e5⟩,h⟩
   rcases h with _|⟨⟨a6,e6⟩,h⟩
   rcases h with _|⟨⟨a7,e7⟩,h⟩
   rcases h with _|⟨⟨a8,e8⟩,h⟩
   rcases h with _|⟨⟨a9,e9⟩,h⟩
   rcases h with _|⟨⟨a10,e10⟩,h⟩
   cases h
   exact⟨⟨a0,a1,a2,a3,a4,a5,a6,a7,a8,a9,a10⟩,by subst e0 e1 e2 e3 e4 e5 e6 e7 e8 e9 e10 e;simp[BC,eS]⟩
theorem sj:DY Tryz.prog 40 (fun xs=> ∃ l:List Chg,xs= [.slice (l.map BC) .ro]):=DY.list (sz:=139) wJ (fun _=>by simp) (by kernel_rfl) (by kernel_rfl) rfl (by decide) (ble (by kernel_rfl))
theorem jz:DY Tryz.prog 42 (fun xs=> ∃ c,xs=CP c):=
 DY.to (Fh (n:=5) (r:= [(9,0),(9,1),(3,2),(39,3),(40,4)]) (by kernel_rfl) (by kernel_rfl)
  (.cons 1 (by kernel_rfl) Kh (.cons 1 (by kernel_rfl) Kh (.cons 1 (by kernel_rfl) Vh (.cons 1 (by kernel_rfl) aw (.cons 1 (by kernel_rfl) sj (.nil _)))))))
  fun xs ⟨_,.cons ⟨a0,e0⟩ (.cons ⟨a1,e1⟩ (.cons ⟨a2,_,e2⟩ (.cons ⟨a3,e3⟩ (.cons ⟨a4,e4⟩ .nil)))),e⟩=>⟨⟨a0,a1,a2,a3,a4⟩,by subst e0 e1 e2 e3 e4 e;simp[CP,eS]⟩
theorem wH:DY Tryz.prog 47 (fun xs=> ∃ c,xs=eSto c):=
 DY.to (Fh (n:=37) (r:= [(45,0),(42,32)]) (by kernel_rfl) (by kernel_rfl) (.cons 32 (by kernel_rfl) dM (.cons 5 (by kernel_rfl) jz (.nil _))))
  fun xs ⟨_,.cons ⟨a0,e0⟩ (.cons ⟨a1,e1⟩ .nil),e⟩=>⟨⟨a0,a1⟩,by subst e0 e1 e;simp[eSto]⟩
theorem dK:DY Tryz.prog 23 (fun xs=> ∃ l:List Sto,xs= [.slice (l.map eSto) .ro]):=DY.list (sz:=37) wH (fun _=>by simp) (by kernel_rfl) (by kernel_rfl) rfl (by decide) (ble (by kernel_rfl))
set_option maxRecDepth 20000 in
theorem Od {t e:Nat} {W:World} {base:Nat} {v:Value} {g:Gh} {x:PV} (ht:Tryz.prog.underlying t=some (.slice e)) (hv:Value.okWide Tryz.prog W .any base t v) (h:E8 g v.cells.toList [x]):VR g v x:=by
 have:v.cells= #[v]:=by
  unfold Value.okWide at hv
  rw[ht]at hv
  simp only[Cell.okWide,ht]at hv
  cases v<;>simp[Cell.ok,ht]at hv<;>rfl
 rw[this]at h
 exact h.uncons.1
set_option maxRecDepth 20000 in
theorem HR {W:World} (h:laidMetH Tryz.prog [("math/bits.deBruijn32tab",YtpebdiofdfpooaaGreatDoor.Rows.laid_math_bits_deBruijn32tab),("math/bits.deBruijn64tab",YtpebdiofdfpooaaGreatDoor.Rows.laid_math_bits_deBruijn64tab),("internal/strconv.uint64pow10",YtpebdiofdfpooaaGreatDoor.Rows.laid_internal_strconv_uint64pow10)] W):
  ∃ T p,W.heap[globAt]? =some (.cells pow10Tab.toArray T p):=by
 rw[MakeChecks.laidMetH_plain _ _ _ (by kernel_rfl)]at h
 obtain⟨ps,⟨_,_,_,_,_,_,_,_,_,_,⟨_,_,_,_,_,_,_,_,_,_,⟨g2,t2,cs2,f2,p2,q2,hg2,ht2,hv2,hd2,_,_⟩,_⟩,_⟩,_,_⟩:=h
 have e1:Tryz.prog.globalNamed "internal/strconv.uint64pow10" =some globAt:=by kernel_rfl
 obtain rfl:=BX (e1.symm.trans hg2)
 have e2:(Tryz.prog.globals[globAt]?).map (·.type)=some 342:=by kernel_rfl
 obtain rfl:=BX (e2.symm.trans ht2)
 obtain⟨xs,m,rfl,hx,k1,k2,k3⟩:=DataW.trod_array (n:=20) (e:=235) (by kernel_rfl) hd2
 have hce:Tryz.prog.cellsOf 235=1:=by kernel_rfl
 have hct:Tryz.prog.cellsOf 342=20:=by kernel_rfl
 have hlaid:(YtpebdiofdfpooaaGreatDoor.Rows.laid_internal_strconv_uint64pow10:DataW Unit)= .agg ((List.range 20).map fun i=> .lit (.int .u64 (10 ^ i))):=rfl
 rw[hct]at k1
 have hxs:xs.map (·.1)=(List.range 20).map fun i=> .lit (.int .u64 (10 ^ i)):=by
  have h1:=(Prod.mk.inj hx).1
  rw[hlaid]at h1
  exact(DataW.agg.inj h1).symm
 have key:cs2.toList=pow10Tab:=by
  refine GX (by rw[k1];rfl) fun i h1 h2=>?_
  have hi:i < 20:=by omega
  have h3:=k3 i hi
  have hix:i < xs.length:=by omega
  rw[AZ hix,hce,JS]at h3
  obtain⟨n,f1,f2,_⟩:=DataW.trod_int (k:= .u64) (by kernel_rfl) h3
  have f3:(cs2.toList.drop i).take 1= [cs2.toList[i]]:=by
   rw[EW h1];rfl
  rw[f3]at f1
  simp only[O8,and_true]at f1
  have f4:(xs.map (·.1))[i]'(by simpa using hix)= .lit (.int .u64 n):=by simp[f2]
  have f5:(xs.map (·.1))[i]'(by simpa using hix)= .lit (.int .u64 (10 ^ i)):=by
   have:=Ku hxs (i:=i) (by simpa using hix)
   rw[this];simp
  rw[f4]at f5
  have f6:=(Lit.int.inj (DataW.lit.inj f5)).2
  rw[f1,f6]
  simp[pow10Tab]
 simp only[World.var?,hg2,Hc]at hv2
 split at hv2
 ·rename_i cs T p hh
  cases hv2
  refine⟨T,p,?_⟩
  rw[hh,←key]
 ·cases hv2
def Iq:List (String × DataW Unit):= [("math/bits.deBruijn32tab",YtpebdiofdfpooaaGreatDoor.Rows.laid_math_bits_deBruijn32tab),("math/bits.deBruijn64tab",YtpebdiofdfpooaaGreatDoor.Rows.laid_math_bits_deBruijn64tab),("internal/strconv.uint64pow10",YtpebdiofdfpooaaGreatDoor.Rows.laid_internal_strconv_uint64pow10)]
theorem own:ownKnob Tryz.prog.godebug=none:=by kernel_rfl
theorem Lz (os:Os) (args:Array Value):laidMetH Tryz.prog Iq ((World.doorLaid Tryz.prog 400 os).forCall (fun _ _=>0) ⟨#[],args,[]⟩).memory:=
 laidMetH_of_parts3 (fuel:=8) (laidMet_of_run' 8 (by kernel_rfl) (by kernel_rfl)) (by kernel_rfl) (by kernel_rfl)
theorem IU (os:Os) (args:Array Value):((World.doorLaid Tryz.prog 400 os).forCall (fun _ _=>0) ⟨#[],args,[]⟩).Shaped Tryz.checked.prog:=World.shaped_of_RefB (by kernel_rfl) (by kernel_rfl)
end Go.Proofs
namespace Go.Proofs
open Go Go.Q Go.ChangeShapes Go.WideShapes Go.ChangeAt Go.WideMaps Go.WideElems Go.RowKit
theorem Qv {W':World} {f:Func} (hr:f.resultTypes= #[4]) {H:Type} {enc:TypeId × Value→H} (b:Nat) (sp:Nat→Bool) (hd:Bool):DataW.TrodAll enc Tryz.prog W' b sp hd f.resultTypes.toList ((Value.bool true).resultList f.resultTypes.size) [.lit (.bool true)] []:=by
 rw[hr]
 exact trodAll_mk1 (shut_bool (by kernel_rfl) _)
set_option maxRecDepth 20000 in
theorem LJ {t:Nat} {W:World} {base:Nat} {v:Value} {g:Gh} {cs:List PV} (ht:(match Tryz.prog.underlying t with|some (.struct _)|some (.array _ _)=>true|_=>false)=true) (hv:Value.okWide Tryz.prog W .any base t v) (h:E8 g v.cells.toList cs):VR g v (.agg cs):=by
 unfold Value.okWide at hv
 split at hv
 ·obtain⟨vs,rfl,_⟩:=hv
  have:VR g (.agg vs.toList.toArray) (.agg cs):=E8.agg h
  simpa using this
 ·obtain⟨vs,rfl,_⟩:=hv
  have:VR g (.agg vs.toList.toArray) (.agg cs):=E8.agg h
  simpa using this
 ·rename_i h1 h2
  split at ht
  ·rename_i fs hu;exact absurd hu (h1 fs)
  ·rename_i n e hu;exact absurd hu (h2 n e)
  ·cases ht
set_option maxRecDepth 20000 in
theorem xI {t:Nat} {W:World} {base:Nat} {v:Value} {g:Gh} {b:Bool} (ht:Tryz.prog.underlying t=some .bool) (hv:Value.okWide Tryz.prog W .any base t v) (h:E8 g v.cells.toList (eB b)):VR g v (.raw (.bool b)):=by
 have:v.cells= #[v]:=by
  unfold Value.okWide at hv
  rw[ht]at hv
  simp only[Cell.okWide,ht]at hv
  cases v<;>simp[Cell.ok,ht]at hv<;>rfl
 rw[this]at h
 exact h.uncons.1
end Go.Proofs
