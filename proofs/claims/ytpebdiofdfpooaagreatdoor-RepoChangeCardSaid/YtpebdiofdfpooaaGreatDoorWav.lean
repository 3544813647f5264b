/- Contracts: the reference's layer 36: names dropped, patches added and removed. -/
import Derived.Test.YtpebdiofdfpooaaGreatDoorWau
import Derived.Test.YtpebdiofdfpooaaGreatDoorWas
import Derived.Test.YtpebdiofdfpooaaGreatDoorWaq
import Derived.Test.YtpebdiofdfpooaaGreatDoorWah
import Derived.Test.YtpebdiofdfpooaaGreatDoorRows
import Derived.LaidMore
import Derived.Stop.Joined
import Derived.Test.YtpebdiofdfpooaaGreatDoorCards
import Derived.Test.YtpebdiofdfpooaaGreatDoorTie
import Derived.Test.YtpebdiofdfpooaaGreatDoorWad
set_option linter.unusedSimpArgs false
set_option linter.unusedVariables false
set_option maxHeartbeats 8000000
namespace Go.Proofs
open Go Go.Q
attribute [local irreducible] EB AW GJ B2 FW
theorem ed (r:Repo) (n:Str) (hg:DX r.pool):Bj Tryz.prog 43 [.agg (Ax r),.str n] (.tuple [.agg (Ax (TL r n).1),.raw (.int .i64 (TL r n).2)]):=⟨by
 have c1:=Ft r hg
 refine Aj Tryz.func43 Tryz.ntmps43 rfl (rs:= [.cell 4 27,.tmp 5]) rfl rfl fun hb LF=>?_
 unfold TL
 refine X8 fun b2=>?_
 refine BN fun b4=>?_
 by_cases h1:EF r≠0
 ·rw[if_pos h1]
  generalize EF r=e at c1 h1 ⊢
  refine wf ?_
  refine AN (fun _=>?_) (fun h=>absurd h h1)
  refine wf ?_
  exact CJ rfl (.of_eq rfl)
 rw[if_neg h1]
 have h1:=Ae.1 h1
 rw[h1]at c1
 have v:=(FA hg).1 h1
 have hlb:=v.lenB
 have hlt:=v.lenT
 have c2:=TG r n
 have c3:=P0 r n
 have hB1:=Q4 Brn.name r.branches n
 have hT1:=Q4 Tgg.name r.tags n
 have hex: ∀ k,Bw Brn.name r.branches n=k→Bw Brn.name r.branches n < 0∨ ∃ m:Nat,k=(m:Int)∧m < r.branches.length:=fun k hk=>by
  by_cases h:Bw Brn.name r.branches n < 0
  ·exact .inl h
  ·exact .inr ⟨k.toNat,by omega,by omega⟩
 have hex2: ∀ k,Bw Tgg.name r.tags n=k→Bw Tgg.name r.tags n < 0∨ ∃ m:Nat,k=(m:Int)∧m < r.tags.length:=fun k hk=>by
  by_cases h:Bw Tgg.name r.tags n < 0
  ·exact .inl h
  ·exact .inr ⟨k.toNat,by omega,by omega⟩
 generalize hib:Bw Brn.name r.branches n=i at c3 hB1 hex ⊢
 generalize hkt:Bw Tgg.name r.tags n=k at c2 hT1 hex2 ⊢
 have hex:=hex i rfl
 have hex2:=hex2 k rfl
 refine wf ?_
 refine BB [(26,.raw (.bool (decide (i < 0∧k < 0)))),(1,.str n),(2,.raw (.pointer (some ⟨b2,0,none⟩))),(4,.raw (.pointer (some ⟨b4,0,none⟩))),(7,.raw (.int .i64 i)),(8,.raw (.int .i64 k))] (.box b4 27 (Ax Repo.zero):: .box b2 27 (Ax r)::LF) ?_ ?_
 ·refine Aw (fun hp=>?_) (fun hp=>?_)
  ·have h:=An hp
   refine wf ?_
   refine⟨⟨BW (by rfl) ?_,rfl,rfl,rfl,rfl,rfl⟩,.refl _⟩
   simp[h]
  ·have h:=B6 hp
   refine wf ?_
   refine⟨⟨BW (by rfl) ?_,rfl,rfl,rfl,rfl,rfl⟩,.refl _⟩
   simp[h]
 refine wf ?_
 refine A1 (fun h=>?_) (fun h=>?_)
 ·rw[if_pos h]
  refine wf ?_
  exact CJ rfl (.of_eq rfl)
 rw[if_neg h]
 refine wf ?_
 refine A1 (fun h2=>?_) (fun h2=>?_)
 ·rw[if_pos h2]
  refine wf ?_
  exact CJ rfl (.of_eq rfl)
 rw[if_neg h2]
 refine wf ?_
 refine A1 (fun h3=>?_) (fun h3=>?_)
 ·rw[if_pos h3]
  obtain⟨m,rfl,hm⟩: ∃ m:Nat,i=(m:Int)∧m < r.branches.length:=hex.resolve_left (by omega)
  rw[Br,H4]
  refine wn ?_
  refine Db [2,5,7,11,13] (by decide+kernel) ?_
  refine Ai 0 ?_
  refine Ai 1 ?_
  refine Ai 3 ?_
  refine Ai 6 ?_
  refine Ai 8 ?_
  refine Ai 9 ?_
  refine C3 (fuel:=7) [2,7] (by decide+kernel) (by simp) fun i hi=>?_
  simp only[AI,Ar,or_false]at hi
  rcases hi with rfl|rfl
  ·refine⟨_,rfl,?_⟩
   refine wo ?_
   refine AE ?_
   refine Ai 4 ?_
   refine C3 (fuel:=5) [5,7] (by decide+kernel) (by simp) fun i hi=>?_
   simp only[AI,Ar,or_false]at hi
   rcases hi with rfl|rfl
   ·refine⟨_,rfl,?_⟩
    refine H6 (by rfl) (by rfl) (by simp only[AF,AG];omega) (by simp only[AF,AG];omega) fun t1=>?_
    refine AE ?_
    refine Af 4 7 ?_
    refine wo ?_
    refine AE ?_
    refine Ai 10 (hq:=fun _=>by refine Hh (i:=m+1) rfl rfl (by omega) ?_;refine AE ?_;exact⟨C4 _ _ _,rfl⟩) ?_
    refine Af 2 11 ?_
    refine FZ (by rfl) (by rfl) (by simp only[A7,AF,AG,Ab];omega) (by simp only[A7,AF,AG,Ab];omega) (fun t=> .here) fun t2=>?_
    refine AE ?_
    refine Ai 12 ?_
    refine Af 0 13 ?_
    refine wo ?_
    refine AE ?_
    refine C5 (by decide+kernel) ?_
    refine wf ?_
    exact CJ rfl (.of_eq rfl)
   ·refine⟨_,rfl,?_⟩
    refine wo ?_
    refine AE ?_
    refine Ai 10 (hq:=fun _=>by refine Hh (i:=m+1) rfl rfl (by omega) ?_;refine AE ?_;exact⟨C4 _ _ _,rfl⟩) ?_
    refine Af 3 5 ?_
    refine H6 (by rfl) (by rfl) (by simp only[AF,AG];omega) (by simp only[AF,AG];omega) fun t1=>?_
    refine AE ?_
    refine Af 2 11 ?_
    refine FZ (by rfl) (by rfl) (by simp only[A7,AF,AG,Ab];omega) (by simp only[A7,AF,AG,Ab];omega) (fun t=> .here) fun t2=>?_
    refine AE ?_
    refine Ai 12 ?_
    refine Af 0 13 ?_
    refine wo ?_
    refine AE ?_
    refine C5 (by decide+kernel) ?_
    refine wf ?_
    exact CJ rfl (.of_eq rfl)
  ·refine⟨_,rfl,?_⟩
   refine wo ?_
   refine AE ?_
   refine Ai 10 (hq:=fun _=>by refine Hh (i:=m+1) rfl rfl (by omega) ?_;refine AE ?_;exact⟨C4 _ _ _,rfl⟩) ?_
   refine Af 5 2 ?_
   refine wo ?_
   refine AE ?_
   refine Ai 4 ?_
   refine Af 3 5 ?_
   refine H6 (by rfl) (by rfl) (by simp only[AF,AG];omega) (by simp only[AF,AG];omega) fun t1=>?_
   refine AE ?_
   refine Af 2 11 ?_
   refine FZ (by rfl) (by rfl) (by simp only[A7,AF,AG,Ab];omega) (by simp only[A7,AF,AG,Ab];omega) (fun t=> .here) fun t2=>?_
   refine AE ?_
   refine Ai 12 ?_
   refine Af 0 13 ?_
   refine wo ?_
   refine AE ?_
   refine C5 (by decide+kernel) ?_
   refine wf ?_
   exact CJ rfl (.of_eq rfl)
 ·rw[if_neg h3]
  obtain⟨m,rfl,hm⟩: ∃ m:Nat,k=(m:Int)∧m < r.tags.length:=hex2.resolve_left (by omega)
  rw[Br,H4]
  refine wn ?_
  refine Db [2,5,7,11,13] (by decide+kernel) ?_
  refine Ai 0 ?_
  refine Ai 1 ?_
  refine Ai 3 ?_
  refine Ai 6 ?_
  refine Ai 8 ?_
  refine Ai 9 ?_
  refine C3 (fuel:=7) [2,7] (by decide+kernel) (by simp) fun i hi=>?_
  simp only[AI,Ar,or_false]at hi
  rcases hi with rfl|rfl
  ·refine⟨_,rfl,?_⟩
   refine wo ?_
   refine AE ?_
   refine Ai 4 ?_
   refine C3 (fuel:=5) [5,7] (by decide+kernel) (by simp) fun i hi=>?_
   simp only[AI,Ar,or_false]at hi
   rcases hi with rfl|rfl
   ·refine⟨_,rfl,?_⟩
    refine H6 (by rfl) (by rfl) (by simp only[AF,AG];omega) (by simp only[AF,AG];omega) fun t1=>?_
    refine AE ?_
    refine Af 4 7 ?_
    refine wo ?_
    refine AE ?_
    refine Ai 10 (hq:=fun _=>by refine Hh (i:=m+1) rfl rfl (by omega) ?_;refine AE ?_;exact⟨C4 _ _ _,rfl⟩) ?_
    refine Af 2 11 ?_
    refine FZ (by rfl) (by rfl) (by simp only[A7,AF,AG,Ab];omega) (by simp only[A7,AF,AG,Ab];omega) (fun t=> .here) fun t2=>?_
    refine AE ?_
    refine Ai 12 ?_
    refine Af 0 13 ?_
    refine wo ?_
    refine AE ?_
    refine C5 (by decide+kernel) ?_
    refine wf ?_
    exact CJ rfl (.of_eq rfl)
   ·refine⟨_,rfl,?_⟩
    refine wo ?_
    refine AE ?_
    refine Ai 10 (hq:=fun _=>by refine Hh (i:=m+1) rfl rfl (by omega) ?_;refine AE ?_;exact⟨C4 _ _ _,rfl⟩) ?_
    refine Af 3 5 ?_
    refine H6 (by rfl) (by rfl) (by simp only[AF,AG];omega) (by simp only[AF,AG];omega) fun t1=>?_
    refine AE ?_
    refine Af 2 11 ?_
    refine FZ (by rfl) (by rfl) (by simp only[A7,AF,AG,Ab];omega) (by simp only[A7,AF,AG,Ab];omega) (fun t=> .here) fun t2=>?_
    refine AE ?_
    refine Ai 12 ?_
    refine Af 0 13 ?_
    refine wo ?_
    refine AE ?_
    refine C5 (by decide+kernel) ?_
    refine wf ?_
    exact CJ rfl (.of_eq rfl)
  ·refine⟨_,rfl,?_⟩
   refine wo ?_
   refine AE ?_
   refine Ai 10 (hq:=fun _=>by refine Hh (i:=m+1) rfl rfl (by omega) ?_;refine AE ?_;exact⟨C4 _ _ _,rfl⟩) ?_
   refine Af 5 2 ?_
   refine wo ?_
   refine AE ?_
   refine Ai 4 ?_
   refine Af 3 5 ?_
   refine H6 (by rfl) (by rfl) (by simp only[AF,AG];omega) (by simp only[AF,AG];omega) fun t1=>?_
   refine AE ?_
   refine Af 2 11 ?_
   refine FZ (by rfl) (by rfl) (by simp only[A7,AF,AG,Ab];omega) (by simp only[A7,AF,AG,Ab];omega) (fun t=> .here) fun t2=>?_
   refine AE ?_
   refine Ai 12 ?_
   refine Af 0 13 ?_
   refine wo ?_
   refine AE ?_
   refine C5 (by decide+kernel) ?_
   refine wf ?_
   exact CJ rfl (.of_eq rfl)⟩
instance wE (l:List Dig) (d:Dig) (t:CZ):Bj Tryz.prog 139 [.slice (l.map eDig) t,.agg (eDig d)] (.raw (.bool (decide (d∈l)))):=⟨by
 refine Aj Tryz.func139 Tryz.ntmps139 rfl (rs:= [.tmp 4]) rfl rfl fun hb LF=>?_
 have hlen:l.length≤140737488355328:=(hb (.slice (l.map eDig) t) (by simp)).slice_map
 refine wf ?_
 refine AV (σ:=Nat) (fun k=>k≤l.length∧ ∀ i (h:i < l.length),i < k→d≠l[i]) (fun k=>l.length - k) (fun k=> [(0,.slice (l.map eDig) t),(3,.pt (eDig d) 0),(5,.raw (.int .i64 k))]) (fun _=>LF) 0 ⟨by simp,by simp⟩ ⟨rfl,rfl,rfl⟩ (.refl _) ?_
 rintro k ⟨hk,hne⟩
 refine wf ?_
 refine A1 (fun hc=>?_) (fun hc=>?_)
 ·have hlt:k < l.length:=by omega
  refine wf ?_
  refine A1 (fun he=>?_) (fun he=>?_)
  ·refine wf ?_
   refine Al (.of_eq ?_)
   have:d∈l:=he ▸ AO _
   simp[this]
  ·refine wf ?_
   refine⟨k+1,⟨by omega,fun i h hi=>?_⟩,by dsimp only;omega,⟨rfl,rfl,rfl⟩,.refl _⟩
   rcases BC i k with h'|h'
   ·exact hne i h h'
   ·have:i=k:=by omega
    subst this;exact fun e=>he e.symm
 ·refine wf ?_
  refine Al (.of_eq ?_)
  have: ¬d∈l:=fun h=>by
   obtain⟨i,hi,e⟩:=Ak.1 h
   exact hne i hi (by omega) e.symm
  simp[this]⟩
theorem VV (s:List Sto) (l:List Dig) (t u:CZ) (hlen:s.length≤1000000):Bj Tryz.prog 140 [.slice (s.map eSto) t,.slice (l.map eDig) u] (.slice ((s.filter fun x=>!decide (x.id∈l)).map eSto) .ro):=⟨by
 refine Aj Tryz.func140 Tryz.ntmps140 rfl (rs:= [.tmp 4]) rfl rfl fun hb LF=>?_
 obtain⟨q,hq⟩: ∃ q:Sto→Bool,q=fun x=>!decide (x.id∈l):=⟨_,rfl⟩
 rw[←hq]
 refine wf ?_
 refine Dw 37 ?_
 refine AV (σ:=Nat × CZ) (fun k=>k.1≤s.length) (fun k=>s.length - k.1) (fun k=> [(0,.slice (s.map eSto) t),(1,.slice (l.map eDig) u),(5,.slice (((s.take k.1).filter q).map eSto) k.2),(6,.raw (.int .i64 k.1))]) (fun k=> .tok k.2 ((s.take k.1).filter q).length 37::LF) (0,.nil) (by simp) ⟨rfl,rfl,rfl,rfl⟩ (.refl _) ?_
 rintro⟨k,v⟩ hk
 dsimp only at hk ⊢
 refine wf ?_
 refine A1 (fun hc=>?_) (fun hc=>?_)
 ·have hlt:k < s.length:=by omega
  have hl:((s.take k).filter q).length≤k:=Cd (CR _ _) (by simp;omega)
  have e:(s.take (k+1)).filter q=(s.take k).filter q++ [s[k]].filter q:=by
   rw[A6 hlt,DI]
  generalize (s.take k).filter q=A at hl e ⊢
  refine wf ?_
  refine AN (fun h=>?_) (fun h=>?_)
  ·have e2: [s[k]].filter q= [s[k]]:=by simp[hq,h]
   rw[e2]at e
   refine QL fun v'=>?_
   refine⟨(k+1,v'),by dsimp only;omega,by dsimp only;omega,⟨rfl,rfl,by dsimp only;rw[e];rfl,rfl⟩,by dsimp only;rw[e];exact .refl _⟩
  ·have e2: [s[k]].filter q= []:=by simp[hq,h]
   rw[e2,B1]at e
   refine wf ?_
   refine⟨(k+1,v),by dsimp only;omega,by dsimp only;omega,⟨rfl,rfl,by dsimp only;rw[e];rfl,rfl⟩,by dsimp only;rw[e];exact .refl _⟩
 ·refine wf ?_
  refine Al (.ros ?_)
  rw[AA (by omega)]⟩
theorem Xm (s:List Sto) (t:CZ) (d:Dig) (hg:DX s):Bj Tryz.prog 81 [.slice (s.map eSto) t,.agg (eDig d)] (.tuple [.slice ((Om s d).1.map eSto) .ro,.raw (.int .i64 (Om s d).2)]):=⟨by
 have h200:=hg.1
 have hsome:=cJ s d
 have c2:=fun t u=>VV s [d] t u (by omega)
 simp only[B9]at c2
 refine Aj Tryz.func81 Tryz.ntmps81 rfl (rs:= [.tmp 4,.tmp 5]) rfl rfl fun hb LF=>?_
 unfold Om
 refine wz fun b6=>?_
 refine Ag 6 ?_
 refine wf ?_
 rw[hsome]
 refine AN (fun h=>?_) (fun h=>?_)
 ·rw[if_pos h]
  refine wf ?_
  refine Ei ?_;exact .tuple2 (.ro _ _) (.refl _)
 rw[if_neg (fun h2=>h2 h)]
 refine wf ?_
 refine AV (σ:=Nat) (fun k=>k≤s.length∧(s.take k).any (fun x=>decide (d∈BX x.patch))=false) (fun k=>s.length - k) (fun k=> [(0,.slice (s.map eSto) t),(3,.pt (eDig d) 0),(8,.raw (.int .i64 k))]) (fun _=>LF) 0 ⟨by simp,by simp⟩ ⟨rfl,rfl,rfl⟩ (.refl _) ?_
 rintro k ⟨hk,hn⟩
 refine wf ?_
 refine A1 (fun hc=>?_) (fun hc=>?_)
 ·have hlt:k < s.length:=by omega
  have ig:B0 (EA s[k].patch=false):=⟨hg.2 _ (AO hlt)⟩
  refine wf ?_
  refine A1 (fun h=>?_) (fun h=>?_)
  ·rw[if_pos (Bg.2 ⟨_,AO hlt,Bh h⟩)]
   refine wf ?_
   refine Ei ?_;exact .tuple2 (.ro _ _) (.refl _)
  ·refine wf ?_
   refine⟨k+1,⟨by omega,?_⟩,by dsimp only;omega,⟨rfl,rfl,rfl⟩,.refl _⟩
   rw[A6 hlt,FE,hn]
   simp[h]
 ·rw[AA (by omega)]at hn
  rw[if_neg (by simp[hn])]
  refine wf ?_
  refine Ei ?_;exact .refl _⟩
theorem Xl (r:Repo) (n:Str) (d:Dig) (hg:DX r.pool):Bj Tryz.prog 31 [.agg (Ax r),.str n,.agg (eDig d)] (.tuple [.agg (Ax (Kc r n d).1),.raw (.int .i64 (Kc r n d).2)]):=⟨by
 have c1:=Ft r hg
 refine Aj Tryz.func31 Tryz.ntmps31 rfl (rs:= [.cell 6 27,.tmp 7]) rfl rfl fun hb LF=>?_
 unfold Kc
 refine wf ?_
 refine BN fun b6=>?_
 by_cases h1:EF r≠0
 ·rw[if_pos h1]
  generalize EF r=e at c1 h1 ⊢
  refine wf ?_
  refine AN (fun _=>?_) (fun h=>absurd h h1)
  refine wf ?_
  exact CJ rfl (.of_eq rfl)
 rw[if_neg h1]
 have h1:=Ae.1 h1
 rw[h1]at c1
 have v:=(FA hg).1 h1
 have hlb:=v.lenB
 have c2:=Jw r n v.pool
 refine wf ?_
 refine A1 (fun h=>?_) (fun h=>?_)
 ·rw[if_pos h]
  refine wf ?_
  exact CJ rfl (.of_eq rfl)
 rw[if_neg h]
 obtain⟨e1,e2,_⟩:=v.set_view h
 rw[e1,BO]at c2
 clear h
 have c3:=fun t=>Xm (KV r n) t d e2.vp.close.1
 by_cases h2:(Om (KV r n) d).2≠0
 ·rw[if_pos h2]
  generalize Om (KV r n) d=z at c3 h2 ⊢
  refine wf ?_
  refine AN (fun _=>?_) (fun h=>absurd h h2)
  refine wf ?_
  exact CJ rfl (.of_eq rfl)
 rw[if_neg h2]
 generalize Om (KV r n) d=z at c3 h2 ⊢
 obtain⟨z1,z2⟩:=z
 have h2:z2=0:=Ae.1 h2
 subst h2
 have c4:=Nf r ⟨n,ids z1⟩ (by omega)
 refine wn ?_
 refine BR 6 ?_ ?_
 ·decide+kernel
 refine wf ?_
 exact CJ rfl (.of_eq rfl)⟩
theorem kL (r:Repo) (n:Str) (p:Pat) (hg:DX r.pool) (hp:EA p=false) (hl:2*r.pool.length+1≤200):Bj Tryz.prog 30 [.agg (Ax r),.str n,.agg (Cc p)] (.tuple [.agg (Ax (Tb r n p).1),.agg (eDig (Tb r n p).2.1),.raw (.int .i64 (Tb r n p).2.2)]):=⟨by
 have c1:=Ft r hg
 have ip:B0 (EA p=false):=⟨hp⟩
 refine Aj Tryz.func30 Tryz.ntmps30 rfl (rs:= [.cell 6 27,.cell 7 45,.tmp 8]) rfl rfl fun hb LF=>?_
 unfold Tb
 refine X8 fun b3=>?_
 refine wf ?_
 refine BN fun b6=>?_
 refine BN fun b7=>?_
 by_cases h1:EF r≠0
 ·rw[if_pos h1]
  generalize EF r=e at c1 h1 ⊢
  refine wf ?_
  refine AN (fun _=>?_) (fun h=>absurd h h1)
  refine wf ?_
  exact Kz rfl rfl (.of_eq rfl)
 rw[if_neg h1]
 have h1:=Ae.1 h1
 rw[h1]at c1
 have v:=(FA hg).1 h1
 have hlb:=v.lenB
 have c2:=Jw r n v.pool
 refine wf ?_
 refine A1 (fun h=>?_) (fun h=>?_)
 ·rw[if_pos h]
  refine wf ?_
  exact Kz rfl rfl (.of_eq rfl)
 rw[if_neg h]
 obtain⟨e1,hsv,_⟩:=v.set_view h
 have hsl:=hsv.len
 rw[e1,BO]at c2
 clear h e1
 generalize KV r n=w0 at c2 hsv hsl ⊢
 have igs:B0 (DX w0):=⟨hsv.vp.close.1⟩
 have hok:=fun h=>hsv.vp.rAdd_ok (p:=p) hp h
 refine wz fun b12=>?_
 refine Ag 12 ?_
 by_cases h2:(Ic w0 p).2.2≠0
 ·rw[if_pos h2]
  generalize Ic w0 p=z at h2 ⊢
  obtain⟨z1,z2,z3⟩:=z
  refine wf ?_
  refine AN (fun _=>?_) (fun h=>absurd h h2)
  refine wf ?_
  exact Kz rfl rfl (.of_eq rfl)
 rw[if_neg h2]
 have h2:=Ae.1 h2
 obtain⟨hf,ha⟩:=hok h2
 have vs:=hsv.vp.put hf (by omega)
 have hpl:=Pd w0 (⟨(EW p).1,p⟩:Sto)
 rw[ha]at h2 ⊢
 dsimp only at h2 ⊢
 generalize J1 w0 ⟨(EW p).1,p⟩=w at vs hpl ⊢
 have c4:=fun t u=>Rs r.pool w t u (by omega)
 by_cases h3:(DN r.pool w).2≠0
 ·rw[if_pos h3]
  generalize DN r.pool w=z at c4 h3 ⊢
  obtain⟨z1,z2⟩:=z
  refine wf ?_
  refine AN (fun _=>?_) (fun h=>absurd h h3)
  refine wf ?_
  exact Kz rfl rfl (.of_eq rfl)
 rw[if_neg h3]
 have h3:=Ae.1 h3
 generalize DN r.pool w=z at c4 h3 ⊢
 obtain⟨z1,z2⟩:=z
 dsimp only at h3
 subst h3
 have c5:=Nf { r with pool:=z1 } ⟨n,ids w⟩ (show r.branches.length≤1000 by omega)
 refine wn ?_
 refine Db [0,7,8,9] (by decide+kernel) ?_
 refine Ai 1 ?_
 refine Ai 2 ?_
 refine Ai 6 ?_
 refine Ai 3 ?_
 refine Ai 4 ?_
 refine Af 4 0 ?_
 refine wo ?_
 refine AE ?_
 refine Ai 5 ?_
 refine Af 2 7 ?_
 refine wo ?_
 refine AE ?_
 refine Af 1 8 ?_
 refine wo ?_
 refine AE ?_
 refine Af 0 9 ?_
 refine wo ?_
 refine AE ?_
 refine C5 (by decide+kernel) ?_
 refine wf ?_
 exact Kz rfl rfl (.of_eq rfl)⟩
theorem aI (r:Repo) (n:Str) (s:List Sto) (t:CZ) (hg:DX r.pool) (hs:DX s) (hl:r.pool.length+s.length≤200):Bj Tryz.prog 32 [.agg (Ax r),.str n,.slice (s.map eSto) t] (.tuple [.agg (Ax (ME r n s).1),.slice ((ME r n s).2.1.map eDig) .ro,.raw (.int .i64 (ME r n s).2.2)]):=⟨by
 have c1:=Ft r hg
 have is:B0 (DX s):=⟨hs⟩
 refine Aj Tryz.func32 Tryz.ntmps32 rfl (rs:= [.cell 6 27,.tmp 7,.tmp 8]) rfl rfl fun hb LF=>?_
 unfold ME
 refine X8 fun b3=>?_
 refine BN fun b6=>?_
 by_cases h1:EF r≠0
 ·rw[if_pos h1]
  generalize EF r=e at c1 h1 ⊢
  refine wf ?_
  refine AN (fun _=>?_) (fun h=>absurd h h1)
  refine wf ?_
  refine Ky rfl ?_;exact .tuple3 (.of_eq rfl) (.ro _ _) (.refl _)
 rw[if_neg h1]
 have h1:=Ae.1 h1
 rw[h1]at c1
 have v:=(FA hg).1 h1
 have hlb:=v.lenB
 have c2:=P0 r n
 by_cases hB:Bw Brn.name r.branches n < 0
 ·rw[if_pos hB]
  refine wf ?_
  refine A1 (fun h=>?_) (fun h=>absurd hB h)
  refine wf ?_
  refine Ky rfl ?_;exact .tuple3 (.of_eq rfl) (.ro _ _) (.refl _)
 rw[if_neg hB]
 obtain⟨k0,hk⟩: ∃ k:Nat,Bw Brn.name r.branches n=k:=⟨(Bw Brn.name r.branches n).toNat,by omega⟩
 obtain⟨hk1,e2,e3,e4⟩:=Rb v hk
 rw[hk]at c2
 unfold bz
 rw[e4]
 have c3:=fun t=>VU s t
 by_cases h2:En s≠0
 ·rw[if_pos h2]
  generalize En s=e at c3 h2 ⊢
  refine wf ?_
  refine AN (fun _=>?_) (fun h=>absurd h h2)
  refine wf ?_
  refine Ky rfl ?_;exact .tuple3 (.of_eq rfl) (.ro _ _) (.refl _)
 rw[if_neg h2]
 have h2:=Ae.1 h2
 have vs:=LB hs h2
 rw[h2]at c3
 have c4:=fun t u=>Rs r.pool s t u (by omega)
 by_cases h3:(DN r.pool s).2≠0
 ·rw[if_pos h3]
  generalize DN r.pool s=z at c4 h3 ⊢
  obtain⟨z1,z2⟩:=z
  refine wf ?_
  refine AN (fun _=>?_) (fun h=>absurd h h3)
  refine wf ?_
  refine Ky rfl ?_;exact .tuple3 (.of_eq rfl) (.ro _ _) (.refl _)
 rw[if_neg h3]
 have h3:=Ae.1 h3
 have hob:=v.okB _ (AO hk1)
 generalize DN r.pool s=z at c4 h3 ⊢
 obtain⟨z1,z2⟩:=z
 dsimp only at h3
 subst h3
 have hil:=E6 s
 have hbl:r.branches[k0].ids.length≤200:=by
  have h5:=FJ hob.asc.nodup hob.sub
  have h6:=hg.1
  rw[E6]at h5;omega
 have c5:=fun l=>Nf { r with pool:=z1 } ⟨n,l⟩ (show r.branches.length≤1000 by omega)
 generalize hhad:r.branches[k0].ids=had at hbl ⊢
 obtain⟨more,hmore⟩: ∃ more:Nat→List Dig,∀ k,more k=((ids s).take k).filter fun d=>decide (d∉had):=⟨_,fun _=>rfl⟩
 have hm0:more 0= []:=by rw[hmore];rfl
 have hms: ∀ k (hk:k < s.length),more (k+1)=if s[k].id∉had then more k++ [s[k].id]else more k:=fun k hk=>by
  rw[hmore,hmore,A6 (by omega),DI]
  have:(ids s)[k]'(by omega)=s[k].id:=by simp[ids]
  rw[this]
  by_cases h:s[k].id∈had<;>simp[h]
 have hml: ∀ k,(more k).length≤s.length:=fun k=>by
  rw[hmore]
  have h1:=CR (fun d=>decide (d∉had)) ((ids s).take k)
  have h2:((ids s).take k).length≤(ids s).length:=by rw[AG];omega
  omega
 have hme:((ids s).filter fun d=>decide (d∉had))=more s.length:=by
  rw[hmore,AA (by omega)]
 have hwl: ∀ k,(C9 had (more k)).length≤1000:=fun k=>by
  have:=KZ (m:=more k) (l:=had)
  have:=hml k
  have:=hs.1
  omega
 rw[hme]
 refine wf ?_
 rw[hhad]
 refine Dw 32 ?_
 refine AV (σ:=Nat × CZ) (fun z=>z.1≤s.length) (fun z=>s.length - z.1) (fun z=> [(1,.str n),(2,.slice (s.map eSto) t),(3,.raw (.pointer (some ⟨b3,0,none⟩))),(6,.raw (.pointer (some ⟨b6,0,none⟩))),(10,.raw (.int .i64 (k0:Int))),(12,.slice (z1.map eSto) .ro),(14,.slice ((C9 had (more z.1)).map eDig) .ro),(15,.slice ((more z.1).map eDig) z.2),(16,.raw (.int .i64 z.1))]) (fun z=> .tok z.2 (more z.1).length 32:: .box b6 27 (Ax Repo.zero):: .box b3 27 (Ax r)::LF) (0,.nil) (by simp) ⟨rfl,rfl,rfl,rfl,rfl,rfl,by dsimp only;rw[hm0];rfl,by dsimp only;rw[hm0];rfl,rfl⟩ (by dsimp only;rw[hm0];exact .refl _) ?_
 rintro⟨k,u⟩ hk
 dsimp only at hk ⊢
 refine wf ?_
 refine A1 (fun hc=>?_) (fun hc=>?_)
 ·have hlt:k < s.length:=by omega
  have e1:=hms k hlt
  have iw:B0 ((C9 had (more k)).length≤1000000):=⟨by have:=hwl k;omega⟩
  have hmk:=hml k
  generalize more k=A at e1 iw hmk ⊢
  refine wf ?_
  rw[hhad]
  refine AN (fun h=>?_) (fun h=>?_)
  ·rw[if_pos h]at e1
   refine QL fun u'=>?_
   refine⟨(k+1,u'),by dsimp only;omega,by dsimp only;omega,⟨rfl,rfl,rfl,rfl,rfl,rfl,?_,?_,rfl⟩,?_⟩
   ·dsimp only;rw[e1,H5];rfl
   ·dsimp only;rw[e1];rfl
   ·dsimp only;rw[e1];exact .refl _
  ·rw[if_neg (fun h2=>h2 h)]at e1
   refine wf ?_
   refine⟨(k+1,u),by dsimp only;omega,by dsimp only;omega,⟨rfl,rfl,rfl,rfl,rfl,rfl,?_,?_,rfl⟩,?_⟩
   ·dsimp only;rw[e1];rfl
   ·dsimp only;rw[e1];rfl
   ·dsimp only;rw[e1];exact .refl _
 ·have hkk:k=s.length:=by omega
  subst hkk
  refine wf ?_
  refine Ky rfl ?_;exact .tuple3 (.of_eq rfl) (.ro _ _) (.refl _)⟩
theorem dC (s:List Sto) (t:CZ) (v:Cg s):Bj Tryz.prog 100 [.slice (s.map eSto) t] (.slice ((OM s).map eDig) .ro):=⟨by
 have h200:=v.close.1.1
 obtain⟨nd,hnd⟩: ∃ nd:Nat→List Dig,∀ k,nd k=(s.take k).flatMap fun x=>BX x.patch:=⟨_,fun _=>rfl⟩
 have hn0:nd 0= []:=by rw[hnd];rfl
 have hns: ∀ k (hk:k < s.length),nd (k+1)=nd k++BX s[k].patch:=fun k hk=>by
  rw[hnd,hnd,A6 hk,Ez];simp
 have hne:nd s.length=s.flatMap fun x=>BX x.patch:=by rw[hnd,Cy]
 have hnx: ∀ k (hk:k < s.length),(BX s[k].patch).length≤200:=fun k hk=>by
  have:=aF v s[k].id
  rwa [v.ndS (AO hk)]at this
 clear hnd
 refine Aj Tryz.func100 Tryz.ntmps100 rfl (rs:= [.tmp 2]) rfl rfl fun hb LF=>?_
 refine wf ?_
 refine Dw 32 ?_
 refine AV (σ:=Nat × CZ) (fun z=>z.1≤s.length∧(nd z.1).length≤200*z.1) (fun z=>s.length - z.1) (fun z=> [(0,.slice (s.map eSto) t),(3,.slice ((nd z.1).map eDig) z.2),(4,.raw (.int .i64 z.1))]) (fun z=> .tok z.2 (nd z.1).length 32::LF) (0,.nil) ⟨by simp,by rw[hn0];simp⟩ ⟨rfl,by dsimp only;rw[hn0];rfl,rfl⟩ (by dsimp only;rw[hn0];exact .refl _) ?_
 rintro⟨k,u⟩ ⟨hk,hkl⟩
 dsimp only at hk hkl ⊢
 refine wf ?_
 refine A1 (fun hc=>?_) (fun hc=>?_)
 ·have hlt:k < s.length:=by omega
  have e1:=hns k hlt
  have e2:=hnx k hlt
  have ig:B0 (EA s[k].patch=false):=⟨v.close.1.2 _ (AO hlt)⟩
  generalize nd k=A at e1 hkl ⊢
  refine wf ?_
  generalize BX s[k].patch=B at e1 e2 ⊢
  refine FZ (by rfl) (by rfl) (by omega) (by omega) (fun t=> .here) fun u'=>?_
  refine wf ?_
  refine⟨(k+1,u'),⟨by dsimp only;omega,?_⟩,by dsimp only;omega,⟨rfl,?_,rfl⟩,?_⟩
  ·dsimp only;rw[e1,A7];omega
  ·dsimp only;rw[e1];rfl
  ·dsimp only;rw[e1];exact .refl _
 have hkk:k=s.length:=by omega
 subst hkk
 have htp: ∀ x∈s,ZT s x=decide (x.id∉nd s.length):=fun x _=>by
  rw[hne]
  unfold ZT
  rw[IA,B5,AJ,Ra]
  exact⟨fun h ⟨y,hy,h2⟩=>An (h y hy) h2,fun h y hy=>Bh fun h2=>h ⟨y,hy,h2⟩⟩
 have hfe:OM s=(s.filter fun x=>decide (x.id∉nd s.length)).map (·.id):=by
  unfold OM
  rw[QJ htp]
 rw[hfe]
 clear hfe htp hne hns hn0 hc hk
 generalize nd s.length=B at hkl ⊢
 obtain⟨tp,htp⟩: ∃ tp:Nat→List Dig,∀ k,tp k=((s.take k).filter fun x=>decide (x.id∉B)).map (·.id):=⟨_,fun _=>rfl⟩
 have ht0:tp 0= []:=by rw[htp];rfl
 have hts: ∀ k (hk:k < s.length),tp (k+1)=if s[k].id∉B then tp k++ [s[k].id]else tp k:=fun k hk=>by
  rw[htp,htp,A6 hk,DI,Az]
  by_cases h:s[k].id∈B<;>simp[h]
 have htl: ∀ k,(tp k).length≤s.length:=fun k=>by
  rw[htp,AF]
  have h1:=CR (fun x:Sto=>decide (x.id∉B)) (s.take k)
  have h2:(s.take k).length≤s.length:=by rw[AG];omega
  omega
 have hte:(s.filter fun x=>decide (x.id∉B)).map (·.id)=tp s.length:=by rw[htp,Cy]
 rw[hte]
 clear htp hte
 refine wf ?_
 refine Dw 32 ?_
 refine AV (σ:=Nat × CZ) (fun z=>z.1≤s.length) (fun z=>s.length - z.1) (fun z=> [(0,.slice (s.map eSto) t),(3,.slice (B.map eDig) u),(5,.slice ((tp z.1).map eDig) z.2),(6,.raw (.int .i64 z.1))]) (fun z=> .tok z.2 (tp z.1).length 32::LF) (0,.nil) (by simp) ⟨rfl,rfl,by dsimp only;rw[ht0];rfl,rfl⟩ (by dsimp only;rw[ht0];exact .cons_cons _ (.cons _ (.refl _))) ?_
 rintro⟨k,w⟩ hk
 dsimp only at hk ⊢
 refine wf ?_
 refine A1 (fun hc=>?_) (fun hc=>?_)
 ·have hlt:k < s.length:=by omega
  have e1:=hts k hlt
  have e2:=htl k
  generalize tp k=A at e1 e2 ⊢
  refine wf ?_
  refine AN (fun h=>?_) (fun h=>?_)
  ·rw[if_pos h]at e1
   refine QL fun w'=>?_
   refine⟨(k+1,w'),by dsimp only;omega,by dsimp only;omega,⟨rfl,rfl,?_,rfl⟩,?_⟩
   ·dsimp only;rw[e1];rfl
   ·dsimp only;rw[e1];exact .refl _
  ·rw[if_neg (fun h2=>h2 h)]at e1
   refine wf ?_
   refine⟨(k+1,w),by dsimp only;omega,by dsimp only;omega,⟨rfl,rfl,?_,rfl⟩,?_⟩
   ·dsimp only;rw[e1];rfl
   ·dsimp only;rw[e1];exact .refl _
 ·have hkk:k=s.length:=by omega
  subst hkk
  refine wf ?_
  exact Al (.ro _ _)⟩
theorem fk (r:Repo) (n m:Str) (hg:DX r.pool):Bj Tryz.prog 45 [.agg (Ax r),.str n,.str m] (.tuple [.agg (Ax (ZW r n m).1),.raw (.int .i64 (ZW r n m).2)]):=⟨by
 have c1:=Ft r hg
 refine Aj Tryz.func45 Tryz.ntmps45 rfl (rs:= [.cell 6 27,.tmp 7]) rfl rfl fun hb LF=>?_
 have hml:m.length≤140737488355328:=(hb (.str m) (by simp)).str_len
 unfold ZW
 refine X8 fun b3=>?_
 refine BN fun b6=>?_
 by_cases h1:EF r≠0
 ·rw[if_pos h1]
  generalize EF r=e at c1 h1 ⊢
  refine wf ?_
  refine AN (fun _=>?_) (fun h=>absurd h h1)
  refine wf ?_
  exact CJ rfl (.of_eq rfl)
 rw[if_neg h1]
 have h1:=Ae.1 h1
 rw[h1]at c1
 have v:=(FA hg).1 h1
 have c2:=Jw r r.current v.pool
 refine wf ?_
 refine AU (fun h=>?_) (fun h=>?_)
 ·rw[if_pos (by simpa using h)]
  refine wf ?_
  exact CJ rfl (.of_eq rfl)
 rw[if_neg (by simpa using h)]
 clear h
 refine wf ?_
 refine A1 (fun h=>?_) (fun h=>?_)
 ·rw[if_pos h]
  refine wf ?_
  exact CJ rfl (.of_eq rfl)
 rw[if_neg h]
 clear h
 have c3:=Sh r n
 by_cases h2:Iq r n≠0
 ·rw[if_pos h2]
  generalize Iq r n=e at c3 h2 ⊢
  refine wf ?_
  refine AN (fun _=>?_) (fun h=>absurd h h2)
  refine wf ?_
  exact CJ rfl (.of_eq rfl)
 rw[if_neg h2]
 obtain⟨f1,f2⟩:=Oz h2
 rw[Ae.1 h2]at c3
 have hl:=v.lenT
 refine wf ?_
 refine A1 (fun h=>?_) (fun h=>?_)
 ·rw[if_pos (by omega)]
  refine wf ?_
  exact CJ rfl (.of_eq rfl)
 rw[if_neg (by omega)]
 clear h
 obtain⟨s,hs⟩:=v.cur_view
 rw[hs]at c2 ⊢
 rw[BO]at c2 ⊢
 have c4:=fun t=>dC s t (v.viewV hs)
 refine wf ?_
 refine AV (σ:=Nat) (fun k=>k≤r.tags.length∧ ∀ j (hj:j < r.tags.length),j < k→Gq r.tags[j].name n=true) (fun k=>r.tags.length - k) (fun k=> [(1,.str n),(2,.str m),(3,.raw (.pointer (some ⟨b3,0,none⟩))),(6,.raw (.pointer (some ⟨b6,0,none⟩))),(10,.slice (s.map eSto) .ro),(12,.raw (.int .i64 k))]) (fun _=> .box b6 27 (Ax Repo.zero):: .box b3 27 (Ax r)::LF) 0 ⟨by simp,fun j _ h=>absurd h (FC _)⟩ ⟨rfl,rfl,rfl,rfl,rfl,rfl⟩ (.refl _) ?_
 rintro k ⟨hk,he⟩
 refine wf ?_
 refine BB [(61,.raw (.bool (decide (k < r.tags.length∧Gq (r.tags.getD k Tgg.zero).name n=true)))),(1,.str n),(2,.str m),(3,.raw (.pointer (some ⟨b3,0,none⟩))),(6,.raw (.pointer (some ⟨b6,0,none⟩))),(10,.slice (s.map eSto) .ro),(12,.raw (.int .i64 k))] (.box b6 27 (Ax Repo.zero):: .box b3 27 (Ax r)::LF) ?_ ?_
 ·refine Aw (fun hp=>?_) (fun hp=>?_)
  ·have hlt:k < r.tags.length:=by have:=An hp;omega
   rw[GA hlt]
   refine wf ?_
   refine oQ (ax:= .str r.tags[k].name) (ay:= .str n) rfl rfl ?_
   refine wf ?_
   refine⟨⟨BW (by rfl) ?_,rfl,rfl,rfl,rfl,rfl,rfl⟩,.refl _⟩
   cases Gq r.tags[k].name n<;>simp[hlt]
  ·have hlt: ¬k < r.tags.length:=by have:=B6 hp;omega
   refine wf ?_
   refine⟨⟨BW (by rfl) ?_,rfl,rfl,rfl,rfl,rfl,rfl⟩,.refl _⟩
   simp[hlt]
 refine wf ?_
 refine A1 (fun h=>?_) (fun h=>?_)
 ·obtain⟨hlt,h⟩:=h
  rw[GA hlt]at h
  refine wf ?_
  refine⟨k+1,⟨by omega,fun j hj hjk=>?_⟩,by dsimp only;omega,⟨rfl,rfl,rfl,rfl,rfl,rfl⟩,.refl _⟩
  by_cases e:j=k
  ·subst e;exact h
  ·exact he j hj (by omega)
 have hp:IK Tgg.name r.tags n=k:=Vv _ hk (fun j hj=>he j (by omega) hj) fun hlt=>by
  cases h2:Gq r.tags[k].name n with
  |false=>rfl
  |true=>exact absurd ⟨hlt,by rw[GA hlt];exact h2⟩ h
 have hw:Jg Tgg.name r.tags ⟨n,m,OM s⟩=r.tags.take k++ [⟨n,m,OM s⟩]++r.tags.drop k:=by
  rw[QK Tgg.name f2,hp];simp
 rw[hw]
 clear h hp he hw
 refine QL fun t1=>?_
 refine QL fun t2=>?_
 refine QL fun t3=>?_
 exact CJ rfl (.of_eq rfl)⟩
theorem aH (r:Repo) (hlb:r.branches.length≤1000) (hlt:r.tags.length≤1000):Bj Tryz.prog 24 [.agg (Ax r)] (.slice ((MC r).map eS) .ro):=⟨by
 refine Aj Tryz.func24 Tryz.ntmps24 rfl (rs:= [.tmp 2]) rfl rfl fun hb LF=>?_
 unfold MC
 refine wf ?_
 refine Dw 1 ?_
 refine AV (σ:=Nat × CZ) (fun z=>z.1≤r.branches.length) (fun z=>r.branches.length - z.1) (fun z=> [(1,.pt (Ax r) 0),(3,.slice (((r.branches.take z.1).map (·.name)).map eS) z.2),(4,.raw (.int .i64 z.1))]) (fun z=> .tok z.2 ((r.branches.take z.1).map (·.name)).length 1::LF) (0,.nil) (by simp) ⟨rfl,rfl,rfl⟩ (.refl _) ?_
 rintro⟨k,u⟩ hk
 dsimp only at hk ⊢
 refine wf ?_
 refine A1 (fun hc=>?_) (fun hc=>?_)
 ·have hl:k < r.branches.length:=by omega
  have e1:(r.branches.take (k+1)).map (·.name)=(r.branches.take k).map (·.name)++ [r.branches[k].name]:=by rw[A6 hl,Az];rfl
  have e2:((r.branches.take k).map (·.name)).length≤1000:=by rw[AF,AG];omega
  generalize (r.branches.take k).map (·.name)=A at e1 e2 ⊢
  refine QL fun u'=>?_
  refine⟨(k+1,u'),by dsimp only;omega,by dsimp only;omega,⟨rfl,?_,rfl⟩,?_⟩
  ·dsimp only;rw[e1];rfl
  ·dsimp only;rw[e1];exact .refl _
 rw[AA (by omega)]
 have e0:(r.branches.map (·.name)).length≤1000:=by rw[AF];exact hlb
 generalize r.branches.map (·.name)=A0 at e0 ⊢
 clear hc hk
 refine wf ?_
 refine AV (σ:=Nat × CZ) (fun z=>z.1≤r.tags.length) (fun z=>r.tags.length - z.1) (fun z=> [(1,.pt (Ax r) 0),(3,.slice ((A0++(r.tags.take z.1).map (·.name)).map eS) z.2),(5,.raw (.int .i64 z.1))]) (fun z=> .tok z.2 (A0++(r.tags.take z.1).map (·.name)).length 1::LF) (0,u) (by simp) ⟨rfl,by dsimp only;rw[sV,CX,B1];rfl,rfl⟩ (by dsimp only;rw[sV,CX,B1];exact .refl _) ?_
 rintro⟨k,u⟩ hk
 dsimp only at hk ⊢
 refine wf ?_
 refine A1 (fun hc=>?_) (fun hc=>?_)
 ·have hl:k < r.tags.length:=by omega
  have e1:A0++(r.tags.take (k+1)).map (·.name)=(A0++(r.tags.take k).map (·.name))++ [r.tags[k].name]:=by rw[A6 hl,Az,AL];rfl
  have e2:(A0++(r.tags.take k).map (·.name)).length≤2000:=by rw[A7,AF,AG];omega
  generalize A0++(r.tags.take k).map (·.name)=A at e1 e2 ⊢
  refine QL fun u'=>?_
  refine⟨(k+1,u'),by dsimp only;omega,by dsimp only;omega,⟨rfl,?_,rfl⟩,?_⟩
  ·dsimp only;rw[e1];rfl
  ·dsimp only;rw[e1];exact .refl _
 ·rw[AA (by omega)]
  refine wf ?_
  exact Al (.ro _ _)⟩
theorem dB {r:Repo} {m:Str} {s:List Sto} (h:EC r m=some s): ∀ d∈ids s,d∈ids r.pool:=fun d hd=>by
 obtain⟨x,hx,rfl⟩:=AX.1 hd
 exact AX.2 ⟨x,UC h x hx,rfl⟩
theorem XD (r:Repo) (v:ZI r):Bj Tryz.prog 58 [.agg (Ax r)] (.slice ((Jl r).map eDig) .ro):=⟨by
 have h200:=v.pool.close.1.1
 have hlb:=v.lenB
 have hlt:=v.lenT
 have c1:=aH r (by omega) (by omega)
 have c2:=fun n=>Jw r n v.pool
 have hnl:(MC r).length≤200:=by unfold MC;rw[A7,AF,AF];omega
 have hsm: ∀ l:List Dig,Eo l→(∀ d∈l,d∈ids r.pool)→l.length≤200:=fun l ha hs=>v.pool.close.small ha hs
 have hvi: ∀ n,∀ d∈ids ((EC r n).getD []),d∈ids r.pool:=fun n d hd=>by
  cases hv:EC r n with
  |none=>rw[hv]at hd;simp[ids]at hd
  |some s=>rw[hv]at hd;exact dB hv d hd
 refine Aj Tryz.func58 Tryz.ntmps58 rfl (rs:= [.tmp 2]) rfl rfl fun hb LF=>?_
 unfold Jl
 generalize MC r=nl at c1 hnl ⊢
 refine wf ?_
 refine AV (σ:=Nat × List Dig × CZ) (fun z=>z.1≤nl.length∧z.2.1=(nl.take z.1).foldl (fun l n=>C9 l (ids ((EC r n).getD []))) []∧Eo z.2.1∧ ∀ d∈z.2.1,d∈ids r.pool) (fun z=>nl.length - z.1) (fun z=> [(1,.pt (Ax r) 0),(3,.slice (z.2.1.map eDig) z.2.2),(4,.slice (nl.map eS) .ro),(5,.raw (.int .i64 z.1))]) (fun _=>LF) (0,[],.nil) ⟨by simp,by simp,.nil,by simp⟩ ⟨rfl,rfl,rfl,rfl⟩ (.refl _) ?_
 rintro⟨k,out,u⟩ ⟨hk,ho,hoa,hoi⟩
 dsimp only at hk ho hoa hoi ⊢
 refine wf ?_
 refine A1 (fun hc=>?_) (fun hc=>?_)
 ·have hl:k < nl.length:=by omega
  have c3:=c2 nl[k]
  have hvk:=hvi nl[k]
  have hsl:((EC r nl[k]).getD []).length≤140737488355328:=by
   cases hv:EC r nl[k]with
   |none=>simp
   |some s=>have:=(v.viewV hv).close.1.1;simp;omega
  have hnext:(nl.take (k+1)).foldl (fun l n=>C9 l (ids ((EC r n).getD []))) []=C9 out (ids ((EC r nl[k]).getD [])):=by
   rw[A6 hl,DF,←ho];rfl
  generalize (EC r nl[k]).getD []=s at c3 hvk hsl hnext
  generalize (EC r nl[k]).isSome=bo at c3
  have hil:=E6 s
  refine wf ?_
  refine AV (σ:=Nat × List Dig × CZ) (fun z=>z.1≤s.length∧z.2.1=C9 out ((ids s).take z.1)) (fun z=>s.length - z.1) (fun z=> [(1,.pt (Ax r) 0),(3,.slice (z.2.1.map eDig) z.2.2),(4,.slice (nl.map eS) .ro),(5,.raw (.int .i64 k)),(6,.slice (s.map eSto) .ro),(8,.raw (.int .i64 z.1))]) (fun _=>LF) (0,out,u) ⟨by simp,by simp[C9]⟩ ⟨rfl,rfl,rfl,rfl,rfl,rfl⟩ (.refl _) ?_
  rintro⟨j,o2,w⟩ ⟨hj,hj2⟩
  dsimp only at hj hj2 ⊢
  have h2a:Eo o2:=by rw[hj2];exact EL hoa
  have h2i: ∀ d∈o2,d∈ids r.pool:=fun d hd=>by
   rw[hj2]at hd
   rcases EO.1 hd with h'|h'
   ·exact hoi d h'
   ·exact hvk d (Ee h')
  have iw:B0 (o2.length≤1000000):=⟨by have:=hsm o2 h2a h2i;omega⟩
  refine wf ?_
  refine A1 (fun hc=>?_) (fun hc=>?_)
  ·have hjl:j < s.length:=by omega
   have e1:C9 out ((ids s).take (j+1))=Fu o2 s[j].id:=by
    rw[A6 (by omega),H5,←hj2]
    congr 1
    simp[ids]
   refine wf ?_
   exact⟨(j+1,Fu o2 s[j].id,.ro),⟨by dsimp only;omega,e1.symm⟩,by dsimp only;omega,⟨rfl,rfl,rfl,rfl,rfl,rfl⟩,.refl _⟩
  ·rw[AA (by omega)]at hj2
   refine wf ?_
   exact⟨(k+1,o2,w),⟨by dsimp only;omega,by dsimp only;rw[hnext,hj2],h2a,h2i⟩,by dsimp only;omega,⟨rfl,rfl,rfl,rfl⟩,.refl _⟩
 ·rw[AA (by omega)]at ho
  refine wf ?_
  rw[←ho]
  exact Al (.ro _ _)⟩
theorem Wu (r:Repo) (hg:DX r.pool):Bj Tryz.prog 17 [.agg (Ax r)] (.tuple [.agg (Ax (JX r).1),.raw (.int .i64 (JX r).2)]):=⟨by
 have c1:=Ft r hg
 have h200:=hg.1
 have kl:B0 (r.pool.length≤1000000):=⟨by omega⟩
 refine Aj Tryz.func17 Tryz.ntmps17 rfl (rs:= [.cell 2 27,.tmp 3]) rfl rfl fun hb LF=>?_
 unfold JX
 refine X8 fun b1=>?_
 refine BN fun b2=>?_
 by_cases h1:EF r≠0
 ·rw[if_pos h1]
  generalize EF r=e at c1 h1 ⊢
  refine wf ?_
  refine AN (fun _=>?_) (fun h=>absurd h h1)
  refine wf ?_
  exact CJ rfl (.of_eq rfl)
 rw[if_neg h1]
 have h1:=Ae.1 h1
 rw[h1]at c1
 have v:=(FA hg).1 h1
 have c2:=XD r v
 generalize Jl r=L at c2 ⊢
 have hkl:(CU r.pool L).length≤r.pool.length:=CR _ _
 refine wn ?_
 refine BR 6 ?_ ?_
 ·decide+kernel
 have hpl:({ r with pool:=CU r.pool L }:Repo).pool.length≤r.pool.length:=hkl
 refine wn ?_
 refine Db [0,3,6,7] (by decide+kernel) ?_
 refine Ai 1 ?_
 refine Ai 2 ?_
 refine C3 (fuel:=5) [0,3] (by decide+kernel) (by simp) fun i hi=>?_
 simp only[AI,Ar,or_false]at hi
 rcases hi with rfl|rfl
 ·refine⟨_,rfl,?_⟩
  refine wo ?_
  refine AE ?_
  refine C3 (fuel:=4) [3,6] (by decide+kernel) (by simp) fun i hi=>?_
  simp only[AI,Ar,or_false]at hi
  rcases hi with rfl|rfl
  ·refine⟨_,rfl,?_⟩
   refine wo ?_
   refine AE ?_
   refine Ai 4 ?_
   refine Ai 5 ?_
   refine Af 1 6 ?_
   refine wo ?_
   refine AE ?_
   refine Af 0 7 ?_
   refine wo ?_
   refine AE ?_
   refine C5 (by decide+kernel) ?_
   refine wf ?_
   exact CJ rfl (.of_eq rfl)
  ·refine⟨_,rfl,?_⟩
   refine wo ?_
   refine AE ?_
   refine Af 3 3 ?_
   refine wo ?_
   refine AE ?_
   refine Ai 4 ?_
   refine Ai 5 ?_
   refine Af 0 7 ?_
   refine wo ?_
   refine AE ?_
   refine C5 (by decide+kernel) ?_
   refine wf ?_
   exact CJ rfl (.of_eq rfl)
 ·refine⟨_,rfl,?_⟩
  refine wo ?_
  refine AE ?_
  refine Ai 4 ?_
  refine Ai 5 ?_
  refine Af 2 0 ?_
  refine wo ?_
  refine AE ?_
  refine Af 1 6 ?_
  refine wo ?_
  refine AE ?_
  refine Af 0 7 ?_
  refine wo ?_
  refine AE ?_
  refine C5 (by decide+kernel) ?_
  refine wf ?_
  exact CJ rfl (.of_eq rfl)⟩
theorem Vl (r:Repo) (n:Str):Bj Tryz.prog 3 [.agg (Ax r),.str n] (.raw (.bool true)):=⟨by
 refine Aj Tryz.func3 Tryz.ntmps3 rfl (rs:= [.tmp 4]) rfl rfl fun hb LF=>?_
 have hn:=(hb (.str n) (by simp)).str_len
 refine wf ?_
 refine BB [(19,.raw (.bool ((Kg r||decide (60 < (n.length:Int)))))),(1,.str n),(2,.pt (Ax r) 0)] (LF) ?_ ?_
 ·repeat' (first|(refine A1 (fun h=>?_) (fun h=>?_)<;>refine wf ?_)|(refine AN (fun h=>?_) (fun h=>?_)<;>refine wf ?_)|(refine AU (fun h=>?_) (fun h=>?_)<;>refine wf ?_)|(refine Aw (fun h=>?_) (fun h=>?_)<;>(have h2:=h;(try simp only[AJ,A8,AQ,AR]at h2);refine wf ?_)))
  all_goals (refine⟨⟨BW (by rfl) ?_,rfl,rfl⟩,.refl _⟩;first|(simp_all;done)|(simp_all;omega)|grind)
 refine wf ?_
 refine AU (fun h=>?_) (fun h=>?_)
 ·refine wf ?_
  exact Al (.refl _)
 obtain⟨hg,h8,_⟩:=NK (Bz.1 h).1
 have c1:=Ry r n hg
 have c2:=dK r n hg
 have c3:=RK r hg
 have c4:=Wu r hg
 have c5:=Gj r hg
 have c6:=Ft r hg
 generalize PH r n=z1 at c1 c2
 generalize JX r=z2 at c3 c4
 generalize EF r=z3 at c5 c6
 obtain⟨a,e⟩:=z1
 obtain⟨c,m⟩:=z2
 dsimp only at c1 c2 c3 c4
 have g1:=H2 z3
 have g2:=H2 a
 have g3:=H2 e
 have g4:=H2 c
 have g5:=H2 m
 refine wz fun b9=>?_
 refine Ag 9 ?_
 refine wz fun b11=>?_
 refine Ag 11 ?_
 refine wf ?_
 exact Al (.refl _)⟩
theorem Vk (r:Repo) (n m:Str):Bj Tryz.prog 7 [.agg (Ax r),.str n,.str m] (.raw (.bool true)):=⟨by
 refine Aj Tryz.func7 Tryz.ntmps7 rfl (rs:= [.tmp 6]) rfl rfl fun hb LF=>?_
 have hn:=(hb (.str n) (by simp)).str_len
 have hm:=(hb (.str m) (by simp)).str_len
 refine wf ?_
 refine BB [(38,.raw (.bool ((Kg r||decide (60 < (n.length:Int))||decide (1500 < (m.length:Int)))))),(1,.str n),(2,.str m),(3,.pt (Ax r) 0)] (LF) ?_ ?_
 ·repeat' (first|(refine A1 (fun h=>?_) (fun h=>?_)<;>refine wf ?_)|(refine AN (fun h=>?_) (fun h=>?_)<;>refine wf ?_)|(refine AU (fun h=>?_) (fun h=>?_)<;>refine wf ?_)|(refine Aw (fun h=>?_) (fun h=>?_)<;>(have h2:=h;(try simp only[AJ,A8,AQ,AR]at h2);refine wf ?_)))
  all_goals (refine⟨⟨BW (by rfl) ?_,rfl,rfl,rfl⟩,.refl _⟩;first|(simp_all;done)|(simp_all;omega)|grind)
 refine wf ?_
 refine AU (fun h=>?_) (fun h=>?_)
 ·refine wf ?_
  exact Al (.refl _)
 obtain⟨hg,h8,_⟩:=NK (Bz.1 (Bz.1 h).1).1
 have c1:=bw n
 have c2:=ij n
 have c3:=TX r n m hg
 have c4:=Z1 r n m hg
 have c5:=jg r n hg
 have c6:=ed r n hg
 have c7:=ZX r n hg
 have c8:=XI r n hg
 have c9:=lQ r n m hg
 have c10:=fk r n m hg
 generalize YI n=z1 at c1 c2
 generalize Kl r n m=z2 at c3 c4
 generalize TL r n=z3 at c5 c6
 generalize Lj r n=z4 at c7 c8
 generalize ZW r n m=z5 at c9 c10
 obtain⟨a1,e1⟩:=z1
 obtain⟨a2,e2⟩:=z2
 obtain⟨a3,e3⟩:=z3
 obtain⟨a4,e4⟩:=z4
 obtain⟨a5,e5⟩:=z5
 dsimp only at c1 c2 c3 c4 c5 c6 c7 c8 c9 c10
 have g1:=H2 a1
 have g2:=H2 a2
 have g3:=H2 a3
 have g4:=H2 a4
 have g5:=H2 a5
 have g6:=H2 e1
 have g7:=H2 e2
 have g8:=H2 e3
 have g9:=H2 e4
 have g10:=H2 e5
 refine wz fun b7=>?_
 refine Ag 7 ?_
 refine wz fun b9=>?_
 refine Ag 9 ?_
 refine wz fun b11=>?_
 refine Ag 11 ?_
 refine wz fun b13=>?_
 refine Ag 13 ?_
 refine wz fun b15=>?_
 refine Ag 15 ?_
 refine wz fun b17=>?_
 refine Ag 17 ?_
 refine wz fun b19=>?_
 refine Ag 19 ?_
 refine wz fun b21=>?_
 refine Ag 21 ?_
 refine wz fun b23=>?_
 refine Ag 23 ?_
 refine wz fun b25=>?_
 refine Ag 25 ?_
 refine wf ?_
 exact Al (.refl _)⟩
theorem Ti (r:Repo) (x:P7):Bj Tryz.prog 5 [.agg (Ax r),.agg (Ha x)] (.raw (.bool true)):=⟨by
 refine Aj Tryz.func5 Tryz.ntmps5 rfl (rs:= [.tmp 4]) rfl rfl fun hb LF=>?_
 refine wf ?_
 refine BB [(26,.raw (.bool ((Kg r||Sp x)))),(2,.pt (Ax r) 0),(3,.pt (Ha x) 0)] (LF) ?_ ?_
 ·repeat' (first|(refine A1 (fun h=>?_) (fun h=>?_)<;>refine wf ?_)|(refine AN (fun h=>?_) (fun h=>?_)<;>refine wf ?_)|(refine AU (fun h=>?_) (fun h=>?_)<;>refine wf ?_)|(refine Aw (fun h=>?_) (fun h=>?_)<;>(have h2:=h;(try simp only[AJ,A8,AQ,AR]at h2);refine wf ?_)))
  all_goals (refine⟨⟨BW (by rfl) ?_,rfl,rfl⟩,.refl _⟩;first|(simp_all;done)|(simp_all;omega)|grind)
 refine wf ?_
 refine AU (fun h=>?_) (fun h=>?_)
 ·refine wf ?_
  exact Al (.refl _)
 obtain⟨hg,h8,_⟩:=NK (Bz.1 h).1
 obtain⟨hp,hs,hs8⟩:=YM (Bz.1 h).2
 have c1:=X3 r x.name x.patch hg hp (by omega)
 have c2:=kL r x.name x.patch hg hp (by omega)
 have c3:=SE r x.name x.id hg
 have c4:=Xl r x.name x.id hg
 have c5:=fun t=>eD r x.name x.set t hg hs (by omega)
 have c6:=fun t=>aI r x.name x.set t hg hs (by omega)
 generalize Tb r x.name x.patch=z1 at c1 c2
 generalize Kc r x.name x.id=z2 at c3 c4
 generalize ME r x.name x.set=z3 at c5 c6
 obtain⟨a1,d1,e1⟩:=z1
 obtain⟨a2,e2⟩:=z2
 obtain⟨a3,l3,e3⟩:=z3
 dsimp only at c1 c2 c3 c4 c5 c6
 have g1:=H2 a1
 have g2:=H2 a2
 have g3:=H2 a3
 have g4:=H2 d1
 have g5:=H2 l3
 have g6:=H2 e1
 have g7:=H2 e2
 have g8:=H2 e3
 refine wf ?_
 refine BN fun b5=>?_
 refine BN fun b6=>?_
 refine wo ?_
 refine AE ?_
 refine Ag 6 ?_
 refine Ag 5 ?_
 refine wz fun b8=>?_
 refine Ag 8 ?_
 refine wz fun b10=>?_
 refine Ag 10 ?_
 refine wf ?_
 refine BN fun b13=>?_
 refine BN fun b14=>?_
 refine wo ?_
 refine AE ?_
 refine Ag 14 ?_
 refine Ag 13 ?_
 refine wz fun b16=>?_
 refine Ag 16 ?_
 refine wz fun b18=>?_
 refine Ag 18 ?_
 refine wf ?_
 exact Al (.refl _)⟩
end Go.Proofs
namespace Go.Proofs
open Go Go.Q
theorem ble {a b:Nat} (h:Nat.ble a b=true):a≤b:=U7 h
theorem Ue:DZ Tryz.prog 3 (fun xs=> ∃ n,(Lit.int .i64 n).wf=true∧xs= [.raw (.int .i64 n)]):=du (by kernel_rfl)
theorem xV:DZ Tryz.prog 4 (fun xs=> ∃ b,xs=eB b):=Zz (by kernel_rfl)
theorem Ki:DZ Tryz.prog 9 (fun xs=> ∃ s,xs=eS s):=dt (by kernel_rfl)
theorem bu:DZ Tryz.prog 45 (fun xs=> ∃ d,xs=eDig d):=dv (e:=5) (by kernel_rfl) (by kernel_rfl) (by kernel_rfl) (by kernel_rfl)
theorem ic:DZ Tryz.prog 98 (fun xs=> ∃ x,xs=eIdent x):=
 DZ.to (Fa (n:=33) (r:= [(45,0),(3,32)]) (by kernel_rfl) (by kernel_rfl) (.cons 32 (by kernel_rfl) bu (.cons 1 (by kernel_rfl) Ue (.nil _))))
  fun xs ⟨_,.cons ⟨d,e0⟩ (.cons ⟨n,_,e1⟩ .nil),e⟩=>⟨⟨d,n⟩,by subst e0 e1 e;simp[eIdent]⟩
theorem qz:DZ Tryz.prog 48 (fun xs=> ∃ l:List Str,xs= [.slice (l.map eS) .ro]):=DZ.list Ki (fun _=>rfl) (by kernel_rfl) (by kernel_rfl) rfl (by decide) (ble (by kernel_rfl))
theorem uR:DZ Tryz.prog 99 (fun xs=> ∃ l:List Ident,xs= [.slice (l.map eIdent) .ro]):=DZ.list (sz:=33) ic (fun _=>by simp) (by kernel_rfl) (by kernel_rfl) rfl (by decide) (ble (by kernel_rfl))
theorem aD:DZ Tryz.prog 39 (fun xs=> ∃ l:List Dig,xs= [.slice (l.map eDig) .ro]):=DZ.list (sz:=32) bu (fun _=>by simp) (by kernel_rfl) (by kernel_rfl) rfl (by decide) (ble (by kernel_rfl))
theorem uU:DZ Tryz.prog 101 (fun xs=> ∃ c,xs=BG c):=
 DZ.to (Fa (n:=139) (r:= [(3,0),(98,1),(3,34),(98,35),(9,68),(3,69),(9,70),(98,71),(98,104),(48,137),(99,138)]) (by kernel_rfl) (by kernel_rfl)
  (.cons 1 (by kernel_rfl) Ue (.cons 33 (by kernel_rfl) ic (.cons 1 (by kernel_rfl) Ue (.cons 33 (by kernel_rfl) ic (.cons 1 (by kernel_rfl) Ki (.cons 1 (by kernel_rfl) Ue (.cons 1 (by kernel_rfl) Ki (.cons 33 (by kernel_rfl) ic (.cons 33 (by kernel_rfl) ic (.cons 1 (by kernel_rfl) qz (.cons 1 (by kernel_rfl) uR (.nil _)))))))))))))
  fun xs ⟨yss,h,e⟩=>by
   rcases h with _|⟨⟨a0,_,e0⟩,h⟩
   rcases h with _|⟨⟨a1,e1⟩,h⟩
   rcases h with _|⟨⟨a2,_,e2⟩,h⟩
   rcases h with _|⟨⟨a3,e3⟩,h⟩
   rcases h with _|⟨⟨a4,e4⟩,h⟩
   rcases h with _|⟨⟨a5,_,e5⟩,h⟩
   rcases h with _|⟨⟨a6,e6⟩,h⟩
   rcases h with _|⟨⟨a7,e7⟩,h⟩
   rcases h with _|⟨⟨a8,e8⟩,h⟩
   rcases h with _|⟨⟨a9,e9⟩,h⟩
   rcases h with _|⟨⟨a10,e10⟩,h⟩
   cases h
   exact⟨⟨a0,a1,a2,a3,a4,a5,a6,a7,a8,a9,a10⟩,by subst e0 e1 e2 e3 e4 e5 e6 e7 e8 e9 e10 e;simp[BG,eS]⟩
theorem r6:DZ Tryz.prog 40 (fun xs=> ∃ l:List Chg,xs= [.slice (l.map BG) .ro]):=DZ.list (sz:=139) uU (fun _=>by simp) (by kernel_rfl) (by kernel_rfl) rfl (by decide) (ble (by kernel_rfl))
theorem ov:DZ Tryz.prog 42 (fun xs=> ∃ c,xs=Cc c):=
 DZ.to (Fa (n:=5) (r:= [(9,0),(9,1),(3,2),(39,3),(40,4)]) (by kernel_rfl) (by kernel_rfl)
  (.cons 1 (by kernel_rfl) Ki (.cons 1 (by kernel_rfl) Ki (.cons 1 (by kernel_rfl) Ue (.cons 1 (by kernel_rfl) aD (.cons 1 (by kernel_rfl) r6 (.nil _)))))))
  fun xs ⟨_,.cons ⟨a0,e0⟩ (.cons ⟨a1,e1⟩ (.cons ⟨a2,_,e2⟩ (.cons ⟨a3,e3⟩ (.cons ⟨a4,e4⟩ .nil)))),e⟩=>⟨⟨a0,a1,a2,a3,a4⟩,by subst e0 e1 e2 e3 e4 e;simp[Cc,eS]⟩
theorem uQ:DZ Tryz.prog 47 (fun xs=> ∃ c,xs=eSto c):=
 DZ.to (Fa (n:=37) (r:= [(45,0),(42,32)]) (by kernel_rfl) (by kernel_rfl) (.cons 32 (by kernel_rfl) bu (.cons 5 (by kernel_rfl) ov (.nil _))))
  fun xs ⟨_,.cons ⟨a0,e0⟩ (.cons ⟨a1,e1⟩ .nil),e⟩=>⟨⟨a0,a1⟩,by subst e0 e1 e;simp[eSto]⟩
theorem ou:DZ Tryz.prog 23 (fun xs=> ∃ l:List Sto,xs= [.slice (l.map eSto) .ro]):=DZ.list (sz:=37) uQ (fun _=>by simp) (by kernel_rfl) (by kernel_rfl) rfl (by decide) (ble (by kernel_rfl))
set_option maxRecDepth 20000 in
theorem tN {t e:Nat} {W:World} {base:Nat} {v:Value} {g:Gh} {x:PV} (ht:Tryz.prog.underlying t=some (.slice e)) (hv:Value.okWide Tryz.prog W .any base t v) (h:E5 g v.cells.toList [x]):VR g v x:=by
 have:v.cells= #[v]:=by
  unfold Value.okWide at hv
  rw[ht]at hv
  simp only[Cell.okWide,ht]at hv
  cases v<;>simp[Cell.ok,ht]at hv<;>rfl
 rw[this]at h
 exact h.uncons.1
set_option maxRecDepth 20000 in
theorem MM {W:World} (h:laidMetH Tryz.prog [("math/bits.deBruijn32tab",YtpebdiofdfpooaaGreatDoor.Rows.laid_math_bits_deBruijn32tab),("math/bits.deBruijn64tab",YtpebdiofdfpooaaGreatDoor.Rows.laid_math_bits_deBruijn64tab),("internal/strconv.uint64pow10",YtpebdiofdfpooaaGreatDoor.Rows.laid_internal_strconv_uint64pow10)] W):
  ∃ T p,W.heap[globAt]? =some (.cells pow10Tab.toArray T p):=by
 rw[MakeChecks.laidMetH_plain _ _ _ (by kernel_rfl)]at h
 obtain⟨ps,⟨_,_,_,_,_,_,_,_,_,_,⟨_,_,_,_,_,_,_,_,_,_,⟨g2,t2,cs2,f2,p2,q2,hg2,ht2,hv2,hd2,_,_⟩,_⟩,_⟩,_,_⟩:=h
 have e1:Tryz.prog.globalNamed "internal/strconv.uint64pow10" =some globAt:=by kernel_rfl
 obtain rfl:=CF (e1.symm.trans hg2)
 have e2:(Tryz.prog.globals[globAt]?).map (·.type)=some 342:=by kernel_rfl
 obtain rfl:=CF (e2.symm.trans ht2)
 obtain⟨xs,m,rfl,hx,k1,k2,k3⟩:=DataW.trod_array (n:=20) (e:=235) (by kernel_rfl) hd2
 have hce:Tryz.prog.cellsOf 235=1:=by kernel_rfl
 have hct:Tryz.prog.cellsOf 342=20:=by kernel_rfl
 have hlaid:(YtpebdiofdfpooaaGreatDoor.Rows.laid_internal_strconv_uint64pow10:DataW Unit)= .agg ((List.range 20).map fun i=> .lit (.int .u64 (10 ^ i))):=rfl
 rw[hct]at k1
 have hxs:xs.map (·.1)=(List.range 20).map fun i=> .lit (.int .u64 (10 ^ i)):=by
  have h1:=(Prod.mk.inj hx).1
  rw[hlaid]at h1
  exact(DataW.agg.inj h1).symm
 have key:cs2.toList=pow10Tab:=by
  refine GK (by rw[k1];rfl) fun i h1 h2=>?_
  have hi:i < 20:=by omega
  have h3:=k3 i hi
  have hix:i < xs.length:=by omega
  rw[AZ hix,hce,J9]at h3
  obtain⟨n,f1,f2,_⟩:=DataW.trod_int (k:= .u64) (by kernel_rfl) h3
  have f3:(cs2.toList.drop i).take 1= [cs2.toList[i]]:=by
   rw[Dk h1];rfl
  rw[f3]at f1
  simp only[Nc,and_true]at f1
  have f4:(xs.map (·.1))[i]'(by simpa using hix)= .lit (.int .u64 n):=by simp[f2]
  have f5:(xs.map (·.1))[i]'(by simpa using hix)= .lit (.int .u64 (10 ^ i)):=by
   have:=KS hxs (i:=i) (by simpa using hix)
   rw[this];simp
  rw[f4]at f5
  have f6:=(Lit.int.inj (DataW.lit.inj f5)).2
  rw[f1,f6]
  simp[pow10Tab]
 simp only[World.var?,hg2,HL]at hv2
 split at hv2
 ·rename_i cs T p hh
  cases hv2
  refine⟨T,p,?_⟩
  rw[hh,←key]
 ·cases hv2
def OX:List (String × DataW Unit):= [("math/bits.deBruijn32tab",YtpebdiofdfpooaaGreatDoor.Rows.laid_math_bits_deBruijn32tab),("math/bits.deBruijn64tab",YtpebdiofdfpooaaGreatDoor.Rows.laid_math_bits_deBruijn64tab),("internal/strconv.uint64pow10",YtpebdiofdfpooaaGreatDoor.Rows.laid_internal_strconv_uint64pow10)]
theorem own:ownKnob Tryz.prog.godebug=none:=by kernel_rfl
theorem TM (os:Os) (args:Array Value):laidMetH Tryz.prog OX ((World.doorLaid Tryz.prog 400 os).forCall (fun _ _=>0) ⟨#[],args,[]⟩).memory:=
 laidMetH_of_parts3 (fuel:=8) (laidMet_of_run' 8 (by kernel_rfl) (by kernel_rfl)) (by kernel_rfl) (by kernel_rfl)
theorem NQ (os:Os) (args:Array Value):((World.doorLaid Tryz.prog 400 os).forCall (fun _ _=>0) ⟨#[],args,[]⟩).Shaped Tryz.checked.prog:=World.shaped_of_RefB (by kernel_rfl) (by kernel_rfl)
end Go.Proofs
namespace Go.Proofs
open Go Go.Q Go.ChangeShapes Go.WideShapes Go.ChangeAt Go.WideMaps Go.WideElems Go.RowKit
theorem ZS {W':World} {f:Func} (hr:f.resultTypes= #[4]) {H:Type} {enc:TypeId × Value→H} (b:Nat) (sp:Nat→Bool) (hd:Bool):DataW.TrodAll enc Tryz.prog W' b sp hd f.resultTypes.toList ((Value.bool true).resultList f.resultTypes.size) [.lit (.bool true)] []:=by
 rw[hr]
 exact trodAll_mk1 (shut_bool (by kernel_rfl) _)
set_option maxRecDepth 20000 in
theorem Rl {t:Nat} {W:World} {base:Nat} {v:Value} {g:Gh} {cs:List PV} (ht:(match Tryz.prog.underlying t with|some (.struct _)|some (.array _ _)=>true|_=>false)=true) (hv:Value.okWide Tryz.prog W .any base t v) (h:E5 g v.cells.toList cs):VR g v (.agg cs):=by
 unfold Value.okWide at hv
 split at hv
 ·obtain⟨vs,rfl,_⟩:=hv
  have:VR g (.agg vs.toList.toArray) (.agg cs):=E5.agg h
  simpa using this
 ·obtain⟨vs,rfl,_⟩:=hv
  have:VR g (.agg vs.toList.toArray) (.agg cs):=E5.agg h
  simpa using this
 ·rename_i h1 h2
  split at ht
  ·rename_i fs hu;exact absurd hu (h1 fs)
  ·rename_i n e hu;exact absurd hu (h2 n e)
  ·cases ht
set_option maxRecDepth 20000 in
theorem vE {t:Nat} {W:World} {base:Nat} {v:Value} {g:Gh} {b:Bool} (ht:Tryz.prog.underlying t=some .bool) (hv:Value.okWide Tryz.prog W .any base t v) (h:E5 g v.cells.toList (eB b)):VR g v (.raw (.bool b)):=by
 have:v.cells= #[v]:=by
  unfold Value.okWide at hv
  rw[ht]at hv
  simp only[Cell.okWide,ht]at hv
  cases v<;>simp[Cell.ok,ht]at hv<;>rfl
 rw[this]at h
 exact h.uncons.1
theorem uV:DZ Tryz.prog 78 (fun xs=> ∃ c,xs=eBrn c):=
 DZ.to (Fa (n:=2) (r:= [(9,0),(39,1)]) (by kernel_rfl) (by kernel_rfl) (.cons 1 (by kernel_rfl) Ki (.cons 1 (by kernel_rfl) aD (.nil _))))
  fun xs ⟨_,.cons ⟨a0,e0⟩ (.cons ⟨a1,e1⟩ .nil),e⟩=>⟨⟨a0,a1⟩,by subst e0 e1 e;simp[eBrn,eS]⟩
theorem uO:DZ Tryz.prog 80 (fun xs=> ∃ c,xs=eTgg c):=
 DZ.to (Fa (n:=3) (r:= [(9,0),(9,1),(39,2)]) (by kernel_rfl) (by kernel_rfl) (.cons 1 (by kernel_rfl) Ki (.cons 1 (by kernel_rfl) Ki (.cons 1 (by kernel_rfl) aD (.nil _)))))
  fun xs ⟨_,.cons ⟨a0,e0⟩ (.cons ⟨a1,e1⟩ (.cons ⟨a2,e2⟩ .nil)),e⟩=>⟨⟨a0,a1,a2⟩,by subst e0 e1 e2 e;simp[eTgg,eS]⟩
theorem r7:DZ Tryz.prog 24 (fun xs=> ∃ l:List Brn,xs= [.slice (l.map eBrn) .ro]):=DZ.list (sz:=2) uV (fun _=>by simp) (by kernel_rfl) (by kernel_rfl) rfl (by decide) (ble (by kernel_rfl))
theorem qy:DZ Tryz.prog 25 (fun xs=> ∃ l:List Tgg,xs= [.slice (l.map eTgg) .ro]):=DZ.list (sz:=3) uO (fun _=>by simp) (by kernel_rfl) (by kernel_rfl) rfl (by decide) (ble (by kernel_rfl))
theorem aB:DZ Tryz.prog 27 (fun xs=> ∃ c:Repo,xs=Ax c):=
 DZ.to (Fa (n:=4) (r:= [(23,0),(24,1),(25,2),(9,3)]) (by kernel_rfl) (by kernel_rfl) (.cons 1 (by kernel_rfl) ou (.cons 1 (by kernel_rfl) r7 (.cons 1 (by kernel_rfl) qy (.cons 1 (by kernel_rfl) Ki (.nil _))))))
  fun xs ⟨_,.cons ⟨a0,e0⟩ (.cons ⟨a1,e1⟩ (.cons ⟨a2,e2⟩ (.cons ⟨a3,e3⟩ .nil))),e⟩=>⟨⟨a0,a1,a2,a3⟩,by subst e0 e1 e2 e3 e;simp[Ax,eS]⟩
theorem ie:DZ Tryz.prog 58 (fun xs=> ∃ c:P7,xs=Ha c):=
 DZ.to (Fa (n:=41) (r:= [(3,0),(9,1),(9,2),(42,3),(45,8),(23,40)]) (by kernel_rfl) (by kernel_rfl)
  (.cons 1 (by kernel_rfl) Ue (.cons 1 (by kernel_rfl) Ki (.cons 1 (by kernel_rfl) Ki (.cons 5 (by kernel_rfl) ov (.cons 32 (by kernel_rfl) bu (.cons 1 (by kernel_rfl) ou (.nil _))))))))
  fun xs ⟨yss,h,e⟩=>by
   rcases h with _|⟨⟨a0,_,e0⟩,h⟩
   rcases h with _|⟨⟨a1,e1⟩,h⟩
   rcases h with _|⟨⟨a2,e2⟩,h⟩
   rcases h with _|⟨⟨a3,e3⟩,h⟩
   rcases h with _|⟨⟨a4,e4⟩,h⟩
   rcases h with _|⟨⟨a5,e5⟩,h⟩
   cases h
   exact⟨⟨a0,a1,a2,a3,a4,a5⟩,by subst e0 e1 e2 e3 e4 e5 e;simp[Ha,eS]⟩
theorem w9:DZ Tryz.prog 71 (fun xs=> ∃ l:List P7,xs= [.slice (l.map Ha) .ro]):=DZ.list (sz:=41) ie (fun _=>by simp) (by kernel_rfl) (by kernel_rfl) rfl (by decide) (ble (by kernel_rfl))
set_option maxRecDepth 20000 in
theorem X1 {t:Nat} {W:World} {base:Nat} {v:Value} {g:Gh} {s:Str} (ht:Tryz.prog.underlying t=some .string) (hv:Value.okWide Tryz.prog W .any base t v) (h:E5 g v.cells.toList (eS s)):VR g v (.str s):=by
 have:v.cells= #[v]:=by
  unfold Value.okWide at hv
  rw[ht]at hv
  simp only[Cell.okWide,ht]at hv
  cases v<;>simp[Cell.ok,ht]at hv<;>rfl
 rw[this]at h
 exact h.uncons.1
end Go.Proofs
