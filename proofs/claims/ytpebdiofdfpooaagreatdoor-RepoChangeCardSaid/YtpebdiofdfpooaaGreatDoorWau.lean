/- Contracts of the program: patches added, sets merged, tags, what nobody has collected. -/
import Derived.Test.YtpebdiofdfpooaaGreatDoorWat
import Derived.Test.YtpebdiofdfpooaaGreatDoorWas
import Derived.Test.YtpebdiofdfpooaaGreatDoorWap
import Derived.Test.YtpebdiofdfpooaaGreatDoorWar
import Derived.Test.YtpebdiofdfpooaaGreatDoorWam
import Derived.Test.YtpebdiofdfpooaaGreatDoorWai
set_option linter.unusedSimpArgs false
set_option linter.unusedVariables false
set_option maxHeartbeats 8000000
namespace Go.Proofs
open Go Go.Q
attribute [local irreducible] EB AW GJ B2 FW
theorem Kz {P:Program} {ρ:Env} {L LF:List Res} {X:PV} {t u s T T1 n m b c B C:Nat} {cs ds:List PV} {z:PV} [hT:FG P T n] [hT1:FG P T1 m] (h:ρ t= .raw (.pointer (some ⟨b,0,none⟩))) (h1:ρ u= .raw (.pointer (some ⟨c,0,none⟩))) (hX:Le (.tuple [.agg cs,.agg ds,z]) X) (hz:ρ s=z:=by conv=>lhs;whnf) (hm:Res.box b B cs∈L:=by repeat(first|exact AK|apply AD)) (hm1:Res.box c C ds∈L:=by repeat(first|exact AK|apply AD)) (hn:cs.length=n:=by simp) (hn1:ds.length=m:=by simp) (hs:LF.Sublist L:=by repeat(first|exact Dh _|apply List.Sublist.cons)):
  fR P [.cell t T,.cell u T1,.tmp s] (fun r L'=>Le r X∧L'= []) LF .ret ρ L:=⟨trivial,_,[],.cons (.cell t T h hm hT.out hn) (.cons (.cell u T1 h1 hm1 hT1.out hn1) (.cons (.tmp s) .nil)),hs,by subst hz;exact hX,rfl⟩
theorem X3 (r:Repo) (n:Str) (p:Pat) (hg:DX r.pool) (hp:EA p=false) (hl:2*r.pool.length+1≤200):Bj Tryz.prog 26 [.agg (Ax r),.str n,.agg (Cc p)] (.tuple [.agg (Ax (Tb r n p).1),.agg (eDig (Tb r n p).2.1),.raw (.int .i64 (Tb r n p).2.2)]):=⟨by
 have c1:=Gj r hg
 have ip:B0 (EA p=false):=⟨hp⟩
 have kl:B0 (r.pool.length≤1000000):=⟨by omega⟩
 refine Aj Tryz.func26 Tryz.ntmps26 rfl (rs:= [.cell 6 27,.cell 7 45,.tmp 8]) rfl rfl fun hb LF=>?_
 unfold Tb
 refine X8 fun b3=>?_
 refine wf ?_
 refine BN fun b6=>?_
 refine BN fun b7=>?_
 by_cases h1:EF r≠0
 ·rw[if_pos h1]
  generalize EF r=e at c1 h1 ⊢
  refine wf ?_
  refine AN (fun _=>?_) (fun h=>absurd h h1)
  refine wf ?_
  exact Kz rfl rfl (.of_eq rfl)
 rw[if_neg h1]
 have h1:=Ae.1 h1
 rw[h1]at c1
 have v:=(FA hg).1 h1
 have hlb:=v.lenB
 have c2:=fun t=>Ny r.branches t n
 by_cases hB:Bw Brn.name r.branches n < 0
 ·rw[if_pos hB]
  refine wf ?_
  refine A1 (fun h=>?_) (fun h=>absurd hB h)
  refine wf ?_
  exact Kz rfl rfl (.of_eq rfl)
 rw[if_neg hB]
 obtain⟨k,hk⟩: ∃ k:Nat,Bw Brn.name r.branches n=k:=⟨(Bw Brn.name r.branches n).toNat,by omega⟩
 obtain⟨hk1,e2,e3,_⟩:=Rb v hk
 have hsv:=(v.set_view hB).2.1
 have hsl:=hsv.len
 rw[hk]at c2
 rw[e2]at hsv hsl ⊢
 rw[e3]
 have iv:B0 (Cg (CU r.pool r.branches[k].ids)):=⟨hsv.vp⟩
 have c3:=fun t=>nx (CU r.pool r.branches[k].ids) p t
 have hok:=fun h=>hsv.vp.rAdd_ok (p:=p) hp h
 refine wn ?_
 refine DD (σ:=Nat) (fun _=>True) (fun b12=> [(3,.raw (.pointer (some ⟨b3,0,none⟩))),(6,.raw (.pointer (some ⟨b6,0,none⟩))),(7,.raw (.pointer (some ⟨b7,0,none⟩))),(10,.raw (.int .i64 (k:Int))),(11,.slice ((Ic (CU r.pool r.branches[k].ids) p).1.map eSto) .ro),(12,.raw (.pointer (some ⟨b12,0,none⟩))),(13,.raw (.int .i64 (Ic (CU r.pool r.branches[k].ids) p).2.2))]) (fun b12=> .box b12 45 (eDig (Ic (CU r.pool r.branches[k].ids) p).2.1):: .box b7 45 (eDig Dig.zero):: .box b6 27 (Ax Repo.zero):: .box b3 27 (Ax r)::LF) ?_ ?_
 ·refine Db [1,3,15,16,17,18] (by decide+kernel) ?_
  refine Ai 0 ?_
  refine Ai 2 ?_
  refine Ai 4 ?_
  refine Ai 9 ?_
  refine C3 (fuel:=14) [1,3,15] (by decide+kernel) (by simp) fun i hi=>?_
  simp only[AI,Ar,or_false]at hi
  rcases hi with rfl|rfl|rfl
  ·refine⟨_,rfl,?_⟩
   refine wo ?_
   refine AE ?_
   refine C3 (fuel:=13) [3,15] (by decide+kernel) (by simp) fun i hi=>?_
   simp only[AI,Ar,or_false]at hi
   rcases hi with rfl|rfl
   ·refine⟨_,rfl,?_⟩
    refine wo ?_
    refine AE ?_
    refine Ai 5 ?_
    refine Ai 6 ?_
    refine Ai 7 ?_
    refine Ai 8 ?_
    refine Ai 10 ?_
    refine Ai 11 ?_
    refine Ai 12 ?_
    refine Ai 13 ?_
    refine Ai 14 ?_
    refine Af 3 15 ?_
    refine BN fun b12=>?_
    refine AE ?_
    refine Af 2 16 ?_
    refine wo ?_
    refine AE ?_
    refine Af 1 17 ?_
    refine wo ?_
    refine AE ?_
    refine Af 0 18 ?_
    refine wo ?_
    refine AE ?_
    refine C5 (by decide+kernel) ?_
    exact⟨b12,trivial,⟨rfl,rfl,rfl,rfl,rfl,rfl,rfl⟩,.refl _⟩
   ·refine⟨_,rfl,?_⟩
    refine BN fun b12=>?_
    refine AE ?_
    refine Af 12 3 ?_
    refine wo ?_
    refine AE ?_
    refine Ai 5 ?_
    refine Ai 6 ?_
    refine Ai 7 ?_
    refine Ai 8 ?_
    refine Ai 10 ?_
    refine Ai 11 ?_
    refine Ai 12 ?_
    refine Ai 13 ?_
    refine Ai 14 ?_
    refine Af 2 16 ?_
    refine wo ?_
    refine AE ?_
    refine Af 1 17 ?_
    refine wo ?_
    refine AE ?_
    refine Af 0 18 ?_
    refine wo ?_
    refine AE ?_
    refine C5 (by decide+kernel) ?_
    exact⟨b12,trivial,⟨rfl,rfl,rfl,rfl,rfl,rfl,rfl⟩,.refl _⟩
  ·refine⟨_,rfl,?_⟩
   refine wo ?_
   refine AE ?_
   refine Ai 5 ?_
   refine Ai 6 ?_
   refine Ai 7 ?_
   refine C3 (fuel:=10) [1,15] (by decide+kernel) (by simp) fun i hi=>?_
   simp only[AI,Ar,or_false]at hi
   rcases hi with rfl|rfl
   ·refine⟨_,rfl,?_⟩
    refine wo ?_
    refine AE ?_
    refine Ai 8 ?_
    refine Ai 10 ?_
    refine Ai 11 ?_
    refine Ai 12 ?_
    refine Ai 13 ?_
    refine Ai 14 ?_
    refine Af 3 15 ?_
    refine BN fun b12=>?_
    refine AE ?_
    refine Af 2 16 ?_
    refine wo ?_
    refine AE ?_
    refine Af 1 17 ?_
    refine wo ?_
    refine AE ?_
    refine Af 0 18 ?_
    refine wo ?_
    refine AE ?_
    refine C5 (by decide+kernel) ?_
    exact⟨b12,trivial,⟨rfl,rfl,rfl,rfl,rfl,rfl,rfl⟩,.refl _⟩
   ·refine⟨_,rfl,?_⟩
    refine BN fun b12=>?_
    refine AE ?_
    refine Af 9 1 ?_
    refine wo ?_
    refine AE ?_
    refine Ai 8 ?_
    refine Ai 10 ?_
    refine Ai 11 ?_
    refine Ai 12 ?_
    refine Ai 13 ?_
    refine Ai 14 ?_
    refine Af 2 16 ?_
    refine wo ?_
    refine AE ?_
    refine Af 1 17 ?_
    refine wo ?_
    refine AE ?_
    refine Af 0 18 ?_
    refine wo ?_
    refine AE ?_
    refine C5 (by decide+kernel) ?_
    exact⟨b12,trivial,⟨rfl,rfl,rfl,rfl,rfl,rfl,rfl⟩,.refl _⟩
  ·refine⟨_,rfl,?_⟩
   refine BN fun b12=>?_
   refine AE ?_
   refine C3 (fuel:=13) [1,3] (by decide+kernel) (by simp) fun i hi=>?_
   simp only[AI,Ar,or_false]at hi
   rcases hi with rfl|rfl
   ·refine⟨_,rfl,?_⟩
    refine wo ?_
    refine AE ?_
    refine Af 12 3 ?_
    refine wo ?_
    refine AE ?_
    refine Ai 5 ?_
    refine Ai 6 ?_
    refine Ai 7 ?_
    refine Ai 8 ?_
    refine Ai 10 ?_
    refine Ai 11 ?_
    refine Ai 12 ?_
    refine Ai 13 ?_
    refine Ai 14 ?_
    refine Af 2 16 ?_
    refine wo ?_
    refine AE ?_
    refine Af 1 17 ?_
    refine wo ?_
    refine AE ?_
    refine Af 0 18 ?_
    refine wo ?_
    refine AE ?_
    refine C5 (by decide+kernel) ?_
    exact⟨b12,trivial,⟨rfl,rfl,rfl,rfl,rfl,rfl,rfl⟩,.refl _⟩
   ·refine⟨_,rfl,?_⟩
    refine wo ?_
    refine AE ?_
    refine Ai 5 ?_
    refine Ai 6 ?_
    refine Ai 7 ?_
    refine Af 9 1 ?_
    refine wo ?_
    refine AE ?_
    refine Ai 8 ?_
    refine Ai 10 ?_
    refine Ai 11 ?_
    refine Ai 12 ?_
    refine Ai 13 ?_
    refine Ai 14 ?_
    refine Af 2 16 ?_
    refine wo ?_
    refine AE ?_
    refine Af 1 17 ?_
    refine wo ?_
    refine AE ?_
    refine Af 0 18 ?_
    refine wo ?_
    refine AE ?_
    refine C5 (by decide+kernel) ?_
    exact⟨b12,trivial,⟨rfl,rfl,rfl,rfl,rfl,rfl,rfl⟩,.refl _⟩
 intro b12 _
 refine Ag 12 ?_
 by_cases h2:(Ic (CU r.pool r.branches[k].ids) p).2.2≠0
 ·rw[if_pos h2]
  generalize Ic (CU r.pool r.branches[k].ids) p=z at h2 ⊢
  obtain⟨z1,z2,z3⟩:=z
  refine wf ?_
  refine AN (fun _=>?_) (fun h=>absurd h h2)
  refine wf ?_
  exact Kz rfl rfl (.of_eq rfl)
 rw[if_neg h2]
 have h2:=Ae.1 h2
 obtain⟨hf,ha⟩:=hok h2
 have vs:=hsv.vp.put hf (by omega)
 have hpl:=Pd (CU r.pool r.branches[k].ids) (⟨(EW p).1,p⟩:Sto)
 rw[ha]at h2 ⊢
 dsimp only at h2 ⊢
 generalize J1 (CU r.pool r.branches[k].ids) ⟨(EW p).1,p⟩=w at vs hpl ⊢
 have c4:=fun t u=>UD r.pool w t u v.pool vs (by omega)
 by_cases h3:(DN r.pool w).2≠0
 ·rw[if_pos h3]
  generalize DN r.pool w=z at c4 h3 ⊢
  obtain⟨z1,z2⟩:=z
  refine wf ?_
  refine AN (fun _=>?_) (fun h=>absurd h h3)
  refine wf ?_
  exact Kz rfl rfl (.of_eq rfl)
 rw[if_neg h3]
 have h3:=Ae.1 h3
 generalize DN r.pool w=z at c4 h3 ⊢
 obtain⟨z1,z2⟩:=z
 dsimp only at h3
 subst h3
 have c5:=fun t=>NU { r with pool:=z1 } k w t hk1 (show r.branches.length≤1000 by omega)
 refine wn ?_
 refine Db [0,5,6,7] (by decide+kernel) ?_
 refine Ai 1 ?_
 refine Ai 2 ?_
 refine Ai 4 ?_
 refine Af 4 0 ?_
 refine wo ?_
 refine AE ?_
 refine Ai 3 ?_
 refine Af 2 5 ?_
 refine wo ?_
 refine AE ?_
 refine Af 1 6 ?_
 refine wo ?_
 refine AE ?_
 refine Af 0 7 ?_
 refine wo ?_
 refine AE ?_
 refine C5 (by decide+kernel) ?_
 refine wf ?_
 exact Kz rfl rfl (.of_eq rfl)⟩
instance ss (d:Dig) (l:List Dig):Bj Tryz.prog 74 [.agg (eDig d),.pt [.slice (l.map eDig) .ro] 0] (.raw (.bool (decide (d∈l)))):=⟨by
 refine Aj Tryz.func74 Tryz.ntmps74 rfl (rs:= [.tmp 3]) rfl rfl fun hb LF=>?_
 refine wf ?_
 exact Al (.refl _)⟩
theorem ji (l m:List Dig) (v:Value) (R:List Res) (hv:E7 45 32 v (l.map eDig) R) (hl:l.length≤1000000):
  B2 Tryz.prog 72 [.raw v,.clo 74 [.pt [.slice (m.map eDig) .ro] 0]] R (fun r L'=>r= .slice ((l.filter fun d=>decide (d∉m)).map eDig) .ro∧L'= []):=by
 have e:(l.filter fun d=>decide (d∉m))=l.filter fun d=>!decide (d∈m):=QJ fun d _=>by simp
 rw[e]
 refine B2.frozenR (Uo eDig 32 (by decide) _ ?_) (ah _ _ (fun d=>decide (d∈m)) l v R hv hl)
 have:=CR (fun d=>!decide (d∈m)) l
 omega
theorem eD (r:Repo) (n:Str) (s:List Sto) (t:CZ) (hg:DX r.pool) (hs:DX s) (hl:r.pool.length+s.length≤200):Bj Tryz.prog 29 [.agg (Ax r),.str n,.slice (s.map eSto) t] (.tuple [.agg (Ax (ME r n s).1),.slice ((ME r n s).2.1.map eDig) .ro,.raw (.int .i64 (ME r n s).2.2)]):=⟨by
 have c1:=Gj r hg
 have is:B0 (DX s):=⟨hs⟩
 refine Aj Tryz.func29 Tryz.ntmps29 rfl (rs:= [.cell 6 27,.tmp 7,.tmp 8]) rfl rfl fun hb LF=>?_
 unfold ME
 refine X8 fun b3=>?_
 refine BN fun b6=>?_
 by_cases h1:EF r≠0
 ·rw[if_pos h1]
  generalize EF r=e at c1 h1 ⊢
  refine wf ?_
  refine AN (fun _=>?_) (fun h=>absurd h h1)
  refine wf ?_
  refine Ky rfl ?_;exact .tuple3 (.of_eq rfl) (.ro _ _) (.refl _)
 rw[if_neg h1]
 have h1:=Ae.1 h1
 rw[h1]at c1
 have v:=(FA hg).1 h1
 have hlb:=v.lenB
 have c2:=fun t=>Ny r.branches t n
 by_cases hB:Bw Brn.name r.branches n < 0
 ·rw[if_pos hB]
  refine wf ?_
  refine A1 (fun h=>?_) (fun h=>absurd hB h)
  refine wf ?_
  refine Ky rfl ?_;exact .tuple3 (.of_eq rfl) (.ro _ _) (.refl _)
 rw[if_neg hB]
 obtain⟨k,hk⟩: ∃ k:Nat,Bw Brn.name r.branches n=k:=⟨(Bw Brn.name r.branches n).toNat,by omega⟩
 obtain⟨hk1,e2,e3,e4⟩:=Rb v hk
 rw[hk]at c2
 unfold bz
 rw[e4,e3]
 have c3:=fun t=>Td s t
 by_cases h2:En s≠0
 ·rw[if_pos h2]
  generalize En s=e at c3 h2 ⊢
  refine wf ?_
  refine AN (fun _=>?_) (fun h=>absurd h h2)
  refine wf ?_
  refine Ky rfl ?_;exact .tuple3 (.of_eq rfl) (.ro _ _) (.refl _)
 rw[if_neg h2]
 have h2:=Ae.1 h2
 have vs:=LB hs h2
 rw[h2]at c3
 have c4:=fun t u=>UD r.pool s t u v.pool vs (by omega)
 by_cases h3:(DN r.pool s).2≠0
 ·rw[if_pos h3]
  generalize DN r.pool s=z at c4 h3 ⊢
  obtain⟨z1,z2⟩:=z
  refine wf ?_
  refine AN (fun _=>?_) (fun h=>absurd h h3)
  refine wf ?_
  refine Ky rfl ?_;exact .tuple3 (.of_eq rfl) (.ro _ _) (.refl _)
 rw[if_neg h3]
 have h3:=Ae.1 h3
 have hu:=ZR v.pool.asc vs.asc (by omega) h3
 have hob:=v.okB _ (AO hk1)
 have hul:(DN r.pool s).1.length≤1000000:=by
  obtain⟨s1,s2⟩:=U5.of_isU v.pool vs hu (by omega)
  have:=s1.vq.close.1.1
  omega
 generalize DN r.pool s=z at c4 h3 hu hul ⊢
 obtain⟨z1,z2⟩:=z
 dsimp only at h3 hu hul
 subst h3
 have hil:=E6 s
 have hbl:r.branches[k].ids.length≤200:=by
  have h5:=FJ hob.asc.nodup hob.sub
  have h6:=hg.1
  rw[E6]at h5;omega
 have hem:=jK (a:=r.branches[k].ids) (b:=(ids s).filter fun d=>decide (d∉r.branches[k].ids)) hu.asc hob.asc fun d hd=>by
  rcases hd with hd|hd
  ·obtain⟨x,hx,rfl⟩:=AX.1 (hob.sub d hd)
   exact AX.2 ⟨x,(hu.mem x).2 (.inl hx),rfl⟩
  ·obtain⟨x,hx,rfl⟩:=AX.1 (o6.1 hd).1
   exact AX.2 ⟨x,(hu.mem x).2 (.inr hx),rfl⟩
 rw[←hem]
 have c5:=fun l t=>NU { r with pool:=z1 } k (CU z1 l) t hk1 (show r.branches.length≤1000 by omega)
 generalize hhad:r.branches[k].ids=had at hem hbl ⊢
 have kl:B0 (z1.length≤1000000):=⟨hul⟩
 refine wz fun b14=>?_
 rw[hhad]
 refine Ag 14 ?_
 refine DU ?_
 refine CD (by kernel_rfl) ?_
 refine w1 ?_
 refine Bn (xs:= [.tmp 53]) [] (.box b6 27 (Ax Repo.zero):: .box b3 27 (Ax r)::LF) (f:=73) (cs:= []) (Bu _) rfl rfl (.refl _) _ (mv s t) fun x R0 ⟨v0,e1,hv0⟩=>?_
 subst e1
 refine wf ?_
 refine Bn (xs:= [.tmp 54,.tmp 55]) R0 (.box b6 27 (Ax Repo.zero):: .box b3 27 (Ax r)::LF) (f:=72) (cs:= []) (Bu _) rfl rfl (.refl _) _ (ji (ids s) had v0 R0 hv0 (by omega)) fun x R1 ⟨e1,e2⟩=>?_
 subst e1 e2
 rw[BL]
 have hml:=CR (fun d=>decide (d∉had)) (ids s)
 generalize (ids s).filter (fun d=>decide (d∉had))=more at hem hml ⊢
 have c6:=fun t=>aj [had,more] t (by simp;omega)
 simp only[CH,MX,B1]at c6
 refine wn ?_
 refine Db [0,7,8,9] (by decide+kernel) ?_
 refine Ai 1 ?_
 refine Ai 2 ?_
 refine Ai 3 ?_
 refine Ai 4 ?_
 refine Ai 6 ?_
 refine Af 4 0 ?_
 refine wo ?_
 refine AE ?_
 refine Ai 5 ?_
 refine Af 2 7 ?_
 refine wo ?_
 refine AE ?_
 refine Af 1 8 ?_
 refine wo ?_
 refine AE ?_
 refine Af 0 9 ?_
 refine wo ?_
 refine AE ?_
 refine C5 (by decide+kernel) ?_
 refine wf ?_
 exact Ky rfl (.of_eq rfl)⟩
theorem lQ (r:Repo) (n m:Str) (hg:DX r.pool):Bj Tryz.prog 40 [.agg (Ax r),.str n,.str m] (.tuple [.agg (Ax (ZW r n m).1),.raw (.int .i64 (ZW r n m).2)]):=⟨by
 have c1:=Gj r hg
 refine Aj Tryz.func40 Tryz.ntmps40 rfl (rs:= [.cell 6 27,.tmp 7]) rfl rfl fun hb LF=>?_
 have hml:m.length≤140737488355328:=(hb (.str m) (by simp)).str_len
 unfold ZW
 refine X8 fun b3=>?_
 refine BN fun b6=>?_
 by_cases h1:EF r≠0
 ·rw[if_pos h1]
  generalize EF r=e at c1 h1 ⊢
  refine wf ?_
  refine AN (fun _=>?_) (fun h=>absurd h h1)
  refine wf ?_
  exact CJ rfl (.of_eq rfl)
 rw[if_neg h1]
 have h1:=Ae.1 h1
 rw[h1]at c1
 have v:=(FA hg).1 h1
 have c2:=Rr r r.current v
 refine wf ?_
 refine AU (fun h=>?_) (fun h=>?_)
 ·rw[if_pos (by simpa using h)]
  refine wf ?_
  exact CJ rfl (.of_eq rfl)
 rw[if_neg (by simpa using h)]
 clear h
 refine wf ?_
 refine A1 (fun h=>?_) (fun h=>?_)
 ·rw[if_pos h]
  refine wf ?_
  exact CJ rfl (.of_eq rfl)
 rw[if_neg h]
 clear h
 have c3:=YY r n
 by_cases h2:Iq r n≠0
 ·rw[if_pos h2]
  generalize Iq r n=e at c3 h2 ⊢
  refine wf ?_
  refine AN (fun _=>?_) (fun h=>absurd h h2)
  refine wf ?_
  exact CJ rfl (.of_eq rfl)
 rw[if_neg h2]
 obtain⟨f1,f2⟩:=Oz h2
 rw[Ae.1 h2]at c3
 have hl:=v.lenT
 refine wf ?_
 refine A1 (fun h=>?_) (fun h=>?_)
 ·rw[if_pos h]
  refine wf ?_
  exact CJ rfl (.of_eq rfl)
 rw[if_neg h]
 clear h
 obtain⟨s,hs⟩:=v.cur_view
 rw[hs]at c2 ⊢
 rw[BO]at c2 ⊢
 have vs:=v.viewV hs
 have hsl:=vs.close.1.1
 have c4:=fun t=>fi s t vs (by omega)
 have c5:=fun t=>Nx (di r.tags t ⟨n,m,OM s⟩ v.ascT f2 (by omega))
 refine wn ?_
 refine BR 9 ?_ ?_
 ·decide+kernel
 refine wf ?_
 exact CJ rfl (.of_eq rfl)⟩
instance pR (x:Sto) (T:List (Dig × Bool)):Bj Tryz.prog 56 [.agg (eSto x),.pt [.fmap (Cq kDig vBool T)] 0] (.raw (.bool (!(Dr x.id T).getD false))):=⟨by
 refine Aj Tryz.func56 Tryz.ntmps56 rfl (rs:= [.tmp 3]) rfl rfl fun hb LF=>?_
 refine wf ?_
 exact Al (.refl _)⟩
theorem KR.congr {T:List (Dig × Bool)} {A B:List Dig} (h:KR T A) (e: ∀ d,d∈A↔d∈B):KR T B:=fun d=>by rw[h d,decide_eq_decide];exact e d
def tQ (m b1 b2 b4:Nat) (r:Repo) (T:List (Dig × Bool)) (L:List Res):List Res:= .map m (Cq kDig vBool T):: .box b4 84 [.raw (.map (some m))]:: .box b2 27 (Ax Repo.zero):: .box b1 27 (Ax r)::L
theorem jh (l:List Sto) (T:List (Dig × Bool)) (v:Value) (R:List Res) (hv:E7 47 37 v (l.map eSto) R) (hl:l.length≤1000000):
  B2 Tryz.prog 54 [.raw v,.clo 56 [.pt [.fmap (Cq kDig vBool T)] 0]] R (fun r L'=>r= .slice ((l.filter fun x=>(Dr x.id T).getD false).map eSto) .ro∧L'= []):=by
 have e:(l.filter fun x=>(Dr x.id T).getD false)=l.filter fun x=>!!(Dr x.id T).getD false:=QJ fun d _=>by simp
 rw[e]
 refine B2.frozenR (Uo eSto 37 (by decide) _ ?_) (TN _ _ (fun x=>!(Dr x.id T).getD false) l v R hv hl)
 have:=CR (fun x:Sto=>!!(Dr x.id T).getD false) l
 omega
theorem RK (r:Repo) (hg:DX r.pool):Bj Tryz.prog 16 [.agg (Ax r)] (.tuple [.agg (Ax (JX r).1),.raw (.int .i64 (JX r).2)]):=⟨by
 have c1:=Gj r hg
 have h200:=hg.1
 refine Aj Tryz.func16 Tryz.ntmps16 rfl (rs:= [.cell 2 27,.tmp 3]) rfl rfl fun hb LF=>?_
 unfold JX
 refine X8 fun b1=>?_
 refine BN fun b2=>?_
 by_cases h1:EF r≠0
 ·rw[if_pos h1]
  generalize EF r=e at c1 h1 ⊢
  refine wf ?_
  refine AN (fun _=>?_) (fun h=>absurd h h1)
  refine wf ?_
  exact CJ rfl (.of_eq rfl)
 rw[if_neg h1]
 have h1:=Ae.1 h1
 rw[h1]at c1
 have v:=(FA hg).1 h1
 refine wf ?_
 refine Qq fun m=>?_
 refine wf ?_
 refine BN fun b4=>?_
 refine wf ?_
 refine Fy (L':=tQ m b1 b2 b4 r [] LF) (.swap _ _ _) ?_
 refine HX (Rn r v) [17,18] (σ:=List (Dig × Bool)) (fun pre T=>KR T (pre.flatMap fun x=>ids x.2)) (fun _ _=>False) (tQ m b1 b2 b4 r) [] LF (.refl _) rfl (fun _=>rfl) (by simp) (fun s LF'=>rfl) (.refl _) (fun d=>by simp[Dr]) ?_ ?_ (fun _ _ h=>h.elim)
 ·rintro pre x T LF' hpx hT
  have hx:=Rp v (hpx.subset (EP _ (B9.2 rfl)))
  obtain⟨n,s⟩:=x
  have hsl:s.length≤200:=(v.viewV hx).close.1.1
  have hil:=E6 s
  dsimp only[rn,tQ]at hx ⊢
  refine wf ?_
  refine AV (σ:=Nat × List (Dig × Bool)) (fun z=>z.1≤s.length∧KR z.2 (pre.flatMap (fun x=>ids x.2)++(ids s).take z.1)) (fun z=>s.length - z.1) (fun z=> [(4,.raw (.pointer (some ⟨b4,0,none⟩))),(19,.slice (s.map eSto) .ro),(20,.raw (.int .i64 s.length)),(21,.raw (.int .i64 z.1))]) (fun z=>tQ m b1 b2 b4 r z.2 LF') (0,T) ⟨by simp,by simpa using hT⟩ ⟨rfl,rfl,rfl,rfl⟩ (.refl _) ?_
  rintro⟨k,T⟩ ⟨hk,hT⟩
  dsimp only[tQ]at hk hT ⊢
  refine wf ?_
  refine A1 (fun hc=>?_) (fun hc=>?_)
  ·have hlt:k < s.length:=by omega
   have hTa:=hT.add s[k].id
   rw[AL,show(ids s).take k++ [s[k].id]=(ids s).take (k+1) from by
    rw[A6 (by omega)];simp[ids]]at hTa
   refine wz fun b8=>?_
   refine Ag 8 ?_
   refine wf ?_
   exact⟨(k+1,HJ s[k].id true T),⟨by dsimp only;omega,hTa⟩,by dsimp only;omega,⟨rfl,rfl,rfl,rfl⟩,.refl _⟩
  ·rw[AA (by omega)]at hT
   refine wf ?_
   exact⟨T,by dsimp only;rw[Ez,Cn,ka,B1];exact hT,.refl _⟩
 rintro T hT
 have hT:=hT.congr (B:=Jl r) fun d=>by
  rw[aJ,Ra]
  constructor
  ·rintro⟨⟨n,s⟩,hx,hd⟩
   exact⟨n,s,Rp v hx,hd⟩
  ·rintro⟨n,s,hv,hd⟩
   rcases Lf hv with ⟨b,hb,e1,rfl⟩|⟨_,t,ht,e1,rfl⟩
   ·exact⟨cg r b,JA _ (AX.2 ⟨b,hb,rfl⟩),hd⟩
   ·exact⟨fj r t,EP _ (AX.2 ⟨t,ht,rfl⟩),hd⟩
 have hke:CU r.pool (Jl r)=r.pool.filter fun x=>(Dr x.id T).getD false:=by
  unfold CU
  exact QJ fun x _=>(hT x.id).symm
 rw[hke]
 have hfl:=CR (fun x:Sto=>(Dr x.id T).getD false) r.pool
 dsimp only[tQ]
 refine Vt (r':= .box b4 84 [.fmap (Cq kDig vBool T)]) (.refl _) (cy.box rfl fun i g1 g2=>?_) ?_
 ·match i,g1,g2 with
  |0,_,_=>exact .inr ⟨rfl,rfl⟩
  |n+1,g,_=>simp at g
 refine Ag 4 ?_
 refine wf ?_
 refine Bn (xs:= [.tmp 33]) [] (.box b2 27 (Ax Repo.zero):: .box b1 27 (Ax r)::LF) (f:=55) (cs:= []) (Bu _) rfl rfl (.refl _) _ (O0 r.pool .ro (by omega)) fun x R0 ⟨v0,e1,hv0⟩=>?_
 subst e1
 refine wf ?_
 refine Bn (xs:= [.tmp 34,.tmp 35]) R0 (.box b2 27 (Ax Repo.zero):: .box b1 27 (Ax r)::LF) (f:=54) (cs:= []) (Bu _) rfl rfl (.refl _) _ (jh r.pool T v0 R0 hv0 (by omega)) fun x R1 ⟨e1,e2⟩=>?_
 subst e1 e2
 rw[BL]
 generalize r.pool.filter (fun x=>(Dr x.id T).getD false)=pl at hfl ⊢
 have hpl:({ r with pool:=pl }:Repo).pool.length≤r.pool.length:=hfl
 refine wn ?_
 refine Db [0,3,6,7] (by decide+kernel) ?_
 refine Ai 1 ?_
 refine Ai 2 ?_
 refine C3 (fuel:=5) [0,3] (by decide+kernel) (by simp) fun i hi=>?_
 simp only[AI,Ar,or_false]at hi
 rcases hi with rfl|rfl
 ·refine⟨_,rfl,?_⟩
  refine wo ?_
  refine AE ?_
  refine C3 (fuel:=4) [3,6] (by decide+kernel) (by simp) fun i hi=>?_
  simp only[AI,Ar,or_false]at hi
  rcases hi with rfl|rfl
  ·refine⟨_,rfl,?_⟩
   refine wo ?_
   refine AE ?_
   refine Ai 4 ?_
   refine Ai 5 ?_
   refine Af 1 6 ?_
   refine wo ?_
   refine AE ?_
   refine Af 0 7 ?_
   refine wo ?_
   refine AE ?_
   refine C5 (by decide+kernel) ?_
   refine wf ?_
   exact CJ rfl (.of_eq rfl)
  ·refine⟨_,rfl,?_⟩
   refine wo ?_
   refine AE ?_
   refine Af 3 3 ?_
   refine wo ?_
   refine AE ?_
   refine Ai 4 ?_
   refine Ai 5 ?_
   refine Af 0 7 ?_
   refine wo ?_
   refine AE ?_
   refine C5 (by decide+kernel) ?_
   refine wf ?_
   exact CJ rfl (.of_eq rfl)
 ·refine⟨_,rfl,?_⟩
  refine wo ?_
  refine AE ?_
  refine Ai 4 ?_
  refine Ai 5 ?_
  refine Af 2 0 ?_
  refine wo ?_
  refine AE ?_
  refine Af 1 6 ?_
  refine wo ?_
  refine AE ?_
  refine Af 0 7 ?_
  refine wo ?_
  refine AE ?_
  refine C5 (by decide+kernel) ?_
  refine wf ?_
  exact CJ rfl (.of_eq rfl)⟩
theorem Yk {α:Type} {nm:α→Str} {l:List α} {n:Str} {k:Nat} (hk:k < l.length) (h: ∀ j (hj:j < l.length),j < k→nm l[j]≠n) (e:nm l[k]=n):Bw nm l n=k:=by
 have h2: ¬Bw nm l n < 0:=fun h2=>(EZ nm).1 h2 _ (AO hk) e
 obtain⟨i,hi⟩: ∃ i:Nat,Bw nm l n=i:=⟨(Bw nm l n).toNat,by omega⟩
 obtain⟨h3,h4,h5⟩:=Fp nm hi
 rw[hi]
 rcases Fi i k with h6|h6|h6
 ·exact absurd h4 (h i h3 h6)
 ·rw[h6]
 ·exact absurd e (h5 k h6)
theorem TH {α:Type} {nm:α→Str} {l:List α} {n:Str} (h: ∀ j (hj:j < l.length),nm l[j]≠n):Bw nm l n= -1:=by
 have h1:=Q4 nm l n
 have h2:Bw nm l n < 0:=(EZ nm).2 fun x hx=>by
  obtain⟨j,hj,rfl⟩:=Ak.1 hx
  exact h j hj
 omega
theorem cJ (s:List Sto) (d:Dig):(getS s d).isSome=decide (d∈ids s):=by
 induction s with
 |nil=>rfl
 |cons x s ih=>
  unfold getS ids
  by_cases h:x.id=d
  ·simp[h]
  ·rw[if_neg h,ih]
   simp[ids,Ne.symm h]
instance vD (l:List Dig) (t:CZ):Bj Tryz.prog 126 [.slice (l.map eDig) t] (.raw (.bool (NX l))):=⟨by
 refine Aj Tryz.func126 Tryz.ntmps126 rfl (rs:= [.tmp 2]) rfl rfl fun hb LF=>?_
 have hll:l.length≤140737488355328:=(hb (.slice (l.map eDig) t) (by simp)).slice_map
 refine wf ?_
 refine AV (σ:=Nat) (fun i=>1≤i∧ ∀ j (h0:0 < j) (hj:j < l.length),j < i→DY (l[j - 1]'(by omega)) l[j] < 0) (fun i=>l.length - i) (fun i=> [(0,.slice (l.map eDig) t),(3,.raw (.int .i64 i))]) (fun _=>LF) 1 ⟨by omega,fun j h0 hj h=>by omega⟩ ⟨rfl,rfl⟩ (.refl _) ?_
 rintro i ⟨h1,hz⟩
 refine wf ?_
 refine A1 (fun hc=>?_) (fun hc=>?_)
 ·have hlt:i < l.length:=by omega
  have e1:((i:Int) - 1).toNat=i - 1:=by omega
  have hf:=fun(h: ¬DY (l[i - 1]'(by omega)) l[i] < 0)=>Ta (l:=l) (i:=i) (by omega) hlt h
  refine wf ?_
  refine A1 (fun h=>?_) (fun h=>?_)
  ·simp only[e1]at h
   refine wf ?_
   refine Al (.of_eq ?_)
   rw[hf (by omega)]
  ·refine wf ?_
   refine⟨i+1,⟨by omega,fun j h0 hj hji=>?_⟩,by dsimp only;omega,⟨rfl,rfl⟩,.refl _⟩
   simp only[e1]at h
   by_cases e:j=i
   ·subst e;omega
   ·exact hz j h0 hj (by omega)
 ·have hasc:NX l=true:=VH fun i h0 hi=>hz i h0 hi (by omega)
  refine wf ?_
  refine Al (.of_eq ?_)
  rw[hasc]⟩
instance vG (s:List Sto) (l:List Dig) (t u:CZ):Bj Tryz.prog 127 [.slice (s.map eSto) t,.slice (l.map eDig) u] (.raw (.bool (Ck (ids s) l))):=⟨by
 refine Aj Tryz.func127 Tryz.ntmps127 rfl (rs:= [.tmp 4]) rfl rfl fun hb LF=>?_
 have hll:l.length≤140737488355328:=(hb (.slice (l.map eDig) u) (by simp)).slice_map
 refine wf ?_
 refine AV (σ:=Nat) (fun k=>k≤l.length∧ ∀ d∈l.take k,d∈ids s) (fun k=>l.length - k) (fun k=> [(0,.slice (s.map eSto) t),(1,.slice (l.map eDig) u),(5,.raw (.int .i64 k))]) (fun _=>LF) 0 ⟨by simp,by simp⟩ ⟨rfl,rfl,rfl⟩ (.refl _) ?_
 rintro k ⟨hk,hin⟩
 refine wf ?_
 refine A1 (fun hc=>?_) (fun hc=>?_)
 ·have hlt:k < l.length:=by omega
  have hs:=cJ s l[k]
  refine wz fun b6=>?_
  refine Ag 6 ?_
  refine wf ?_
  rw[hs]
  refine AN (fun h=>?_) (fun h=>?_)
  ·have hn:Ck (ids s) l=false:=by
    cases hA:Ck (ids s) l with
    |false=>rfl
    |true=>exact absurd (GG.1 hA _ (AO hlt)) h
   refine wf ?_
   refine Al (.of_eq ?_)
   rw[hn]
  ·refine wf ?_
   refine⟨k+1,⟨by omega,fun d hd=>?_⟩,by dsimp only;omega,⟨rfl,rfl,rfl⟩,.refl _⟩
   rw[A6 hlt]at hd
   rcases Ay.1 hd with hd|hd
   ·exact hin d hd
   ·rw[B9.1 hd];exact h
 ·rw[AA (by omega)]at hin
  refine wf ?_
  refine Al (.of_eq ?_)
  rw[GG.2 hin]⟩
theorem QY {r:Repo} (h:Bd (.agg (Ax r))):r.branches.length≤140737488355328:=(h.agg_at (c:= .slice (r.branches.map eBrn) .ro) (by simp[Ax])).slice_map
theorem QX {r:Repo} (h:Bd (.agg (Ax r))):r.tags.length≤140737488355328:=(h.agg_at (c:= .slice (r.tags.map eTgg) .ro) (by simp[Ax])).slice_map
instance P0 (r:Repo) (n:Str):Bj Tryz.prog 66 [.agg (Ax r),.str n] (.raw (.int .i64 (Bw Brn.name r.branches n))):=⟨by
 refine Aj Tryz.func66 Tryz.ntmps66 rfl (rs:= [.tmp 4]) rfl rfl fun hb LF=>?_
 have hll:=QY (hb (.agg (Ax r)) (by simp))
 refine wf ?_
 refine AV (σ:=Nat) (fun k=>k≤r.branches.length∧ ∀ j (hj:j < r.branches.length),j < k→r.branches[j].name≠n) (fun k=>r.branches.length - k) (fun k=> [(1,.str n),(2,.pt (Ax r) 0),(5,.raw (.int .i64 k))]) (fun _=>LF) 0 ⟨by simp,by simp⟩ ⟨rfl,rfl,rfl⟩ (.refl _) ?_
 rintro k ⟨hk,hne⟩
 refine wf ?_
 refine A1 (fun hc=>?_) (fun hc=>?_)
 ·have hlt:k < r.branches.length:=by omega
  refine wf ?_
  refine A1 (fun h=>?_) (fun h=>?_)
  ·have e:=Yk (nm:=Brn.name) hlt hne h
   refine wf ?_
   refine Al (.of_eq ?_)
   rw[e]
  ·refine wf ?_
   refine⟨k+1,⟨by omega,fun j hj hjk=>?_⟩,by dsimp only;omega,⟨rfl,rfl,rfl⟩,.refl _⟩
   by_cases e:j=k
   ·subst e;exact h
   ·exact hne j hj (by omega)
 ·have e:=TH (nm:=Brn.name) (l:=r.branches) (n:=n) fun j hj=>hne j hj (by omega)
  refine wf ?_
  refine Al (.of_eq ?_)
  rw[e]⟩
instance TG (r:Repo) (n:Str):Bj Tryz.prog 99 [.agg (Ax r),.str n] (.raw (.int .i64 (Bw Tgg.name r.tags n))):=⟨by
 refine Aj Tryz.func99 Tryz.ntmps99 rfl (rs:= [.tmp 4]) rfl rfl fun hb LF=>?_
 have hll:=QX (hb (.agg (Ax r)) (by simp))
 refine wf ?_
 refine AV (σ:=Nat) (fun k=>k≤r.tags.length∧ ∀ j (hj:j < r.tags.length),j < k→r.tags[j].name≠n) (fun k=>r.tags.length - k) (fun k=> [(1,.str n),(2,.pt (Ax r) 0),(5,.raw (.int .i64 k))]) (fun _=>LF) 0 ⟨by simp,by simp⟩ ⟨rfl,rfl,rfl⟩ (.refl _) ?_
 rintro k ⟨hk,hne⟩
 refine wf ?_
 refine A1 (fun hc=>?_) (fun hc=>?_)
 ·have hlt:k < r.tags.length:=by omega
  refine wf ?_
  refine A1 (fun h=>?_) (fun h=>?_)
  ·have e:=Yk (nm:=Tgg.name) hlt hne h
   refine wf ?_
   refine Al (.of_eq ?_)
   rw[e]
  ·refine wf ?_
   refine⟨k+1,⟨by omega,fun j hj hjk=>?_⟩,by dsimp only;omega,⟨rfl,rfl,rfl⟩,.refl _⟩
   by_cases e:j=k
   ·subst e;exact h
   ·exact hne j hj (by omega)
 ·have e:=TH (nm:=Tgg.name) (l:=r.tags) (n:=n) fun j hj=>hne j hj (by omega)
  refine wf ?_
  refine Al (.of_eq ?_)
  rw[e]⟩
instance Sh (r:Repo) (n:Str):Bj Tryz.prog 98 [.agg (Ax r),.str n] (.raw (.int .i64 (Iq r n))):=⟨by
 refine Aj Tryz.func98 Tryz.ntmps98 rfl (rs:= [.tmp 4]) rfl rfl fun hb LF=>?_
 unfold Iq
 refine wf ?_
 refine Aw (fun hp=>?_) (fun hp=>?_)
 ·rw[if_pos (.inl (An hp))]
  refine wf ?_
  exact Al (.refl _)
 have h1:=B6 hp
 refine wf ?_
 refine A1 (fun h=>?_) (fun h=>?_)
 ·rw[if_pos (.inr h)]
  refine wf ?_
  exact Al (.refl _)
 ·rw[if_neg (fun h2=>h2.elim h1 h)]
  refine wf ?_
  exact Al (.refl _)⟩
theorem Yu (s:List Sto) (l:List Dig) (t u:CZ) (v:Cg s):Bj Tryz.prog 128 [.slice (s.map eSto) t,.slice (l.map eDig) u] (.raw (.bool (Fb s l))):=⟨by
 refine Aj Tryz.func128 Tryz.ntmps128 rfl (rs:= [.tmp 4]) rfl rfl fun hb LF=>?_
 have hll:l.length≤140737488355328:=(hb (.slice (l.map eDig) u) (by simp)).slice_map
 refine wf ?_
 refine AV (σ:=Nat) (fun k=>k≤l.length∧ ∀ d∈l.take k,Ck l (ndS s d)=true) (fun k=>l.length - k) (fun k=> [(0,.slice (s.map eSto) t),(1,.slice (l.map eDig) u),(5,.raw (.int .i64 k))]) (fun _=>LF) 0 ⟨by simp,by simp⟩ ⟨rfl,rfl,rfl⟩ (.refl _) ?_
 rintro k ⟨hk,hin⟩
 refine wf ?_
 refine A1 (fun hc=>?_) (fun hc=>?_)
 ·have hlt:k < l.length:=by omega
  have i1:B0 (EA ((getS s l[k]).getD Pat.zero)=false):=⟨v.close.great _⟩
  have hnl:=aF v l[k]
  have hbad:=fun(h:Ck l (ndS s l[k])=false)=>show Fb s l=false from by
   cases hA:Fb s l with
   |false=>rfl
   |true=>rw[B5.1 hA _ (AO hlt)]at h;cases h
  refine wz fun b6=>?_
  refine Ag 6 ?_
  refine wf ?_
  rw[show BX ((getS s l[k]).getD Pat.zero)=ndS s l[k] from rfl]
  have hdo:=fun(h:Ck l (ndS s l[k])=true)=>show ∀ d∈l.take (k+1),Ck l (ndS s d)=true from fun d hd=>by
   rw[A6 hlt]at hd
   rcases Ay.1 hd with hd|hd
   ·exact hin d hd
   ·rw[B9.1 hd];exact h
  generalize ndS s l[k]=nd at hnl hbad hdo ⊢
  refine AV (σ:=Nat) (fun j=>j≤nd.length∧ ∀ d∈nd.take j,d∈l) (fun j=>nd.length - j) (fun j=> [(0,.slice (s.map eSto) t),(1,.slice (l.map eDig) u),(5,.raw (.int .i64 k)),(8,.slice (nd.map eDig) .ro),(9,.raw (.int .i64 j))]) (fun _=>LF) 0 ⟨by simp,by simp⟩ ⟨rfl,rfl,rfl,rfl,rfl⟩ (.refl _) ?_
  rintro j ⟨hj,hjn⟩
  refine wf ?_
  refine A1 (fun hc=>?_) (fun hc=>?_)
  ·have hjl:j < nd.length:=by omega
   refine wf ?_
   refine AN (fun h=>?_) (fun h=>?_)
   ·have:=hbad (by
     cases hA:Ck l nd with
     |false=>rfl
     |true=>exact absurd (GG.1 hA _ (AO hjl)) h)
    refine wf ?_
    refine Al (.of_eq ?_)
    rw[this]
   ·refine wf ?_
    refine⟨j+1,⟨by omega,fun d hd=>?_⟩,by dsimp only;omega,⟨rfl,rfl,rfl,rfl,rfl⟩,.refl _⟩
    rw[A6 hjl]at hd
    rcases Ay.1 hd with hd|hd
    ·exact hjn d hd
    ·rw[B9.1 hd];exact h
  ·rw[AA (by omega)]at hjn
   refine wf ?_
   exact⟨k+1,⟨by omega,hdo (GG.2 hjn)⟩,by dsimp only;omega,⟨rfl,rfl,rfl⟩,.refl _⟩
 ·rw[AA (by omega)]at hin
  have:Fb s l=true:=B5.2 fun d hd=>hin d hd
  refine wf ?_
  refine Al (.of_eq ?_)
  rw[this]⟩
theorem dy {α:Type} {l:List α} (h:l.Nodup) {i k:Nat} (hi:i < l.length) (hk:k < l.length) (e:l[i]=l[k]):i=k:=by
 rcases Fi i k with h1|h1|h1
 ·exact absurd e ((BQ.1 h) i k hi hk h1)
 ·exact h1
 ·exact absurd e.symm ((BQ.1 h) k i hk hi h1)
theorem kJ {s:List Sto} {l:List Dig} (ha:Eo l):Je s l=true↔ ∀ i (hi:i < l.length) k (hk:k < l.length),i=k∨Gl s l[i] l[k]=false:=by
 rw[KO]
 constructor
 ·intro h i hi k hk
  rcases h _ (AO hi) _ (AO hk)with e|e
  ·exact .inl (dy ha.nodup hi hk e)
  ·exact .inr e
 ·intro h p hp q hq
  obtain⟨i,hi,rfl⟩:=Ak.1 hp
  obtain⟨k,hk,rfl⟩:=Ak.1 hq
  rcases h i hi k hk with e|e
  ·subst e;exact .inl rfl
  ·exact .inr e
theorem aq (s:List Sto) (l:List Dig) (t u:CZ) (v:Cg s) (ha:Eo l):Bj Tryz.prog 129 [.slice (s.map eSto) t,.slice (l.map eDig) u] (.raw (.bool (Je s l))):=⟨by
 have iv:B0 (KN s):=⟨v.close⟩
 refine Aj Tryz.func129 Tryz.ntmps129 rfl (rs:= [.tmp 4]) rfl rfl fun hb LF=>?_
 have hll:l.length≤140737488355328:=(hb (.slice (l.map eDig) u) (by simp)).slice_map
 have hat:=kJ (s:=s) ha
 refine wf ?_
 refine AV (σ:=Nat) (fun i=>i≤l.length∧ ∀ a (ha:a < l.length) b (hb:b < l.length),a < i→a=b∨Gl s l[a] l[b]=false) (fun i=>l.length - i) (fun i=> [(0,.slice (s.map eSto) t),(1,.slice (l.map eDig) u),(5,.raw (.int .i64 i))]) (fun _=>LF) 0 ⟨by simp,fun a _ b _ h=>by omega⟩ ⟨rfl,rfl,rfl⟩ (.refl _) ?_
 rintro i ⟨hi,hin⟩
 refine wf ?_
 refine A1 (fun hc=>?_) (fun hc=>?_)
 ·have hlt:i < l.length:=by omega
  refine wf ?_
  refine AV (σ:=Nat) (fun k=>k≤l.length∧ ∀ b (hb:b < l.length),b < k→i=b∨Gl s l[i] l[b]=false) (fun k=>l.length - k) (fun k=> [(0,.slice (s.map eSto) t),(1,.slice (l.map eDig) u),(5,.raw (.int .i64 i)),(6,.raw (.int .i64 k))]) (fun _=>LF) 0 ⟨by simp,fun b _ h=>by omega⟩ ⟨rfl,rfl,rfl,rfl⟩ (.refl _) ?_
  rintro k ⟨hk,hkn⟩
  refine wf ?_
  refine A1 (fun hc=>?_) (fun hc=>?_)
  ·have hkl:k < l.length:=by omega
   have hnext:=fun(h:i=k∨Gl s l[i] l[k]=false)=>show ∀ b (hb:b < l.length),b < k+1→i=b∨Gl s l[i] l[b]=false from fun b hb hbk=>by
    by_cases e:b=k
    ·subst e;exact h
    ·exact hkn b hb (by omega)
   refine wf ?_
   refine Aw (fun hp=>?_) (fun hp=>?_)
   ·have hne:i≠k:=by
     simp only[AQ,A8]at hp
     omega
    refine wf ?_
    refine AU (fun h=>?_) (fun h=>?_)
    ·have:Je s l=false:=by
      cases hA:Je s l with
      |false=>rfl
      |true=>rcases hat.1 hA i hlt k hkl with e|e
             ·exact absurd e hne
             ·rw[h]at e;cases e
     refine wf ?_
     refine Al (.of_eq ?_)
     rw[this]
    ·refine wf ?_
     exact⟨k+1,⟨by omega,hnext (.inr h)⟩,by dsimp only;omega,⟨rfl,rfl,rfl,rfl⟩,.refl _⟩
   ·have he:i=k:=by
     simp only[AR,AJ]at hp
     omega
    refine wf ?_
    exact⟨k+1,⟨by omega,hnext (.inl he)⟩,by dsimp only;omega,⟨rfl,rfl,rfl,rfl⟩,.refl _⟩
  ·refine wf ?_
   refine⟨i+1,⟨by omega,fun a ha b hb hai=>?_⟩,by dsimp only;omega,⟨rfl,rfl,rfl⟩,.refl _⟩
   by_cases e:a=i
   ·subst e;exact hkn b hb (by omega)
   ·exact hin a ha b hb (by omega)
 ·have:Je s l=true:=hat.2 fun a ha b hb=>hin a ha b hb (by omega)
  refine wf ?_
  refine Al (.of_eq ?_)
  rw[this]⟩
theorem jn (r:Repo) (i:Nat):Jv r i=if EN (r.branches.getD i Brn.zero).name=false then 5 else
  if(0 < i∧Gq (r.branches.getD (i - 1) Brn.zero).name (r.branches.getD i Brn.zero).name=false)∨NX (r.branches.getD i Brn.zero).ids=false then 9 else
  if Ck (ids r.pool) (r.branches.getD i Brn.zero).ids=false then 7 else if Fb r.pool (r.branches.getD i Brn.zero).ids=false then 19 else 0:=by
 unfold Jv Fq
 by_cases hp:0 < i∧Gq (r.branches.getD (i - 1) Brn.zero).name (r.branches.getD i Brn.zero).name=false<;>cases EN (r.branches.getD i Brn.zero).name<;>cases NX (r.branches.getD i Brn.zero).ids<;>cases Ck (ids r.pool) (r.branches.getD i Brn.zero).ids<;>simp[hp]
theorem jl (r:Repo) (i:Nat):Ju r i=if EN (r.tags.getD i Tgg.zero).name=false then 5 else
  if 0 < i∧Gq (r.tags.getD (i - 1) Tgg.zero).name (r.tags.getD i Tgg.zero).name=false then 9 else
  if 0≤Bw Brn.name r.branches (r.tags.getD i Tgg.zero).name then 6 else if 1000 < ((r.tags.getD i Tgg.zero).note.length:Int)then 4 else
  if NX (r.tags.getD i Tgg.zero).tops=false then 9 else if Ck (ids r.pool) (r.tags.getD i Tgg.zero).tops=false then 7 else if Je r.pool (r.tags.getD i Tgg.zero).tops=false then 1 else 0:=by
 unfold Ju Fq
 by_cases hp:0 < i∧Gq (r.tags.getD (i - 1) Tgg.zero).name (r.tags.getD i Tgg.zero).name=false<;>cases EN (r.tags.getD i Tgg.zero).name<;>cases NX (r.tags.getD i Tgg.zero).tops<;>cases Ck (ids r.pool) (r.tags.getD i Tgg.zero).tops<;>simp[hp]
theorem U1 (r:Repo) (v:Cg r.pool):Bj Tryz.prog 64 [.agg (Ax r)] (.raw (.int .i64 (Aq (Jv r) (List.range r.branches.length)))):=⟨by
 refine Aj Tryz.func64 Tryz.ntmps64 rfl (rs:= [.tmp 2]) rfl rfl fun hb LF=>?_
 have hll:=QY (hb (.agg (Ax r)) (by simp))
 refine wf ?_
 refine AV (σ:=Nat) (fun i=>i≤r.branches.length∧ ∀ j,j < i→Jv r j=0) (fun i=>r.branches.length - i) (fun i=> [(1,.pt (Ax r) 0),(3,.raw (.int .i64 i))]) (fun _=>LF) 0 ⟨by simp,fun j h=>absurd h (FC _)⟩ ⟨rfl,rfl⟩ (.refl _) ?_
 rintro i ⟨hi,hz⟩
 refine wf ?_
 refine A1 (fun hc=>?_) (fun hc=>?_)
 ·have hlt:i < r.branches.length:=by omega
  have hat:=cf hlt hz
  have hch:=jn r i
  have hp: ∀ h:0 < i,r.branches.getD (i - 1) Brn.zero=r.branches[i - 1]'(by omega):=fun h=>ER (by omega)
  generalize r.branches.getD (i - 1) Brn.zero=y at hp hch
  rw[ER hlt]at hch
  have cc:=fun t u=>Yu r.pool r.branches[i].ids t u v
  have e2: ∀ h:0 < i,r.branches[((i:Int) - 1).toNat]'(by omega)=y:=fun h=>by rw[hp h];congr 1;omega
  refine wz fun b4=>?_
  refine Ag 4 ?_
  generalize hx:r.branches[i]=x at hch cc
  refine wf ?_
  refine AU (fun h=>?_) (fun h=>?_)
  ·rw[if_pos (by simpa using h)]at hch
   refine wf ?_
   refine Al (.of_eq ?_)
   rw[hat (by rw[hch];decide),hch]
  rw[if_neg (by simpa using h)]at hch
  clear h
  refine wf ?_
  refine BB [(40,.raw (.bool (decide ((0 < i∧Gq y.name x.name=false)∨NX x.ids=false)))),(1,.pt (Ax r) 0),(3,.raw (.int .i64 i)),(4,.pt (eBrn x) 0)] LF ?_ ?_
  ·refine Aw (fun hp=>?_) (fun hp=>?_)
   ·have h0:0 < i:=by have:=An hp;omega
    refine wf ?_
    refine bT (ax:= .str (r.branches[((i:Int) - 1).toNat]'(by omega)).name) (ay:= .str x.name) rfl rfl ?_
    rw[e2 h0]
    cases hl:Gq y.name x.name with
    |false=>
     refine wf ?_
     refine⟨⟨BW (by rfl) ?_,rfl,rfl,rfl⟩,.refl _⟩
     simp[h0]
    |true=>
     refine wf ?_
     refine⟨⟨BW (by rfl) ?_,rfl,rfl,rfl⟩,.refl _⟩
     cases NX x.ids<;>simp
   ·have h0: ¬0 < i:=by have:=B6 hp;omega
    refine wf ?_
    refine⟨⟨BW (by rfl) ?_,rfl,rfl,rfl⟩,.refl _⟩
    cases NX x.ids<;>simp[h0]
  refine wf ?_
  refine A1 (fun h=>?_) (fun h=>?_)
  ·rw[if_pos h]at hch
   refine wf ?_
   refine Al (.of_eq ?_)
   rw[hat (by rw[hch];decide),hch]
  rw[if_neg h]at hch
  clear h
  refine wf ?_
  refine AU (fun h=>?_) (fun h=>?_)
  ·rw[if_pos (by simpa using h)]at hch
   refine wf ?_
   refine Al (.of_eq ?_)
   rw[hat (by rw[hch];decide),hch]
  rw[if_neg (by simpa using h)]at hch
  clear h
  refine wf ?_
  refine AU (fun h=>?_) (fun h=>?_)
  ·rw[if_pos (by simpa using h)]at hch
   refine wf ?_
   refine Al (.of_eq ?_)
   rw[hat (by rw[hch];decide),hch]
  rw[if_neg (by simpa using h)]at hch
  refine wf ?_
  refine⟨i+1,⟨by omega,fun j hj=>?_⟩,by dsimp only;omega,⟨rfl,rfl⟩,.refl _⟩
  by_cases e:j=i
  ·subst e;exact hch
  ·exact hz j (by omega)
 ·have:=Yw (r:=r) fun j hj=>hz j (by omega)
  refine wf ?_
  refine Al (.of_eq ?_)
  rw[this]⟩
theorem dE (r:Repo) (v:Cg r.pool):Bj Tryz.prog 65 [.agg (Ax r)] (.raw (.int .i64 (Aq (Ju r) (List.range r.tags.length)))):=⟨by
 refine Aj Tryz.func65 Tryz.ntmps65 rfl (rs:= [.tmp 2]) rfl rfl fun hb LF=>?_
 have hll:=QX (hb (.agg (Ax r)) (by simp))
 refine wf ?_
 refine AV (σ:=Nat) (fun i=>i≤r.tags.length∧ ∀ j,j < i→Ju r j=0) (fun i=>r.tags.length - i) (fun i=> [(1,.pt (Ax r) 0),(3,.raw (.int .i64 i))]) (fun _=>LF) 0 ⟨by simp,fun j h=>absurd h (FC _)⟩ ⟨rfl,rfl⟩ (.refl _) ?_
 rintro i ⟨hi,hz⟩
 refine wf ?_
 refine A1 (fun hc=>?_) (fun hc=>?_)
 ·have hlt:i < r.tags.length:=by omega
  have hat:=cd hlt hz
  have hch:=jl r i
  have hp: ∀ h:0 < i,r.tags.getD (i - 1) Tgg.zero=r.tags[i - 1]'(by omega):=fun h=>GA (by omega)
  generalize r.tags.getD (i - 1) Tgg.zero=y at hp hch
  rw[GA hlt]at hch
  have cc:=fun(ha:Eo r.tags[i].tops) t u=>aq r.pool r.tags[i].tops t u v ha
  have e2: ∀ h:0 < i,r.tags[((i:Int) - 1).toNat]'(by omega)=y:=fun h=>by rw[hp h];congr 1;omega
  refine wz fun b4=>?_
  refine Ag 4 ?_
  generalize hx:r.tags[i]=x at hch cc
  refine wf ?_
  refine AU (fun h=>?_) (fun h=>?_)
  ·rw[if_pos (by simpa using h)]at hch
   refine wf ?_
   refine Al (.of_eq ?_)
   rw[hat (by rw[hch];decide),hch]
  rw[if_neg (by simpa using h)]at hch
  clear h
  refine wf ?_
  refine BB [(34,.raw (.bool (decide (0 < i∧Gq y.name x.name=false)))),(1,.pt (Ax r) 0),(3,.raw (.int .i64 i)),(4,.pt (eTgg x) 0)] LF ?_ ?_
  ·refine Aw (fun hp=>?_) (fun hp=>?_)
   ·have h0:0 < i:=by have:=An hp;omega
    refine wf ?_
    refine bT (ax:= .str (r.tags[((i:Int) - 1).toNat]'(by omega)).name) (ay:= .str x.name) rfl rfl ?_
    rw[e2 h0]
    refine wf ?_
    refine⟨⟨BW (by rfl) ?_,rfl,rfl,rfl⟩,.refl _⟩
    cases Gq y.name x.name<;>simp[h0]
   ·have h0: ¬0 < i:=by have:=B6 hp;omega
    refine wf ?_
    refine⟨⟨BW (by rfl) ?_,rfl,rfl,rfl⟩,.refl _⟩
    simp[h0]
  refine wf ?_
  refine A1 (fun h=>?_) (fun h=>?_)
  ·rw[if_pos h]at hch
   refine wf ?_
   refine Al (.of_eq ?_)
   rw[hat (by rw[hch];decide),hch]
  rw[if_neg h]at hch
  clear h
  refine wf ?_
  refine A1 (fun h=>?_) (fun h=>?_)
  ·rw[if_pos h]at hch
   refine wf ?_
   refine Al (.of_eq ?_)
   rw[hat (by rw[hch];decide),hch]
  rw[if_neg h]at hch
  clear h
  refine wf ?_
  refine A1 (fun h=>?_) (fun h=>?_)
  ·rw[if_pos h]at hch
   refine wf ?_
   refine Al (.of_eq ?_)
   rw[hat (by rw[hch];decide),hch]
  rw[if_neg h]at hch
  clear h
  refine wf ?_
  refine AU (fun h=>?_) (fun h=>?_)
  ·rw[if_pos (by simpa using h)]at hch
   refine wf ?_
   refine Al (.of_eq ?_)
   rw[hat (by rw[hch];decide),hch]
  rw[if_neg (by simpa using h)]at hch
  have cc:=cc (QB.1 (by simpa using h))
  clear h
  refine wf ?_
  refine AU (fun h=>?_) (fun h=>?_)
  ·rw[if_pos (by simpa using h)]at hch
   refine wf ?_
   refine Al (.of_eq ?_)
   rw[hat (by rw[hch];decide),hch]
  rw[if_neg (by simpa using h)]at hch
  clear h
  refine wf ?_
  refine AU (fun h=>?_) (fun h=>?_)
  ·rw[if_pos (by simpa using h)]at hch
   refine wf ?_
   refine Al (.of_eq ?_)
   rw[hat (by rw[hch];decide),hch]
  rw[if_neg (by simpa using h)]at hch
  refine wf ?_
  refine⟨i+1,⟨by omega,fun j hj=>?_⟩,by dsimp only;omega,⟨rfl,rfl⟩,.refl _⟩
  by_cases e:j=i
  ·subst e;exact hch
  ·exact hz j (by omega)
 ·have:=Yv (r:=r) fun j hj=>hz j (by omega)
  refine wf ?_
  refine Al (.of_eq ?_)
  rw[this]⟩
theorem Ft (r:Repo) (hg:DX r.pool):Bj Tryz.prog 19 [.agg (Ax r)] (.raw (.int .i64 (EF r))):=⟨by
 have ig:B0 (DX r.pool):=⟨hg⟩
 refine Aj Tryz.func19 Tryz.ntmps19 rfl (rs:= [.tmp 2]) rfl rfl fun hb LF=>?_
 have hbl:=QY (hb (.agg (Ax r)) (by simp))
 have htl:=QX (hb (.agg (Ax r)) (by simp))
 have c1:=fun t=>VU r.pool t
 unfold EF
 by_cases h1:En r.pool≠0
 ·rw[if_pos h1]
  generalize En r.pool=e at c1 h1 ⊢
  refine wf ?_
  refine AN (fun _=>?_) (fun h=>absurd h h1)
  refine wf ?_
  exact Al (.refl _)
 rw[if_neg h1]
 have v:=LB hg (Ae.1 h1)
 rw[Ae.1 h1]at c1
 have c2:=U1 r v
 have c3:=dE r v
 refine wf ?_
 refine Aw (fun hp=>?_) (fun hp=>?_)
 ·rw[if_pos (.inl (An hp))]
  refine wf ?_
  exact Al (.refl _)
 have hb1:=B6 hp
 refine wf ?_
 refine A1 (fun h=>?_) (fun h=>?_)
 ·rw[if_pos (.inr h)]
  refine wf ?_
  exact Al (.refl _)
 rw[if_neg (by omega)]
 by_cases h2:Aq (Jv r) (List.range r.branches.length)≠0
 ·rw[if_pos h2]
  generalize Aq (Jv r) (List.range r.branches.length)=e at c2 h2 ⊢
  refine wf ?_
  refine AN (fun _=>?_) (fun h=>absurd h h2)
  refine wf ?_
  exact Al (.refl _)
 rw[if_neg h2]
 rw[Ae.1 h2]at c2
 by_cases h3:Aq (Ju r) (List.range r.tags.length)≠0
 ·rw[if_pos h3]
  generalize Aq (Ju r) (List.range r.tags.length)=e at c3 h3 ⊢
  refine wf ?_
  refine AN (fun _=>?_) (fun h=>absurd h h3)
  refine wf ?_
  exact Al (.refl _)
 rw[if_neg h3]
 rw[Ae.1 h3]at c3
 refine wf ?_
 refine A1 (fun h=>?_) (fun h=>?_)
 ·rw[if_pos h]
  refine wf ?_
  exact Al (.refl _)
 rw[if_neg h]
 refine wf ?_
 exact Al (.refl _)⟩
instance ij (n:Str):Bj Tryz.prog 41 [.str n] (.tuple [.agg (Ax (YI n).1),.raw (.int .i64 (YI n).2)]):=⟨by
 refine Aj Tryz.func41 Tryz.ntmps41 rfl (rs:= [.cell 2 27,.tmp 3]) rfl rfl fun hb LF=>?_
 unfold YI
 refine wf ?_
 refine BN fun b2=>?_
 refine wf ?_
 refine AU (fun h=>?_) (fun h=>?_)
 ·rw[if_pos (by simpa using h)]
  refine wf ?_
  exact CJ rfl (.of_eq rfl)
 ·rw[if_neg (by simpa using h)]
  refine wf ?_
  exact CJ rfl (.of_eq rfl)⟩
theorem Jw (r:Repo) (n:Str) (v:Cg r.pool):Bj Tryz.prog 52 [.agg (Ax r),.str n] (.tuple [.slice (((EC r n).getD []).map eSto) .ro,.raw (.bool (EC r n).isSome)]):=⟨by
 have h200:=v.close.1.1
 have iv:B0 (KN r.pool):=⟨v.close⟩
 have kl:B0 (r.pool.length≤1000000):=⟨by omega⟩
 refine Aj Tryz.func52 Tryz.ntmps52 rfl (rs:= [.tmp 4,.tmp 5]) rfl rfl fun hb LF=>?_
 have hbl:=QY (hb (.agg (Ax r)) (by simp))
 have htl:=QX (hb (.agg (Ax r)) (by simp))
 unfold EC
 have c1:=P0 r n
 have c2:=TG r n
 by_cases h1:0≤Bw Brn.name r.branches n
 ·obtain⟨k,hk⟩: ∃ k:Nat,Bw Brn.name r.branches n=k:=⟨(Bw Brn.name r.branches n).toNat,by omega⟩
  obtain⟨hk1,_,_⟩:=Fp _ hk
  rw[if_pos h1,hk,Br,ER hk1]
  rw[hk]at c1
  refine wf ?_
  refine Ei ?_;exact .refl _
 rw[if_neg h1]
 refine wf ?_
 refine A1 (fun h=>absurd h h1) (fun _=>?_)
 clear c1 h1
 by_cases h2:0≤Bw Tgg.name r.tags n
 ·obtain⟨k,hk⟩: ∃ k:Nat,Bw Tgg.name r.tags n=k:=⟨(Bw Tgg.name r.tags n).toNat,by omega⟩
  obtain⟨hk1,_,_⟩:=Fp _ hk
  rw[if_pos h2,hk,Br,GA hk1]
  rw[hk]at c2
  refine wf ?_
  refine Ei ?_;exact .refl _
 rw[if_neg h2]
 refine wf ?_
 refine A1 (fun h=>?_) (fun h=>?_)
 ·refine wf ?_
  refine Ei ?_;exact .tuple2 (.ro _ _) (.refl _)
 ·omega⟩
theorem dK (r:Repo) (n:Str) (hg:DX r.pool):Bj Tryz.prog 15 [.agg (Ax r),.str n] (.tuple [.slice ((PH r n).1.map eSto) .ro,.raw (.int .i64 (PH r n).2)]):=⟨by
 have c1:=Ft r hg
 refine Aj Tryz.func15 Tryz.ntmps15 rfl (rs:= [.tmp 4,.tmp 5]) rfl rfl fun hb LF=>?_
 unfold PH
 by_cases h1:EF r≠0
 ·rw[if_pos h1]
  generalize EF r=e at c1 h1 ⊢
  refine wf ?_
  refine AN (fun _=>?_) (fun h=>absurd h h1)
  refine wf ?_
  refine Ei ?_;exact .tuple2 (.ro _ _) (.refl _)
 rw[if_neg h1]
 have h1:=Ae.1 h1
 rw[h1]at c1
 have c2:=Jw r n ((FA hg).1 h1).pool
 cases hv:EC r n with
 |none=>
  rw[hv]at c2
  simp only[BO,De,Ea,BZ]at c2
  refine wf ?_
  refine Ei ?_;exact .tuple2 (.ro _ _) (.refl _)
 |some s=>
  rw[hv]at c2
  simp only[BO,De,Ea,BZ]at c2
  refine wf ?_
  refine Ei ?_;exact .refl _⟩
theorem XI (r:Repo) (n:Str) (hg:DX r.pool):Bj Tryz.prog 44 [.agg (Ax r),.str n] (.tuple [.agg (Ax (Lj r n).1),.raw (.int .i64 (Lj r n).2)]):=⟨by
 have c1:=Ft r hg
 refine Aj Tryz.func44 Tryz.ntmps44 rfl (rs:= [.cell 4 27,.tmp 5]) rfl rfl fun hb LF=>?_
 unfold Lj
 refine X8 fun b2=>?_
 refine BN fun b4=>?_
 by_cases h1:EF r≠0
 ·rw[if_pos h1]
  generalize EF r=e at c1 h1 ⊢
  refine wf ?_
  refine AN (fun _=>?_) (fun h=>absurd h h1)
  refine wf ?_
  exact CJ rfl (.of_eq rfl)
 rw[if_neg h1]
 have h1:=Ae.1 h1
 rw[h1]at c1
 refine wf ?_
 refine A1 (fun h=>?_) (fun h=>?_)
 ·rw[if_pos h]
  refine wf ?_
  exact CJ rfl (.of_eq rfl)
 ·rw[if_neg h]
  refine wf ?_
  exact CJ rfl (.of_eq rfl)⟩
theorem Nf (r:Repo) (x:Brn) (hl:r.branches.length≤1000):Bj Tryz.prog 79 [.agg (Ax r),.agg (eBrn x)] (.agg (Ax { r with branches:=Jg Brn.name r.branches x })):=⟨by
 refine Aj Tryz.func79 Tryz.ntmps79 rfl (rs:= [.cell 4 27]) rfl rfl fun hb LF=>?_
 refine X8 fun b2=>?_
 refine wf ?_
 refine BN fun b4=>?_
 refine wf ?_
 refine AV (σ:=Nat) (fun k=>k≤r.branches.length∧ ∀ j (hj:j < r.branches.length),j < k→Gq r.branches[j].name x.name=true) (fun k=>r.branches.length - k) (fun k=> [(2,.raw (.pointer (some ⟨b2,0,none⟩))),(3,.pt (eBrn x) 0),(4,.raw (.pointer (some ⟨b4,0,none⟩))),(5,.raw (.int .i64 k))]) (fun _=> .box b4 27 (Ax Repo.zero):: .box b2 27 (Ax r)::LF) 0 ⟨by simp,fun j _ h=>absurd h (FC _)⟩ ⟨rfl,rfl,rfl,rfl⟩ (.refl _) ?_
 rintro k ⟨hk,he⟩
 refine wf ?_
 refine BB [(22,.raw (.bool (decide (k < r.branches.length∧Gq (r.branches.getD k Brn.zero).name x.name=true)))),(2,.raw (.pointer (some ⟨b2,0,none⟩))),(3,.pt (eBrn x) 0),(4,.raw (.pointer (some ⟨b4,0,none⟩))),(5,.raw (.int .i64 k))] (.box b4 27 (Ax Repo.zero):: .box b2 27 (Ax r)::LF) ?_ ?_
 ·refine Aw (fun hp=>?_) (fun hp=>?_)
  ·have hlt:k < r.branches.length:=by have:=An hp;omega
   rw[ER hlt]
   refine wf ?_
   refine oQ (ax:= .str r.branches[k].name) (ay:= .str x.name) rfl rfl ?_
   refine wf ?_
   refine⟨⟨BW (by rfl) ?_,rfl,rfl,rfl,rfl⟩,.refl _⟩
   cases Gq r.branches[k].name x.name<;>simp[hlt]
  ·have hlt: ¬k < r.branches.length:=by have:=B6 hp;omega
   refine wf ?_
   refine⟨⟨BW (by rfl) ?_,rfl,rfl,rfl,rfl⟩,.refl _⟩
   simp[hlt]
 refine wf ?_
 refine A1 (fun h=>?_) (fun h=>?_)
 ·obtain⟨hlt,h⟩:=h
  rw[ER hlt]at h
  refine wf ?_
  refine⟨k+1,⟨by omega,fun j hj hjk=>?_⟩,by dsimp only;omega,⟨rfl,rfl,rfl,rfl⟩,.refl _⟩
  by_cases e:j=k
  ·subst e;exact h
  ·exact he j hj (by omega)
 have hp:IK Brn.name r.branches x.name=k:=Vv _ hk (fun j hj=>he j (by omega) hj) fun hlt=>by
  cases h2:Gq r.branches[k].name x.name with
  |false=>rfl
  |true=>exact absurd ⟨hlt,by rw[ER hlt];exact h2⟩ h
 have hw:Jg Brn.name r.branches x=if k < r.branches.length∧(r.branches.getD k Brn.zero).name=x.name then r.branches.take k++ [x]++r.branches.drop (k+1)else r.branches.take k++ [x]++r.branches.drop k:=by
  unfold Jg
  simp only[hp]
  by_cases hlt:k < r.branches.length
  ·rw[ER hlt]
   by_cases e:r.branches[k].name=x.name
   ·rw[if_pos ⟨hlt,e⟩,if_pos ⟨hlt,e⟩];simp
   ·rw[if_neg (fun⟨_,h⟩=>e h),if_neg (fun h=>e h.2)];simp
  ·rw[if_neg (fun⟨h,_⟩=>hlt h),if_neg (fun h=>hlt h.1)];simp
 clear h hp he
 refine QL fun t1=>?_
 refine QL fun t2=>?_
 refine BB [(50,.raw (.bool (decide (k < r.branches.length∧(r.branches.getD k Brn.zero).name=x.name)))),(2,.raw (.pointer (some ⟨b2,0,none⟩))),(4,.raw (.pointer (some ⟨b4,0,none⟩))),(5,.raw (.int .i64 k)),(6,.slice ((r.branches.take k++ [x]).map eBrn) t2)] (.tok t2 (r.branches.take k++ [x]).length 2:: .box b4 27 (Ax Repo.zero):: .box b2 27 (Ax r)::LF) ?_ ?_
 ·refine Aw (fun hp=>?_) (fun hp=>?_)
  ·have hlt:k < r.branches.length:=by have:=An hp;omega
   rw[ER hlt]
   refine wf ?_
   refine⟨⟨BW (by rfl) ?_,rfl,rfl,rfl,rfl⟩,.refl _⟩
   simp[hlt]
  ·have hlt: ¬k < r.branches.length:=by have:=B6 hp;omega
   refine wf ?_
   refine⟨⟨BW (by rfl) ?_,rfl,rfl,rfl,rfl⟩,.refl _⟩
   simp[hlt]
 refine wf ?_
 refine A1 (fun h=>?_) (fun h=>?_)
 ·rw[if_pos h]at hw
  rw[hw]
  have hlt:=h.1
  refine wf ?_
  refine Hh (i:=k+1) rfl rfl (by omega) ?_
  refine QL fun t3=>?_
  exact FK rfl (.of_eq rfl)
 ·rw[if_neg h]at hw
  rw[hw]
  refine QL fun t3=>?_
  exact FK rfl (.of_eq rfl)⟩
theorem Z1 (r:Repo) (n m:Str) (hg:DX r.pool):Bj Tryz.prog 42 [.agg (Ax r),.str n,.str m] (.tuple [.agg (Ax (Kl r n m).1),.raw (.int .i64 (Kl r n m).2)]):=⟨by
 have c1:=Ft r hg
 refine Aj Tryz.func42 Tryz.ntmps42 rfl (rs:= [.cell 6 27,.tmp 7]) rfl rfl fun hb LF=>?_
 unfold Kl
 refine wf ?_
 refine BN fun b6=>?_
 by_cases h1:EF r≠0
 ·rw[if_pos h1]
  generalize EF r=e at c1 h1 ⊢
  refine wf ?_
  refine AN (fun _=>?_) (fun h=>absurd h h1)
  refine wf ?_
  exact CJ rfl (.of_eq rfl)
 rw[if_neg h1]
 have h1:=Ae.1 h1
 rw[h1]at c1
 have v:=(FA hg).1 h1
 have hl:=v.lenB
 have c2:=Jw r m v.pool
 refine wf ?_
 refine AU (fun h=>?_) (fun h=>?_)
 ·rw[if_pos (by simpa using h)]
  refine wf ?_
  exact CJ rfl (.of_eq rfl)
 rw[if_neg (by simpa using h)]
 clear h
 have c3:=Sh r n
 by_cases h2:Iq r n≠0
 ·rw[if_pos h2]
  generalize Iq r n=e at c3 h2 ⊢
  refine wf ?_
  refine AN (fun _=>?_) (fun h=>absurd h h2)
  refine wf ?_
  exact CJ rfl (.of_eq rfl)
 rw[if_neg h2]
 rw[Ae.1 h2]at c3
 cases hv:EC r m with
 |none=>
  rw[hv]at c2
  simp only[BO,De,Ea,BZ]at c2
  refine wf ?_
  exact CJ rfl (.of_eq rfl)
 |some s=>
  rw[hv]at c2
  simp only[BO,De,Ea,BZ]at c2
  dsimp only
  have c4:=Nf r ⟨n,ids s⟩ (by omega)
  refine wf ?_
  refine A1 (fun h=>?_) (fun h=>?_)
  ·rw[if_pos (by omega)]
   refine wf ?_
   exact CJ rfl (.of_eq rfl)
  ·rw[if_neg (by omega)]
   refine wn ?_
   refine BR 6 ?_ ?_
   ·decide+kernel
   refine wf ?_
   exact CJ rfl (.of_eq rfl)⟩
theorem H2 {α:Type} [DecidableEq α] (a:α):decide (a=a)=true:=Bh rfl
theorem nY (x y:Brn):x=y↔x.name=y.name∧x.ids=y.ids:=by cases x;cases y;simp
theorem lP (x y:Tgg):x=y↔x.name=y.name∧x.note=y.note∧x.tops=y.tops:=by cases x;cases y;simp
theorem bH {α:Type} {l m:List α} (hl:l.length=m.length) (h:l.take l.length=m.take l.length):l=m:=by
 rw[Cy,hl,Cy]at h;exact h
theorem UG {α:Type} {l m:List α} {k:Nat} (h1:k < l.length) (h2:k < m.length) (h:l.take k=m.take k) (e:l[k]=m[k]):l.take (k+1)=m.take (k+1):=by
 rw[A6 h1,A6 h2,h,e]
instance sd (a b:Repo):Bj Tryz.prog 21 [.agg (Ax a),.agg (Ax b)] (.raw (.bool (decide (a=b)))):=⟨by
 refine Aj Tryz.func21 Tryz.ntmps21 rfl (rs:= [.tmp 4]) rfl rfl fun hb LF=>?_
 have hbl:=QY (hb (.agg (Ax a)) (by simp))
 have htl:=QX (hb (.agg (Ax a)) (by simp))
 clear hb
 refine wf ?_
 refine BB [(37,.raw (.bool (decide (¬(a.pool=b.pool∧a.current=b.current∧a.branches.length=b.branches.length∧a.tags.length=b.tags.length))))),(2,.pt (Ax a) 0),(3,.pt (Ax b) 0)] (LF) ?_ ?_
 ·repeat' (first|(refine A1 (fun h=>?_) (fun h=>?_)<;>refine wf ?_)|(refine AN (fun h=>?_) (fun h=>?_)<;>refine wf ?_)|(refine AU (fun h=>?_) (fun h=>?_)<;>refine wf ?_)|(refine Aw (fun h=>?_) (fun h=>?_)<;>(have h2:=h;(try simp only[AJ,A8,AQ,AR]at h2);refine wf ?_)))
  all_goals (refine⟨⟨BW (by rfl) ?_,rfl,rfl⟩,.refl _⟩;first|(simp_all;done)|(simp_all;omega)|grind)
 refine wf ?_
 refine A1 (fun h=>?_) (fun h=>?_)
 ·have hne: ¬a=b:=fun e=>h (by subst e;exact⟨rfl,rfl,rfl,rfl⟩)
  refine wf ?_
  refine Al (.of_eq ?_)
  simp[hne]
 obtain⟨hp,hcu,hl1,hl2⟩:=Ae.1 h
 clear h
 refine wf ?_
 refine AV (σ:=Nat) (fun k=>k≤a.branches.length∧a.branches.take k=b.branches.take k) (fun k=>a.branches.length - k) (fun k=> [(2,.pt (Ax a) 0),(3,.pt (Ax b) 0),(5,.raw (.int .i64 k))]) (fun _=>LF) 0 ⟨by simp,by simp⟩ ⟨rfl,rfl,rfl⟩ (.refl _) ?_
 rintro k ⟨hk,hq⟩
 refine wf ?_
 refine A1 (fun hc=>?_) (fun hc=>?_)
 ·have hlt:k < a.branches.length:=by omega
  have hlt2:k < b.branches.length:=by omega
  have hi:=nY a.branches[k] b.branches[k]
  refine wf ?_
  refine BB [(73,.raw (.bool (decide (¬(a.branches[k]=b.branches[k]))))),(2,.pt (Ax a) 0),(3,.pt (Ax b) 0),(5,.raw (.int .i64 k))] (LF) ?_ ?_
  ·repeat' (first|(refine A1 (fun h=>?_) (fun h=>?_)<;>refine wf ?_)|(refine AN (fun h=>?_) (fun h=>?_)<;>refine wf ?_)|(refine AU (fun h=>?_) (fun h=>?_)<;>refine wf ?_)|(refine Aw (fun h=>?_) (fun h=>?_)<;>(have h2:=h;(try simp only[AJ,A8,AQ,AR]at h2);refine wf ?_)))
   all_goals (refine⟨⟨BW (by rfl) ?_,rfl,rfl,rfl⟩,.refl _⟩;(simp only[hi];clear hi hq hp;first|(simp_all;done)|grind))
  refine wf ?_
  refine A1 (fun h=>?_) (fun h=>?_)
  ·have hne: ¬a=b:=fun e=>h (by subst e;rfl)
   refine wf ?_
   refine Al (.of_eq ?_)
   simp[hne]
  ·refine wf ?_
   exact⟨k+1,⟨by omega,UG hlt hlt2 hq (Ae.1 h)⟩,by dsimp only;omega,⟨rfl,rfl,rfl⟩,.refl _⟩
 have hkk:k=a.branches.length:=by omega
 subst hkk
 have hB:=bH hl1 hq
 clear hq hc hk
 refine wf ?_
 refine AV (σ:=Nat) (fun k=>k≤a.tags.length∧a.tags.take k=b.tags.take k) (fun k=>a.tags.length - k) (fun k=> [(2,.pt (Ax a) 0),(3,.pt (Ax b) 0),(6,.raw (.int .i64 k))]) (fun _=>LF) 0 ⟨by simp,by simp⟩ ⟨rfl,rfl,rfl⟩ (.refl _) ?_
 rintro k ⟨hk,hq⟩
 refine wf ?_
 refine A1 (fun hc=>?_) (fun hc=>?_)
 ·have hlt:k < a.tags.length:=by omega
  have hlt2:k < b.tags.length:=by omega
  have hi:=lP a.tags[k] b.tags[k]
  refine wf ?_
  refine BB [(124,.raw (.bool (decide (¬(a.tags[k]=b.tags[k]))))),(2,.pt (Ax a) 0),(3,.pt (Ax b) 0),(6,.raw (.int .i64 k))] (LF) ?_ ?_
  ·repeat' (first|(refine A1 (fun h=>?_) (fun h=>?_)<;>refine wf ?_)|(refine AN (fun h=>?_) (fun h=>?_)<;>refine wf ?_)|(refine AU (fun h=>?_) (fun h=>?_)<;>refine wf ?_)|(refine Aw (fun h=>?_) (fun h=>?_)<;>(have h2:=h;(try simp only[AJ,A8,AQ,AR]at h2);refine wf ?_)))
   all_goals (refine⟨⟨BW (by rfl) ?_,rfl,rfl,rfl⟩,.refl _⟩;(simp only[hi];clear hi hq hp hB;first|(simp_all;done)|grind))
  refine wf ?_
  refine A1 (fun h=>?_) (fun h=>?_)
  ·have hne: ¬a=b:=fun e=>h (by subst e;rfl)
   refine wf ?_
   refine Al (.of_eq ?_)
   simp[hne]
  ·refine wf ?_
   exact⟨k+1,⟨by omega,UG hlt hlt2 hq (Ae.1 h)⟩,by dsimp only;omega,⟨rfl,rfl,rfl⟩,.refl _⟩
 ·have hkk:k=a.tags.length:=by omega
  subst hkk
  have hT:=bH hl2 hq
  have he:a=b:=by
   cases a;cases b
   simp only at hp hcu hB hT
   rw[hp,hcu,hB,hT]
  refine wf ?_
  refine Al (.of_eq ?_)
  simp[he]⟩
def gB (b:Brn):Bool:=decide (60 < (b.name.length:Int))||decide (12 < (b.ids.length:Int))
def gT (t:Tgg):Bool:=decide (60 < (t.name.length:Int))||decide (1500 < (t.note.length:Int))||decide (12 < (t.tops.length:Int))
def Kg (r:Repo):Bool:=r.branches.any gB||r.tags.any gT||(Gp r.pool||decide (8 < (r.branches.length:Int))||decide (8 < (r.tags.length:Int)))
theorem NK {r:Repo} (h:Kg r=false):DX r.pool∧r.pool.length≤8∧r.branches.length≤8∧r.tags.length≤8:=by
 unfold Kg at h
 simp only[Bz,A8]at h
 obtain⟨⟨_,_⟩,⟨h1,h2⟩,h3⟩:=h
 refine⟨NL h1,?_,by omega,by omega⟩
 unfold Gp at h1
 simp only[Bz,A8]at h1
 omega
instance rP (r:Repo):Bj Tryz.prog 12 [.agg (Ax r)] (.raw (.bool (Kg r))):=⟨by
 refine Aj Tryz.func12 Tryz.ntmps12 rfl (rs:= [.tmp 2]) rfl rfl fun hb LF=>?_
 have hbl:=QY (hb (.agg (Ax r)) (by simp))
 have htl:=QX (hb (.agg (Ax r)) (by simp))
 clear hb
 refine wf ?_
 refine AV (σ:=Nat) (fun k=>k≤r.branches.length∧(r.branches.take k).any gB=false) (fun k=>r.branches.length - k) (fun k=> [(1,.pt (Ax r) 0),(3,.raw (.int .i64 k))]) (fun _=>LF) 0 ⟨by simp,by simp⟩ ⟨rfl,rfl⟩ (.refl _) ?_
 rintro k ⟨hk,hn⟩
 refine wf ?_
 refine A1 (fun hc=>?_) (fun hc=>?_)
 ·have hlt:k < r.branches.length:=by omega
  have hx:gB r.branches[k]=(decide (60 < (r.branches[k].name.length:Int))||decide (12 < (r.branches[k].ids.length:Int))):=rfl
  refine wf ?_
  refine BB [(29,.raw (.bool (gB r.branches[k]))),(1,.pt (Ax r) 0),(3,.raw (.int .i64 k))] (LF) ?_ ?_
  ·repeat' (first|(refine A1 (fun h=>?_) (fun h=>?_)<;>refine wf ?_)|(refine AN (fun h=>?_) (fun h=>?_)<;>refine wf ?_)|(refine AU (fun h=>?_) (fun h=>?_)<;>refine wf ?_)|(refine Aw (fun h=>?_) (fun h=>?_)<;>(have h2:=h;(try simp only[AJ,A8,AQ,AR]at h2);refine wf ?_)))
   all_goals (refine⟨⟨BW (by rfl) ?_,rfl,rfl⟩,.refl _⟩;(rw[hx];clear hx hn;first|(simp_all;done)|grind))
  refine wf ?_
  refine AU (fun h=>?_) (fun h=>?_)
  ·have:r.branches.any gB=true:=Bg.2 ⟨_,AO hlt,h⟩
   refine wf ?_
   refine Al (.of_eq ?_)
   unfold Kg
   rw[this];rfl
  ·refine wf ?_
   refine⟨k+1,⟨by omega,?_⟩,by dsimp only;omega,⟨rfl,rfl⟩,.refl _⟩
   rw[A6 hlt,FE,hn]
   simp[h]
 rw[AA (by omega)]at hn
 unfold Kg
 rw[hn,IB]
 clear hn hc hk
 refine wf ?_
 refine AV (σ:=Nat) (fun k=>k≤r.tags.length∧(r.tags.take k).any gT=false) (fun k=>r.tags.length - k) (fun k=> [(1,.pt (Ax r) 0),(4,.raw (.int .i64 k))]) (fun _=>LF) 0 ⟨by simp,by simp⟩ ⟨rfl,rfl⟩ (.refl _) ?_
 rintro k ⟨hk,hn⟩
 refine wf ?_
 refine A1 (fun hc=>?_) (fun hc=>?_)
 ·have hlt:k < r.tags.length:=by omega
  have hx:gT r.tags[k]=(decide (60 < (r.tags[k].name.length:Int))||decide (1500 < (r.tags[k].note.length:Int))||decide (12 < (r.tags[k].tops.length:Int))):=rfl
  refine wf ?_
  refine BB [(64,.raw (.bool (gT r.tags[k]))),(1,.pt (Ax r) 0),(4,.raw (.int .i64 k))] (LF) ?_ ?_
  ·repeat' (first|(refine A1 (fun h=>?_) (fun h=>?_)<;>refine wf ?_)|(refine AN (fun h=>?_) (fun h=>?_)<;>refine wf ?_)|(refine AU (fun h=>?_) (fun h=>?_)<;>refine wf ?_)|(refine Aw (fun h=>?_) (fun h=>?_)<;>(have h2:=h;(try simp only[AJ,A8,AQ,AR]at h2);refine wf ?_)))
   all_goals (refine⟨⟨BW (by rfl) ?_,rfl,rfl⟩,.refl _⟩;(rw[hx];clear hx hn;first|(simp_all;done)|grind))
  refine wf ?_
  refine AU (fun h=>?_) (fun h=>?_)
  ·have:r.tags.any gT=true:=Bg.2 ⟨_,AO hlt,h⟩
   refine wf ?_
   refine Al (.of_eq ?_)
   rw[this];rfl
  ·refine wf ?_
   refine⟨k+1,⟨by omega,?_⟩,by dsimp only;omega,⟨rfl,rfl⟩,.refl _⟩
   rw[A6 hlt,FE,hn]
   simp[h]
 ·rw[AA (by omega)]at hn
  rw[hn,IB]
  clear hn hc hk
  refine wf ?_
  repeat' (first|(refine A1 (fun h=>?_) (fun h=>?_)<;>refine wf ?_)|(refine AN (fun h=>?_) (fun h=>?_)<;>refine wf ?_)|(refine AU (fun h=>?_) (fun h=>?_)<;>refine wf ?_)|(refine Aw (fun h=>?_) (fun h=>?_)<;>(have h2:=h;(try simp only[AJ,A8,AQ,AR]at h2);refine wf ?_)))
  all_goals (refine Al (.of_eq ?_);first|(simp_all;done)|grind)⟩
end Go.Proofs
namespace Go.Proofs
open Go Go.Q
def kr:Dig:=⟨[34,146,43,11,115,119,30,84,189,61,174,132,217,219,241,187,206,156,26,154,125,15,91,131,51,245,1,187,222,222,70,197],rfl⟩
def sv:Dig:=⟨[132,22,215,213,92,125,40,141,176,74,173,235,87,8,2,136,82,118,129,103,71,231,247,23,93,64,130,163,152,197,227,117],rfl⟩
def fO (t:Int):Pat:=⟨[97,110,110],[],t,[],[y4]⟩
abbrev Im:Str:= [109,97,105,110]
abbrev N0:Str:= [115,105,100,101]
def vg:List Sto:= [⟨kr,fO 1⟩]
def ve:List Sto:= [⟨kr,fO 1⟩,⟨sv,fO 2⟩]
def xF:Repo:=⟨[],[⟨Im,[]⟩],[],Im⟩
def vi:Repo:=⟨vg,[⟨Im,[kr]⟩],[],Im⟩
def vh:Repo:=⟨vg,[⟨Im,[kr]⟩,⟨N0,[kr]⟩],[],Im⟩
def o8:Repo:=⟨ve,[⟨Im,[kr]⟩,⟨N0,[kr,sv]⟩],[],Im⟩
def xE:Repo:=⟨ve,[⟨Im,[kr]⟩,⟨N0,[kr]⟩],[],Im⟩
theorem xG:YI Im=(xF,0):=by decide+kernel
theorem th:Tb xF Im (fO 1)=(vi,kr,0):=by decide+kernel
theorem xI:Kl vi N0 Im=(vh,0):=by decide+kernel
theorem tf:Tb vh N0 (fO 2)=(o8,sv,0):=by decide+kernel
theorem te:PH o8 Im=(vg,0):=by decide+kernel
theorem tc:PH o8 N0=(ve,0):=by decide+kernel
theorem xD:Kc o8 N0 sv=(xE,0):=by decide+kernel
theorem xH:JX xE=(vh,1):=by decide+kernel
theorem fX:Hi (fO 1)=false∧Hi (fO 2)=false:=by decide+kernel
theorem fY:Gp []=false∧Gp vg=false∧Gp ve=false:=by decide+kernel
attribute [local irreducible] EB AW GJ B2 FW
instance tH (t:Int):Bj Tryz.prog 50 [.raw (.int .i64 t)] (.agg (Cc (fO t))):=⟨by
 refine Aj Tryz.func50 Tryz.ntmps50 rfl (rs:= [.cell 2 42]) rfl rfl fun hb LF=>?_
 refine wf ?_
 refine BN fun b2=>?_
 refine wf ?_
 exact FK rfl (.of_eq rfl)⟩
def Sp (a:P7):Bool:=decide (60 < (a.name.length:Int))||decide (1500 < (a.other.length:Int))||Hi a.patch||Gp a.set
theorem YM {a:P7} (h:Sp a=false):EA a.patch=false∧DX a.set∧a.set.length≤8:=by
 unfold Sp at h
 simp only[Bz,A8]at h
 refine⟨X0 h.1.2,NL h.2,?_⟩
 have h1:=h.2
 unfold Gp at h1
 simp only[Bz,A8]at h1
 omega
instance ue (a:P7):Bj Tryz.prog 28 [.agg (Ha a)] (.raw (.bool (Sp a))):=⟨by
 refine Aj Tryz.func28 Tryz.ntmps28 rfl (rs:= [.tmp 2]) rfl rfl fun hb LF=>?_
 unfold Sp
 refine wf ?_
 repeat' (first|(refine A1 (fun h=>?_) (fun h=>?_)<;>refine wf ?_)|(refine AN (fun h=>?_) (fun h=>?_)<;>refine wf ?_)|(refine AU (fun h=>?_) (fun h=>?_)<;>refine wf ?_)|(refine Aw (fun h=>?_) (fun h=>?_)<;>(have h2:=h;(try simp only[AJ,A8,AQ,AR]at h2);refine wf ?_)))
 all_goals (refine Al (.of_eq ?_);first|(simp_all;done)|grind)⟩
instance sr (a b c d:UInt8):Ja (.raw (.string ⟨[a,b,c,d].toArray⟩)) (.str [a,b,c,d]):=⟨fun g v hv=>by cases hv;exact .str (by show 4≤maxN;decide)⟩
instance s6:Bj Tryz.prog 13 [] (.raw (.bool true)):=⟨by
 have g1:EA (fO 1)=false:=X0 fX.1
 have g2:EA (fO 2)=false:=X0 fX.2
 have s0:=NL fY.1
 have s1:=NL fY.2.1
 have s2:=NL fY.2.2
 have c1:=bw Im
 have c2:=X3 xF Im (fO 1) s0 g1 (by decide)
 have c3:=TX vi N0 Im s1
 have c4:=X3 vh N0 (fO 2) s1 g2 (by decide)
 have c5:=Ry o8 Im s2
 have c6:=Ry o8 N0 s2
 have c7:=SE o8 N0 sv s2
 have c8:=RK xE s2
 rw[xG]at c1
 rw[th]at c2
 rw[xI]at c3
 rw[tf]at c4
 rw[te]at c5
 rw[tc]at c6
 rw[xD]at c7
 rw[xH]at c8
 dsimp only at c1 c2 c3 c4 c5 c6 c7 c8
 refine Aj Tryz.func13 Tryz.ntmps13 rfl (rs:= [.tmp 0]) rfl rfl fun hb LF=>?_
 refine wn ?_
 refine BN fun b1=>?_
 refine wn ?_
 refine DD (σ:=Unit) (fun _=>True) (fun _=> [(1,.raw (.pointer (some ⟨b1,0,none⟩))),(2,.raw (.int .i64 0)),(4,.raw (.int .i64 0))]) (fun _=> .box b1 27 (Ax vi)::LF) ?_ ?_
 ·refine Db [0,7,8,9,10] (by decide+kernel) ?_
  refine Ai 1 ?_
  refine C3 (fuel:=9) [0,7] (by decide+kernel) (by simp) fun i hi=>?_
  simp only[AI,Ar,or_false]at hi
  rcases hi with rfl|rfl
  ·refine⟨_,rfl,?_⟩
   refine wo ?_
   refine AE ?_
   refine Ai 2 ?_
   refine Ai 3 ?_
   refine Ai 4 ?_
   refine Ai 5 ?_
   refine Ai 6 ?_
   refine Af 3 7 ?_
   refine BN fun b3=>?_
   refine AE ?_
   refine Af 2 8 ?_
   refine wo ?_
   refine AE ?_
   refine Af 1 9 ?_
   refine wo ?_
   refine AE ?_
   refine Af 0 10 ?_
   refine wo ?_
   refine AE ?_
   refine C5 (by decide+kernel) ?_
   exact⟨(),trivial,⟨rfl,rfl,rfl⟩,.cons _ (.refl _)⟩
  ·refine⟨_,rfl,?_⟩
   refine BN fun b3=>?_
   refine AE ?_
   refine Af 8 0 ?_
   refine wo ?_
   refine AE ?_
   refine Ai 2 ?_
   refine Ai 3 ?_
   refine Ai 4 ?_
   refine Ai 5 ?_
   refine Ai 6 ?_
   refine Af 2 8 ?_
   refine wo ?_
   refine AE ?_
   refine Af 1 9 ?_
   refine wo ?_
   refine AE ?_
   refine Af 0 10 ?_
   refine wo ?_
   refine AE ?_
   refine C5 (by decide+kernel) ?_
   exact⟨(),trivial,⟨rfl,rfl,rfl⟩,.cons _ (.refl _)⟩
 intro _ _
 refine wn ?_
 refine DD (σ:=Nat) (fun _=>True) (fun b6=> [(1,.raw (.pointer (some ⟨b1,0,none⟩))),(2,.raw (.int .i64 0)),(4,.raw (.int .i64 0)),(5,.raw (.int .i64 0)),(6,.raw (.pointer (some ⟨b6,0,none⟩))),(7,.raw (.int .i64 0))]) (fun b6=> .box b6 45 (eDig sv):: .box b1 27 (Ax o8)::LF) ?_ ?_
 ·refine Db [0,7,8,9,10] (by decide+kernel) ?_
  refine Ai 1 ?_
  refine C3 (fuel:=9) [0,7] (by decide+kernel) (by simp) fun i hi=>?_
  simp only[AI,Ar,or_false]at hi
  rcases hi with rfl|rfl
  ·refine⟨_,rfl,?_⟩
   refine wo ?_
   refine AE ?_
   refine Ai 2 ?_
   refine Ai 3 ?_
   refine Ai 4 ?_
   refine Ai 5 ?_
   refine Ai 6 ?_
   refine Af 3 7 ?_
   refine BN fun b6=>?_
   refine AE ?_
   refine Af 2 8 ?_
   refine wo ?_
   refine AE ?_
   refine Af 1 9 ?_
   refine wo ?_
   refine AE ?_
   refine Af 0 10 ?_
   refine wo ?_
   refine AE ?_
   refine C5 (by decide+kernel) ?_
   exact⟨b6,trivial,⟨rfl,rfl,rfl,rfl,rfl,rfl⟩,.refl _⟩
  ·refine⟨_,rfl,?_⟩
   refine BN fun b6=>?_
   refine AE ?_
   refine Af 8 0 ?_
   refine wo ?_
   refine AE ?_
   refine Ai 2 ?_
   refine Ai 3 ?_
   refine Ai 4 ?_
   refine Ai 5 ?_
   refine Ai 6 ?_
   refine Af 2 8 ?_
   refine wo ?_
   refine AE ?_
   refine Af 1 9 ?_
   refine wo ?_
   refine AE ?_
   refine Af 0 10 ?_
   refine wo ?_
   refine AE ?_
   refine C5 (by decide+kernel) ?_
   exact⟨b6,trivial,⟨rfl,rfl,rfl,rfl,rfl,rfl⟩,.refl _⟩
 intro b6 _
 refine Ag 6 ?_
 refine wf ?_
 refine BN fun b13=>?_
 refine wf ?_
 refine Al (.of_eq ?_)
 rfl⟩
theorem Rs (a b:List Sto) (t u:CZ) (hl:a.length+b.length≤400):Bj Tryz.prog 78 [.slice (a.map eSto) t,.slice (b.map eSto) u] (.tuple [.slice ((DN a b).1.map eSto) .ro,.raw (.int .i64 (DN a b).2)]):=⟨by
 refine Aj Tryz.func78 Tryz.ntmps78 rfl (rs:= [.tmp 4,.tmp 5]) rfl rfl fun hb LF=>?_
 refine wf ?_
 refine H6 (by rfl) (by rfl) (by omega) (by omega) fun v=>?_
 refine wf ?_
 refine AV (σ:=Nat × List Sto × CZ) (fun k=>k.1≤b.length∧O5 a a b=O5 a k.2.1 (b.drop k.1)∧k.2.1.length≤a.length+k.1) (fun k=>b.length - k.1) (fun k=> [(0,.slice (a.map eSto) t),(1,.slice (b.map eSto) u),(6,.slice (k.2.1.map eSto) k.2.2),(7,.raw (.int .i64 k.1))]) (fun _=>LF) (0,a,v) ⟨by simp,by simp,by simp⟩ ⟨rfl,rfl,rfl,rfl⟩ (.cons _ (.refl _)) ?_
 rintro⟨i,out,w⟩ ⟨hi,he,ho⟩
 dsimp only at hi he ho ⊢
 refine wf ?_
 refine A1 (fun hc=>?_) (fun hc=>?_)
 ·have hlt:i < b.length:=by omega
  rw[Dk hlt,O5]at he
  have c1:=fun t=>sK a b[i].id t
  have i1:B0 (out.length≤1000):=⟨by omega⟩
  cases hg:getS a b[i].id with
  |some p=>
   rw[hg]at c1 he
   simp only at he
   refine wz fun b8=>?_
   refine Ag 8 ?_
   refine wf ?_
   refine AN (fun h=>?_) (fun h=>?_)
   ·rw[if_neg (show ¬p=b[i].patch from h)]at he
    have e:DN a b=([],14):=by rw[DN,he]
    rw[show(DN a b).1= [] by rw[e],show(DN a b).2=14 by rw[e],CX]
    refine wf ?_
    exact Ei (.tuple2 (.ro _ _) (.refl _))
   ·have h':p=b[i].patch:=by simpa using h
    rw[if_pos h']at he
    refine wf ?_
    exact⟨(i+1,out,w),⟨by dsimp only;omega,he,by dsimp only;omega⟩,by dsimp only;omega,⟨rfl,rfl,rfl,rfl⟩,.refl _⟩
  |none=>
   rw[hg]at c1 he
   simp only at he
   refine wz fun b8=>?_
   refine Ag 8 ?_
   refine wf ?_
   refine⟨(i+1,J1 out b[i],.ro),⟨by dsimp only;omega,he,by dsimp only;rw[Pd];omega⟩,by dsimp only;omega,⟨rfl,rfl,rfl,rfl⟩,.refl _⟩
 ·rw[CY (by omega),O5]at he
  refine wf ?_
  refine A1 (fun h=>?_) (fun h=>?_)
  ·omega
  ·have e:DN a b=(out,0):=by
    rw[DN,he];simp only;rw[if_neg (by omega)]
   refine wf ?_
   rw[e]
   exact Ei (.tuple2 (.ro _ _) (.refl _))⟩
end Go.Proofs
