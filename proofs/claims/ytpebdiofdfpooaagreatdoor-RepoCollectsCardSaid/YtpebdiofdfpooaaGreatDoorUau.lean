/- Contracts of the program: patches added, sets merged, tags, what nobody has collected. -/
import Derived.Test.YtpebdiofdfpooaaGreatDoorUat
import Derived.Test.YtpebdiofdfpooaaGreatDoorUas
import Derived.Test.YtpebdiofdfpooaaGreatDoorUap
import Derived.Test.YtpebdiofdfpooaaGreatDoorUar
import Derived.Test.YtpebdiofdfpooaaGreatDoorUam
import Derived.Test.YtpebdiofdfpooaaGreatDoorUai
set_option linter.unusedSimpArgs false
set_option linter.unusedVariables false
set_option maxHeartbeats 8000000
namespace Go.Proofs
open Go Go.Q
attribute [local irreducible] EG AY H2 B2 FZ
theorem Tz {P:Program} {ρ:Env} {L LF:List Res} {X:PV} {t u s T T1 n m b c B C:Nat} {cs ds:List PV} {z:PV} [hT:FL P T n] [hT1:FL P T1 m] (h:ρ t= .raw (.pointer (some ⟨b,0,none⟩))) (h1:ρ u= .raw (.pointer (some ⟨c,0,none⟩))) (hX:Le (.tuple [.agg cs,.agg ds,z]) X) (hz:ρ s=z:=by conv=>lhs;whnf) (hm:Res.box b B cs∈L:=by repeat(first|exact AI|apply AD)) (hm1:Res.box c C ds∈L:=by repeat(first|exact AI|apply AD)) (hn:cs.length=n:=by simp) (hn1:ds.length=m:=by simp) (hs:LF.Sublist L:=by repeat(first|exact Dd _|apply List.Sublist.cons)):
  gj P [.cell t T,.cell u T1,.tmp s] (fun r L'=>Le r X∧L'= []) LF .ret ρ L:=⟨trivial,_,[],.cons (.cell t T h hm hT.out hn) (.cons (.cell u T1 h1 hm1 hT1.out hn1) (.cons (.tmp s) .nil)),hs,by subst hz;exact hX,rfl⟩
theorem SX (r:Repo) (n:Str) (p:Pat) (hg:Dc r.pool) (hp:EE p=false) (hl:2*r.pool.length+1≤200):Bl Tryz.prog 26 [.agg (Ay r),.str n,.agg (CP p)] (.tuple [.agg (Ay (Js r n p).1),.agg (eDig (Js r n p).2.1),.raw (.int .i64 (Js r n p).2.2)]):=⟨by
 have c1:=GN r hg
 have ip:B3 (EE p=false):=⟨hp⟩
 have kl:B3 (r.pool.length≤1000000):=⟨by omega⟩
 refine Ak Tryz.func26 Tryz.ntmps26 rfl (rs:= [.cell 6 27,.cell 7 45,.tmp 8]) rfl rfl fun hb LF=>?_
 unfold Js
 refine gQ fun b3=>?_
 refine wf ?_
 refine BR fun b6=>?_
 refine BR fun b7=>?_
 by_cases h1:EO r≠0
 ·rw[if_pos h1]
  generalize EO r=e at c1 h1 ⊢
  refine wf ?_
  refine AL (fun _=>?_) (fun h=>absurd h h1)
  refine wf ?_
  exact Tz rfl rfl (.of_eq rfl)
 rw[if_neg h1]
 have h1:=Aj.1 h1
 rw[h1]at c1
 have v:=(DH hg).1 h1
 have hlb:=v.lenB
 have c2:=fun t=>Oa r.branches t n
 by_cases hB:C3 Brn.name r.branches n < 0
 ·rw[if_pos hB]
  refine wf ?_
  refine A1 (fun h=>?_) (fun h=>absurd hB h)
  refine wf ?_
  exact Tz rfl rfl (.of_eq rfl)
 rw[if_neg hB]
 obtain⟨k,hk⟩: ∃ k:Nat,C3 Brn.name r.branches n=k:=⟨(C3 Brn.name r.branches n).toNat,by omega⟩
 obtain⟨hk1,e2,e3,_⟩:=Wb v hk
 have hsv:=(v.set_view hB).2.1
 have hsl:=hsv.len
 rw[hk]at c2
 rw[e2]at hsv hsl ⊢
 rw[e3]
 have iv:B3 (C7 (Bt r.pool r.branches[k].ids)):=⟨hsv.vp⟩
 have c3:=fun t=>qA (Bt r.pool r.branches[k].ids) p t
 have hok:=fun h=>hsv.vp.rAdd_ok (p:=p) hp h
 refine wn ?_
 refine Cz (σ:=Nat) (fun _=>True) (fun b12=> [(3,.raw (.pointer (some ⟨b3,0,none⟩))),(6,.raw (.pointer (some ⟨b6,0,none⟩))),(7,.raw (.pointer (some ⟨b7,0,none⟩))),(10,.raw (.int .i64 (k:Int))),(11,.slice ((LU (Bt r.pool r.branches[k].ids) p).1.map eSto) .ro),(12,.raw (.pointer (some ⟨b12,0,none⟩))),(13,.raw (.int .i64 (LU (Bt r.pool r.branches[k].ids) p).2.2))]) (fun b12=> .box b12 45 (eDig (LU (Bt r.pool r.branches[k].ids) p).2.1):: .box b7 45 (eDig Dig.zero):: .box b6 27 (Ay Repo.zero):: .box b3 27 (Ay r)::LF) ?_ ?_
 ·refine EB [1,3,15,16,17,18] (by decide+kernel) ?_
  refine Aw 0 ?_
  refine Aw 2 ?_
  refine Aw 4 ?_
  refine Aw 9 ?_
  refine De (fuel:=14) [1,3,15] (by decide+kernel) (by simp) fun i hi=>?_
  simp only[AQ,BF,or_false]at hi
  rcases hi with rfl|rfl|rfl
  ·refine⟨_,rfl,?_⟩
   refine wo ?_
   refine AN ?_
   refine De (fuel:=13) [3,15] (by decide+kernel) (by simp) fun i hi=>?_
   simp only[AQ,BF,or_false]at hi
   rcases hi with rfl|rfl
   ·refine⟨_,rfl,?_⟩
    refine wo ?_
    refine AN ?_
    refine Aw 5 ?_
    refine Aw 6 ?_
    refine Aw 7 ?_
    refine Aw 8 ?_
    refine Aw 10 ?_
    refine Aw 11 ?_
    refine Aw 12 ?_
    refine Aw 13 ?_
    refine Aw 14 ?_
    refine Av 3 15 ?_
    refine BR fun b12=>?_
    refine AN ?_
    refine Av 2 16 ?_
    refine wo ?_
    refine AN ?_
    refine Av 1 17 ?_
    refine wo ?_
    refine AN ?_
    refine Av 0 18 ?_
    refine wo ?_
    refine AN ?_
    refine Ct (by decide+kernel) ?_
    exact⟨b12,trivial,⟨rfl,rfl,rfl,rfl,rfl,rfl,rfl⟩,.refl _⟩
   ·refine⟨_,rfl,?_⟩
    refine BR fun b12=>?_
    refine AN ?_
    refine Av 12 3 ?_
    refine wo ?_
    refine AN ?_
    refine Aw 5 ?_
    refine Aw 6 ?_
    refine Aw 7 ?_
    refine Aw 8 ?_
    refine Aw 10 ?_
    refine Aw 11 ?_
    refine Aw 12 ?_
    refine Aw 13 ?_
    refine Aw 14 ?_
    refine Av 2 16 ?_
    refine wo ?_
    refine AN ?_
    refine Av 1 17 ?_
    refine wo ?_
    refine AN ?_
    refine Av 0 18 ?_
    refine wo ?_
    refine AN ?_
    refine Ct (by decide+kernel) ?_
    exact⟨b12,trivial,⟨rfl,rfl,rfl,rfl,rfl,rfl,rfl⟩,.refl _⟩
  ·refine⟨_,rfl,?_⟩
   refine wo ?_
   refine AN ?_
   refine Aw 5 ?_
   refine Aw 6 ?_
   refine Aw 7 ?_
   refine De (fuel:=10) [1,15] (by decide+kernel) (by simp) fun i hi=>?_
   simp only[AQ,BF,or_false]at hi
   rcases hi with rfl|rfl
   ·refine⟨_,rfl,?_⟩
    refine wo ?_
    refine AN ?_
    refine Aw 8 ?_
    refine Aw 10 ?_
    refine Aw 11 ?_
    refine Aw 12 ?_
    refine Aw 13 ?_
    refine Aw 14 ?_
    refine Av 3 15 ?_
    refine BR fun b12=>?_
    refine AN ?_
    refine Av 2 16 ?_
    refine wo ?_
    refine AN ?_
    refine Av 1 17 ?_
    refine wo ?_
    refine AN ?_
    refine Av 0 18 ?_
    refine wo ?_
    refine AN ?_
    refine Ct (by decide+kernel) ?_
    exact⟨b12,trivial,⟨rfl,rfl,rfl,rfl,rfl,rfl,rfl⟩,.refl _⟩
   ·refine⟨_,rfl,?_⟩
    refine BR fun b12=>?_
    refine AN ?_
    refine Av 9 1 ?_
    refine wo ?_
    refine AN ?_
    refine Aw 8 ?_
    refine Aw 10 ?_
    refine Aw 11 ?_
    refine Aw 12 ?_
    refine Aw 13 ?_
    refine Aw 14 ?_
    refine Av 2 16 ?_
    refine wo ?_
    refine AN ?_
    refine Av 1 17 ?_
    refine wo ?_
    refine AN ?_
    refine Av 0 18 ?_
    refine wo ?_
    refine AN ?_
    refine Ct (by decide+kernel) ?_
    exact⟨b12,trivial,⟨rfl,rfl,rfl,rfl,rfl,rfl,rfl⟩,.refl _⟩
  ·refine⟨_,rfl,?_⟩
   refine BR fun b12=>?_
   refine AN ?_
   refine De (fuel:=13) [1,3] (by decide+kernel) (by simp) fun i hi=>?_
   simp only[AQ,BF,or_false]at hi
   rcases hi with rfl|rfl
   ·refine⟨_,rfl,?_⟩
    refine wo ?_
    refine AN ?_
    refine Av 12 3 ?_
    refine wo ?_
    refine AN ?_
    refine Aw 5 ?_
    refine Aw 6 ?_
    refine Aw 7 ?_
    refine Aw 8 ?_
    refine Aw 10 ?_
    refine Aw 11 ?_
    refine Aw 12 ?_
    refine Aw 13 ?_
    refine Aw 14 ?_
    refine Av 2 16 ?_
    refine wo ?_
    refine AN ?_
    refine Av 1 17 ?_
    refine wo ?_
    refine AN ?_
    refine Av 0 18 ?_
    refine wo ?_
    refine AN ?_
    refine Ct (by decide+kernel) ?_
    exact⟨b12,trivial,⟨rfl,rfl,rfl,rfl,rfl,rfl,rfl⟩,.refl _⟩
   ·refine⟨_,rfl,?_⟩
    refine wo ?_
    refine AN ?_
    refine Aw 5 ?_
    refine Aw 6 ?_
    refine Aw 7 ?_
    refine Av 9 1 ?_
    refine wo ?_
    refine AN ?_
    refine Aw 8 ?_
    refine Aw 10 ?_
    refine Aw 11 ?_
    refine Aw 12 ?_
    refine Aw 13 ?_
    refine Aw 14 ?_
    refine Av 2 16 ?_
    refine wo ?_
    refine AN ?_
    refine Av 1 17 ?_
    refine wo ?_
    refine AN ?_
    refine Av 0 18 ?_
    refine wo ?_
    refine AN ?_
    refine Ct (by decide+kernel) ?_
    exact⟨b12,trivial,⟨rfl,rfl,rfl,rfl,rfl,rfl,rfl⟩,.refl _⟩
 intro b12 _
 refine Ag 12 ?_
 by_cases h2:(LU (Bt r.pool r.branches[k].ids) p).2.2≠0
 ·rw[if_pos h2]
  generalize LU (Bt r.pool r.branches[k].ids) p=z at h2 ⊢
  obtain⟨z1,z2,z3⟩:=z
  refine wf ?_
  refine AL (fun _=>?_) (fun h=>absurd h h2)
  refine wf ?_
  exact Tz rfl rfl (.of_eq rfl)
 rw[if_neg h2]
 have h2:=Aj.1 h2
 obtain⟨hf,ha⟩:=hok h2
 have vs:=hsv.vp.put hf (by omega)
 have hpl:=Nq (Bt r.pool r.branches[k].ids) (⟨(EF p).1,p⟩:Sto)
 rw[ha]at h2 ⊢
 dsimp only at h2 ⊢
 generalize H6 (Bt r.pool r.branches[k].ids) ⟨(EF p).1,p⟩=w at vs hpl ⊢
 have c4:=fun t u=>Qs r.pool w t u v.pool vs (by omega)
 by_cases h3:(EP r.pool w).2≠0
 ·rw[if_pos h3]
  generalize EP r.pool w=z at c4 h3 ⊢
  obtain⟨z1,z2⟩:=z
  refine wf ?_
  refine AL (fun _=>?_) (fun h=>absurd h h3)
  refine wf ?_
  exact Tz rfl rfl (.of_eq rfl)
 rw[if_neg h3]
 have h3:=Aj.1 h3
 generalize EP r.pool w=z at c4 h3 ⊢
 obtain⟨z1,z2⟩:=z
 dsimp only at h3
 subst h3
 have c5:=fun t=>O0 { r with pool:=z1 } k w t hk1 (show r.branches.length≤1000 by omega)
 refine wn ?_
 refine EB [0,5,6,7] (by decide+kernel) ?_
 refine Aw 1 ?_
 refine Aw 2 ?_
 refine Aw 4 ?_
 refine Av 4 0 ?_
 refine wo ?_
 refine AN ?_
 refine Aw 3 ?_
 refine Av 2 5 ?_
 refine wo ?_
 refine AN ?_
 refine Av 1 6 ?_
 refine wo ?_
 refine AN ?_
 refine Av 0 7 ?_
 refine wo ?_
 refine AN ?_
 refine Ct (by decide+kernel) ?_
 refine wf ?_
 exact Tz rfl rfl (.of_eq rfl)⟩
instance uc (d:Dig) (l:List Dig):Bl Tryz.prog 74 [.agg (eDig d),.pt [.slice (l.map eDig) .ro] 0] (.raw (.bool (decide (d∈l)))):=⟨by
 refine Ak Tryz.func74 Tryz.ntmps74 rfl (rs:= [.tmp 3]) rfl rfl fun hb LF=>?_
 refine wf ?_
 exact Ah (.refl _)⟩
theorem l7 (l m:List Dig) (v:Value) (R:List Res) (hv:E9 45 32 v (l.map eDig) R) (hl:l.length≤1000000):
  B2 Tryz.prog 72 [.raw v,.clo 74 [.pt [.slice (m.map eDig) .ro] 0]] R (fun r L'=>r= .slice ((l.filter fun d=>decide (d∉m)).map eDig) .ro∧L'= []):=by
 have e:(l.filter fun d=>decide (d∉m))=l.filter fun d=>!decide (d∈m):=J5 fun d _=>by simp
 rw[e]
 refine B2.frozenR (Vt eDig 32 (by decide) _ ?_) (bf _ _ (fun d=>decide (d∈m)) l v R hv hl)
 have:=Cv (fun d=>!decide (d∈m)) l
 omega
theorem KQ (r:Repo) (n:Str) (s:List Sto) (t:CW) (hg:Dc r.pool) (hs:Dc s) (hl:r.pool.length+s.length≤200):Bl Tryz.prog 29 [.agg (Ay r),.str n,.slice (s.map eSto) t] (.tuple [.agg (Ay (CT r n s).1),.slice ((CT r n s).2.1.map eDig) .ro,.raw (.int .i64 (CT r n s).2.2)]):=⟨by
 have c1:=GN r hg
 have is:B3 (Dc s):=⟨hs⟩
 refine Ak Tryz.func29 Tryz.ntmps29 rfl (rs:= [.cell 6 27,.tmp 7,.tmp 8]) rfl rfl fun hb LF=>?_
 unfold CT
 refine gQ fun b3=>?_
 refine BR fun b6=>?_
 by_cases h1:EO r≠0
 ·rw[if_pos h1]
  generalize EO r=e at c1 h1 ⊢
  refine wf ?_
  refine AL (fun _=>?_) (fun h=>absurd h h1)
  refine wf ?_
  refine Tx rfl ?_;exact .tuple3 (.of_eq rfl) (.ro _ _) (.refl _)
 rw[if_neg h1]
 have h1:=Aj.1 h1
 rw[h1]at c1
 have v:=(DH hg).1 h1
 have hlb:=v.lenB
 have c2:=fun t=>Oa r.branches t n
 by_cases hB:C3 Brn.name r.branches n < 0
 ·rw[if_pos hB]
  refine wf ?_
  refine A1 (fun h=>?_) (fun h=>absurd hB h)
  refine wf ?_
  refine Tx rfl ?_;exact .tuple3 (.of_eq rfl) (.ro _ _) (.refl _)
 rw[if_neg hB]
 obtain⟨k,hk⟩: ∃ k:Nat,C3 Brn.name r.branches n=k:=⟨(C3 Brn.name r.branches n).toNat,by omega⟩
 obtain⟨hk1,e2,e3,e4⟩:=Wb v hk
 rw[hk]at c2
 unfold dQ
 rw[e4,e3]
 have c3:=fun t=>Pn s t
 by_cases h2:FJ s≠0
 ·rw[if_pos h2]
  generalize FJ s=e at c3 h2 ⊢
  refine wf ?_
  refine AL (fun _=>?_) (fun h=>absurd h h2)
  refine wf ?_
  refine Tx rfl ?_;exact .tuple3 (.of_eq rfl) (.ro _ _) (.refl _)
 rw[if_neg h2]
 have h2:=Aj.1 h2
 have vs:=KI hs h2
 rw[h2]at c3
 have c4:=fun t u=>Qs r.pool s t u v.pool vs (by omega)
 by_cases h3:(EP r.pool s).2≠0
 ·rw[if_pos h3]
  generalize EP r.pool s=z at c4 h3 ⊢
  obtain⟨z1,z2⟩:=z
  refine wf ?_
  refine AL (fun _=>?_) (fun h=>absurd h h3)
  refine wf ?_
  refine Tx rfl ?_;exact .tuple3 (.of_eq rfl) (.ro _ _) (.refl _)
 rw[if_neg h3]
 have h3:=Aj.1 h3
 have hu:=PD v.pool.asc vs.asc (by omega) h3
 have hob:=v.okB _ (AK hk1)
 have hul:(EP r.pool s).1.length≤1000000:=by
  obtain⟨s1,s2⟩:=Ey.of_isU v.pool vs hu (by omega)
  have:=s1.vq.close.1.1
  omega
 generalize EP r.pool s=z at c4 h3 hu hul ⊢
 obtain⟨z1,z2⟩:=z
 dsimp only at h3 hu hul
 subst h3
 have hil:=Dj s
 have hbl:r.branches[k].ids.length≤200:=by
  have h5:=Eh hob.asc.nodup hob.sub
  have h6:=hg.1
  rw[Dj]at h5;omega
 have hem:=kZ (a:=r.branches[k].ids) (b:=(ids s).filter fun d=>decide (d∉r.branches[k].ids)) hu.asc hob.asc fun d hd=>by
  rcases hd with hd|hd
  ·obtain⟨x,hx,rfl⟩:=AU.1 (hob.sub d hd)
   exact AU.2 ⟨x,(hu.mem x).2 (.inl hx),rfl⟩
  ·obtain⟨x,hx,rfl⟩:=AU.1 (EI.1 hd).1
   exact AU.2 ⟨x,(hu.mem x).2 (.inr hx),rfl⟩
 rw[←hem]
 have c5:=fun l t=>O0 { r with pool:=z1 } k (Bt z1 l) t hk1 (show r.branches.length≤1000 by omega)
 generalize hhad:r.branches[k].ids=had at hem hbl ⊢
 have kl:B3 (z1.length≤1000000):=⟨hul⟩
 refine wz fun b14=>?_
 rw[hhad]
 refine Ag 14 ?_
 refine DU ?_
 refine CC (by kernel_rfl) ?_
 refine w1 ?_
 refine Bo (xs:= [.tmp 53]) [] (.box b6 27 (Ay Repo.zero):: .box b3 27 (Ay r)::LF) (f:=73) (cs:= []) (Bx _) rfl rfl (.refl _) _ (od s t) fun x R0 ⟨v0,e1,hv0⟩=>?_
 subst e1
 refine wf ?_
 refine Bo (xs:= [.tmp 54,.tmp 55]) R0 (.box b6 27 (Ay Repo.zero):: .box b3 27 (Ay r)::LF) (f:=72) (cs:= []) (Bx _) rfl rfl (.refl _) _ (l7 (ids s) had v0 R0 hv0 (by omega)) fun x R1 ⟨e1,e2⟩=>?_
 subst e1 e2
 rw[BK]
 have hml:=Cv (fun d=>decide (d∉had)) (ids s)
 generalize (ids s).filter (fun d=>decide (d∉had))=more at hem hml ⊢
 have c6:=fun t=>bh [had,more] t (by simp;omega)
 simp only[CD,N1,B6]at c6
 refine wn ?_
 refine EB [0,7,8,9] (by decide+kernel) ?_
 refine Aw 1 ?_
 refine Aw 2 ?_
 refine Aw 3 ?_
 refine Aw 4 ?_
 refine Aw 6 ?_
 refine Av 4 0 ?_
 refine wo ?_
 refine AN ?_
 refine Aw 5 ?_
 refine Av 2 7 ?_
 refine wo ?_
 refine AN ?_
 refine Av 1 8 ?_
 refine wo ?_
 refine AN ?_
 refine Av 0 9 ?_
 refine wo ?_
 refine AN ?_
 refine Ct (by decide+kernel) ?_
 refine wf ?_
 exact Tx rfl (.of_eq rfl)⟩
theorem cK (r:Repo) (n m:Str) (hg:Dc r.pool):Bl Tryz.prog 40 [.agg (Ay r),.str n,.str m] (.tuple [.agg (Ay (NM r n m).1),.raw (.int .i64 (NM r n m).2)]):=⟨by
 have c1:=GN r hg
 refine Ak Tryz.func40 Tryz.ntmps40 rfl (rs:= [.cell 6 27,.tmp 7]) rfl rfl fun hb LF=>?_
 have hml:m.length≤140737488355328:=(hb (.str m) (by simp)).str_len
 unfold NM
 refine gQ fun b3=>?_
 refine BR fun b6=>?_
 by_cases h1:EO r≠0
 ·rw[if_pos h1]
  generalize EO r=e at c1 h1 ⊢
  refine wf ?_
  refine AL (fun _=>?_) (fun h=>absurd h h1)
  refine wf ?_
  exact DX rfl (.of_eq rfl)
 rw[if_neg h1]
 have h1:=Aj.1 h1
 rw[h1]at c1
 have v:=(DH hg).1 h1
 have c2:=Sc r r.current v
 refine wf ?_
 refine AO (fun h=>?_) (fun h=>?_)
 ·rw[if_pos (by simpa using h)]
  refine wf ?_
  exact DX rfl (.of_eq rfl)
 rw[if_neg (by simpa using h)]
 clear h
 refine wf ?_
 refine A1 (fun h=>?_) (fun h=>?_)
 ·rw[if_pos h]
  refine wf ?_
  exact DX rfl (.of_eq rfl)
 rw[if_neg h]
 clear h
 have c3:=ZJ r n
 by_cases h2:NJ r n≠0
 ·rw[if_pos h2]
  generalize NJ r n=e at c3 h2 ⊢
  refine wf ?_
  refine AL (fun _=>?_) (fun h=>absurd h h2)
  refine wf ?_
  exact DX rfl (.of_eq rfl)
 rw[if_neg h2]
 obtain⟨f1,f2⟩:=Mr h2
 rw[Aj.1 h2]at c3
 have hl:=v.lenT
 refine wf ?_
 refine A1 (fun h=>?_) (fun h=>?_)
 ·rw[if_pos h]
  refine wf ?_
  exact DX rfl (.of_eq rfl)
 rw[if_neg h]
 clear h
 obtain⟨s,hs⟩:=v.cur_view
 rw[hs]at c2 ⊢
 rw[Option.getD_some]at c2 ⊢
 have vs:=v.viewV hs
 have hsl:=vs.close.1.1
 have c4:=fun t=>iQ s t vs (by omega)
 have c5:=fun t=>OZ (fG r.tags t ⟨n,m,K4 s⟩ v.ascT f2 (by omega))
 refine wn ?_
 refine BZ 9 ?_ ?_
 ·decide+kernel
 refine wf ?_
 exact DX rfl (.of_eq rfl)⟩
instance r8 (x:Sto) (T:List (Dig × Bool)):Bl Tryz.prog 56 [.agg (eSto x),.pt [.fmap (Cj kDig vBool T)] 0] (.raw (.bool (!(Dv x.id T).getD false))):=⟨by
 refine Ak Tryz.func56 Tryz.ntmps56 rfl (rs:= [.tmp 3]) rfl rfl fun hb LF=>?_
 refine wf ?_
 exact Ah (.refl _)⟩
theorem Kt.congr {T:List (Dig × Bool)} {A B:List Dig} (h:Kt T A) (e: ∀ d,d∈A↔d∈B):Kt T B:=fun d=>by rw[h d,decide_eq_decide];exact e d
def v7 (m b1 b2 b4:Nat) (r:Repo) (T:List (Dig × Bool)) (L:List Res):List Res:= .map m (Cj kDig vBool T):: .box b4 84 [.raw (.map (some m))]:: .box b2 27 (Ay Repo.zero):: .box b1 27 (Ay r)::L
theorem l6 (l:List Sto) (T:List (Dig × Bool)) (v:Value) (R:List Res) (hv:E9 47 37 v (l.map eSto) R) (hl:l.length≤1000000):
  B2 Tryz.prog 54 [.raw v,.clo 56 [.pt [.fmap (Cj kDig vBool T)] 0]] R (fun r L'=>r= .slice ((l.filter fun x=>(Dv x.id T).getD false).map eSto) .ro∧L'= []):=by
 have e:(l.filter fun x=>(Dv x.id T).getD false)=l.filter fun x=>!!(Dv x.id T).getD false:=J5 fun d _=>by simp
 rw[e]
 refine B2.frozenR (Vt eSto 37 (by decide) _ ?_) (U2 _ _ (fun x=>!(Dv x.id T).getD false) l v R hv hl)
 have:=Cv (fun x:Sto=>!!(Dv x.id T).getD false) l
 omega
theorem Jo (r:Repo) (hg:Dc r.pool):Bl Tryz.prog 16 [.agg (Ay r)] (.tuple [.agg (Ay (DS r).1),.raw (.int .i64 (DS r).2)]):=⟨by
 have c1:=GN r hg
 have h200:=hg.1
 refine Ak Tryz.func16 Tryz.ntmps16 rfl (rs:= [.cell 2 27,.tmp 3]) rfl rfl fun hb LF=>?_
 unfold DS
 refine gQ fun b1=>?_
 refine BR fun b2=>?_
 by_cases h1:EO r≠0
 ·rw[if_pos h1]
  generalize EO r=e at c1 h1 ⊢
  refine wf ?_
  refine AL (fun _=>?_) (fun h=>absurd h h1)
  refine wf ?_
  exact DX rfl (.of_eq rfl)
 rw[if_neg h1]
 have h1:=Aj.1 h1
 rw[h1]at c1
 have v:=(DH hg).1 h1
 refine wf ?_
 refine RQ fun m=>?_
 refine wf ?_
 refine BR fun b4=>?_
 refine wf ?_
 refine GI (L':=v7 m b1 b2 b4 r [] LF) (.swap _ _ _) ?_
 refine Hp (Sa r v) [17,18] (σ:=List (Dig × Bool)) (fun pre T=>Kt T (pre.flatMap fun x=>ids x.2)) (fun _ _=>False) (v7 m b1 b2 b4 r) [] LF (.refl _) rfl (fun _=>rfl) (by simp) (fun s LF'=>rfl) (.refl _) (fun d=>by simp[Dv]) ?_ ?_ (fun _ _ h=>h.elim)
 ·rintro pre x T LF' hpx hT
  have hx:=Sb v (hpx.subset (Ed _ (B1.2 rfl)))
  obtain⟨n,s⟩:=x
  have hsl:s.length≤200:=(v.viewV hx).close.1.1
  have hil:=Dj s
  dsimp only[tZ,v7]at hx ⊢
  refine wf ?_
  refine AW (σ:=Nat × List (Dig × Bool)) (fun z=>z.1≤s.length∧Kt z.2 (pre.flatMap (fun x=>ids x.2)++(ids s).take z.1)) (fun z=>s.length - z.1) (fun z=> [(4,.raw (.pointer (some ⟨b4,0,none⟩))),(19,.slice (s.map eSto) .ro),(20,.raw (.int .i64 s.length)),(21,.raw (.int .i64 z.1))]) (fun z=>v7 m b1 b2 b4 r z.2 LF') (0,T) ⟨by simp,by simpa using hT⟩ ⟨rfl,rfl,rfl,rfl⟩ (.refl _) ?_
  rintro⟨k,T⟩ ⟨hk,hT⟩
  dsimp only[v7]at hk hT ⊢
  refine wf ?_
  refine A1 (fun hc=>?_) (fun hc=>?_)
  ·have hlt:k < s.length:=by omega
   have hTa:=hT.add s[k].id
   rw[AJ,show(ids s).take k++ [s[k].id]=(ids s).take (k+1) from by
    rw[A6 (by omega)];simp[ids]]at hTa
   refine wz fun b8=>?_
   refine Ag 8 ?_
   refine wf ?_
   exact⟨(k+1,Hb s[k].id true T),⟨by dsimp only;omega,hTa⟩,by dsimp only;omega,⟨rfl,rfl,rfl,rfl⟩,.refl _⟩
  ·rw[AA (by omega)]at hT
   refine wf ?_
   exact⟨T,by dsimp only;rw[GA,Cf,mG,B6];exact hT,.refl _⟩
 rintro T hT
 have hT:=hT.congr (B:=EY r) fun d=>by
  rw[Gi,mF]
  constructor
  ·rintro⟨⟨n,s⟩,hx,hd⟩
   exact⟨n,s,Sb v hx,hd⟩
  ·rintro⟨n,s,hv,hd⟩
   rcases Ga hv with ⟨b,hb,e1,rfl⟩|⟨_,t,ht,e1,rfl⟩
   ·exact⟨dv r b,JU _ (AU.2 ⟨b,hb,rfl⟩),hd⟩
   ·exact⟨iR r t,Ed _ (AU.2 ⟨t,ht,rfl⟩),hd⟩
 have hke:Bt r.pool (EY r)=r.pool.filter fun x=>(Dv x.id T).getD false:=by
  unfold Bt
  exact J5 fun x _=>(hT x.id).symm
 rw[hke]
 have hfl:=Cv (fun x:Sto=>(Dv x.id T).getD false) r.pool
 dsimp only[v7]
 refine X2 (r':= .box b4 84 [.fmap (Cj kDig vBool T)]) (.refl _) (dz.box rfl fun i g1 g2=>?_) ?_
 ·match i,g1,g2 with
  |0,_,_=>exact .inr ⟨rfl,rfl⟩
  |n+1,g,_=>simp at g
 refine Ag 4 ?_
 refine wf ?_
 refine Bo (xs:= [.tmp 33]) [] (.box b2 27 (Ay Repo.zero):: .box b1 27 (Ay r)::LF) (f:=55) (cs:= []) (Bx _) rfl rfl (.refl _) _ (Oc r.pool .ro (by omega)) fun x R0 ⟨v0,e1,hv0⟩=>?_
 subst e1
 refine wf ?_
 refine Bo (xs:= [.tmp 34,.tmp 35]) R0 (.box b2 27 (Ay Repo.zero):: .box b1 27 (Ay r)::LF) (f:=54) (cs:= []) (Bx _) rfl rfl (.refl _) _ (l6 r.pool T v0 R0 hv0 (by omega)) fun x R1 ⟨e1,e2⟩=>?_
 subst e1 e2
 rw[BK]
 generalize r.pool.filter (fun x=>(Dv x.id T).getD false)=pl at hfl ⊢
 have hpl:({ r with pool:=pl }:Repo).pool.length≤r.pool.length:=hfl
 refine wn ?_
 refine EB [0,3,6,7] (by decide+kernel) ?_
 refine Aw 1 ?_
 refine Aw 2 ?_
 refine De (fuel:=5) [0,3] (by decide+kernel) (by simp) fun i hi=>?_
 simp only[AQ,BF,or_false]at hi
 rcases hi with rfl|rfl
 ·refine⟨_,rfl,?_⟩
  refine wo ?_
  refine AN ?_
  refine De (fuel:=4) [3,6] (by decide+kernel) (by simp) fun i hi=>?_
  simp only[AQ,BF,or_false]at hi
  rcases hi with rfl|rfl
  ·refine⟨_,rfl,?_⟩
   refine wo ?_
   refine AN ?_
   refine Aw 4 ?_
   refine Aw 5 ?_
   refine Av 1 6 ?_
   refine wo ?_
   refine AN ?_
   refine Av 0 7 ?_
   refine wo ?_
   refine AN ?_
   refine Ct (by decide+kernel) ?_
   refine wf ?_
   exact DX rfl (.of_eq rfl)
  ·refine⟨_,rfl,?_⟩
   refine wo ?_
   refine AN ?_
   refine Av 3 3 ?_
   refine wo ?_
   refine AN ?_
   refine Aw 4 ?_
   refine Aw 5 ?_
   refine Av 0 7 ?_
   refine wo ?_
   refine AN ?_
   refine Ct (by decide+kernel) ?_
   refine wf ?_
   exact DX rfl (.of_eq rfl)
 ·refine⟨_,rfl,?_⟩
  refine wo ?_
  refine AN ?_
  refine Aw 4 ?_
  refine Aw 5 ?_
  refine Av 2 0 ?_
  refine wo ?_
  refine AN ?_
  refine Av 1 6 ?_
  refine wo ?_
  refine AN ?_
  refine Av 0 7 ?_
  refine wo ?_
  refine AN ?_
  refine Ct (by decide+kernel) ?_
  refine wf ?_
  exact DX rfl (.of_eq rfl)⟩
theorem kr {α:Type} {nm:α→Str} {l:List α} {n:Str} {k:Nat} (hk:k < l.length) (h: ∀ j (hj:j < l.length),j < k→nm l[j]≠n) (e:nm l[k]=n):C3 nm l n=k:=by
 have h2: ¬C3 nm l n < 0:=fun h2=>(Df nm).1 h2 _ (AK hk) e
 obtain⟨i,hi⟩: ∃ i:Nat,C3 nm l n=i:=⟨(C3 nm l n).toNat,by omega⟩
 obtain⟨h3,h4,h5⟩:=Ew nm hi
 rw[hi]
 rcases Fp i k with h6|h6|h6
 ·exact absurd h4 (h i h3 h6)
 ·rw[h6]
 ·exact absurd e (h5 k h6)
theorem bT {α:Type} {nm:α→Str} {l:List α} {n:Str} (h: ∀ j (hj:j < l.length),nm l[j]≠n):C3 nm l n= -1:=by
 have h1:=ZU nm l n
 have h2:C3 nm l n < 0:=(Df nm).2 fun x hx=>by
  obtain⟨j,hj,rfl⟩:=AX.1 hx
  exact h j hj
 omega
theorem SP (s:List Sto) (d:Dig):(getS s d).isSome=decide (d∈ids s):=by
 induction s with
 |nil=>rfl
 |cons x s ih=>
  unfold getS ids
  by_cases h:x.id=d
  ·simp[h]
  ·rw[if_neg h,ih]
   simp[ids,Ne.symm h]
instance xH (l:List Dig) (t:CW):Bl Tryz.prog 126 [.slice (l.map eDig) t] (.raw (.bool (O3 l))):=⟨by
 refine Ak Tryz.func126 Tryz.ntmps126 rfl (rs:= [.tmp 2]) rfl rfl fun hb LF=>?_
 have hll:l.length≤140737488355328:=(hb (.slice (l.map eDig) t) (by simp)).slice_map
 refine wf ?_
 refine AW (σ:=Nat) (fun i=>1≤i∧ ∀ j (h0:0 < j) (hj:j < l.length),j < i→Dh (l[j - 1]'(by omega)) l[j] < 0) (fun i=>l.length - i) (fun i=> [(0,.slice (l.map eDig) t),(3,.raw (.int .i64 i))]) (fun _=>LF) 1 ⟨by omega,fun j h0 hj h=>by omega⟩ ⟨rfl,rfl⟩ (.refl _) ?_
 rintro i ⟨h1,hz⟩
 refine wf ?_
 refine A1 (fun hc=>?_) (fun hc=>?_)
 ·have hlt:i < l.length:=by omega
  have e1:((i:Int) - 1).toNat=i - 1:=by omega
  have hf:=fun(h: ¬Dh (l[i - 1]'(by omega)) l[i] < 0)=>UG (l:=l) (i:=i) (by omega) hlt h
  refine wf ?_
  refine A1 (fun h=>?_) (fun h=>?_)
  ·simp only[e1]at h
   refine wf ?_
   refine Ah (.of_eq ?_)
   rw[hf (by omega)]
  ·refine wf ?_
   refine⟨i+1,⟨by omega,fun j h0 hj hji=>?_⟩,by dsimp only;omega,⟨rfl,rfl⟩,.refl _⟩
   simp only[e1]at h
   by_cases e:j=i
   ·subst e;omega
   ·exact hz j h0 hj (by omega)
 ·have hasc:O3 l=true:=WA fun i h0 hi=>hz i h0 hi (by omega)
  refine wf ?_
  refine Ah (.of_eq ?_)
  rw[hasc]⟩
instance xK (s:List Sto) (l:List Dig) (t u:CW):Bl Tryz.prog 127 [.slice (s.map eSto) t,.slice (l.map eDig) u] (.raw (.bool (Ca (ids s) l))):=⟨by
 refine Ak Tryz.func127 Tryz.ntmps127 rfl (rs:= [.tmp 4]) rfl rfl fun hb LF=>?_
 have hll:l.length≤140737488355328:=(hb (.slice (l.map eDig) u) (by simp)).slice_map
 refine wf ?_
 refine AW (σ:=Nat) (fun k=>k≤l.length∧ ∀ d∈l.take k,d∈ids s) (fun k=>l.length - k) (fun k=> [(0,.slice (s.map eSto) t),(1,.slice (l.map eDig) u),(5,.raw (.int .i64 k))]) (fun _=>LF) 0 ⟨by simp,by simp⟩ ⟨rfl,rfl,rfl⟩ (.refl _) ?_
 rintro k ⟨hk,hin⟩
 refine wf ?_
 refine A1 (fun hc=>?_) (fun hc=>?_)
 ·have hlt:k < l.length:=by omega
  have hs:=SP s l[k]
  refine wz fun b6=>?_
  refine Ag 6 ?_
  refine wf ?_
  rw[hs]
  refine AL (fun h=>?_) (fun h=>?_)
  ·have hn:Ca (ids s) l=false:=by
    cases hA:Ca (ids s) l with
    |false=>rfl
    |true=>exact absurd (GU.1 hA _ (AK hlt)) h
   refine wf ?_
   refine Ah (.of_eq ?_)
   rw[hn]
  ·refine wf ?_
   refine⟨k+1,⟨by omega,fun d hd=>?_⟩,by dsimp only;omega,⟨rfl,rfl,rfl⟩,.refl _⟩
   rw[A6 hlt]at hd
   rcases Ai.1 hd with hd|hd
   ·exact hin d hd
   ·rw[B1.1 hd];exact h
 ·rw[AA (by omega)]at hin
  refine wf ?_
  refine Ah (.of_eq ?_)
  rw[GU.2 hin]⟩
theorem Sr {r:Repo} (h:Bd (.agg (Ay r))):r.branches.length≤140737488355328:=(h.agg_at (c:= .slice (r.branches.map eBrn) .ro) (by simp[Ay])).slice_map
theorem Wu {r:Repo} (h:Bd (.agg (Ay r))):r.tags.length≤140737488355328:=(h.agg_at (c:= .slice (r.tags.map eTgg) .ro) (by simp[Ay])).slice_map
instance tM (r:Repo) (n:Str):Bl Tryz.prog 66 [.agg (Ay r),.str n] (.raw (.int .i64 (C3 Brn.name r.branches n))):=⟨by
 refine Ak Tryz.func66 Tryz.ntmps66 rfl (rs:= [.tmp 4]) rfl rfl fun hb LF=>?_
 have hll:=Sr (hb (.agg (Ay r)) (by simp))
 refine wf ?_
 refine AW (σ:=Nat) (fun k=>k≤r.branches.length∧ ∀ j (hj:j < r.branches.length),j < k→r.branches[j].name≠n) (fun k=>r.branches.length - k) (fun k=> [(1,.str n),(2,.pt (Ay r) 0),(5,.raw (.int .i64 k))]) (fun _=>LF) 0 ⟨by simp,by simp⟩ ⟨rfl,rfl,rfl⟩ (.refl _) ?_
 rintro k ⟨hk,hne⟩
 refine wf ?_
 refine A1 (fun hc=>?_) (fun hc=>?_)
 ·have hlt:k < r.branches.length:=by omega
  refine wf ?_
  refine A1 (fun h=>?_) (fun h=>?_)
  ·have e:=kr (nm:=Brn.name) hlt hne h
   refine wf ?_
   refine Ah (.of_eq ?_)
   rw[e]
  ·refine wf ?_
   refine⟨k+1,⟨by omega,fun j hj hjk=>?_⟩,by dsimp only;omega,⟨rfl,rfl,rfl⟩,.refl _⟩
   by_cases e:j=k
   ·subst e;exact h
   ·exact hne j hj (by omega)
 ·have e:=bT (nm:=Brn.name) (l:=r.branches) (n:=n) fun j hj=>hne j hj (by omega)
  refine wf ?_
  refine Ah (.of_eq ?_)
  rw[e]⟩
theorem Zg (s:List Sto) (l:List Dig) (t u:CW) (v:C7 s):Bl Tryz.prog 128 [.slice (s.map eSto) t,.slice (l.map eDig) u] (.raw (.bool (Fj s l))):=⟨by
 refine Ak Tryz.func128 Tryz.ntmps128 rfl (rs:= [.tmp 4]) rfl rfl fun hb LF=>?_
 have hll:l.length≤140737488355328:=(hb (.slice (l.map eDig) u) (by simp)).slice_map
 refine wf ?_
 refine AW (σ:=Nat) (fun k=>k≤l.length∧ ∀ d∈l.take k,Ca l (ndS s d)=true) (fun k=>l.length - k) (fun k=> [(0,.slice (s.map eSto) t),(1,.slice (l.map eDig) u),(5,.raw (.int .i64 k))]) (fun _=>LF) 0 ⟨by simp,by simp⟩ ⟨rfl,rfl,rfl⟩ (.refl _) ?_
 rintro k ⟨hk,hin⟩
 refine wf ?_
 refine A1 (fun hc=>?_) (fun hc=>?_)
 ·have hlt:k < l.length:=by omega
  have i1:B3 (EE ((getS s l[k]).getD Pat.zero)=false):=⟨v.close.great _⟩
  have hnl:=kA v l[k]
  have hbad:=fun(h:Ca l (ndS s l[k])=false)=>show Fj s l=false from by
   cases hA:Fj s l with
   |false=>rfl
   |true=>rw[Ar.1 hA _ (AK hlt)]at h;cases h
  refine wz fun b6=>?_
  refine Ag 6 ?_
  refine wf ?_
  rw[show Bf ((getS s l[k]).getD Pat.zero)=ndS s l[k] from rfl]
  have hdo:=fun(h:Ca l (ndS s l[k])=true)=>show ∀ d∈l.take (k+1),Ca l (ndS s d)=true from fun d hd=>by
   rw[A6 hlt]at hd
   rcases Ai.1 hd with hd|hd
   ·exact hin d hd
   ·rw[B1.1 hd];exact h
  generalize ndS s l[k]=nd at hnl hbad hdo ⊢
  refine AW (σ:=Nat) (fun j=>j≤nd.length∧ ∀ d∈nd.take j,d∈l) (fun j=>nd.length - j) (fun j=> [(0,.slice (s.map eSto) t),(1,.slice (l.map eDig) u),(5,.raw (.int .i64 k)),(8,.slice (nd.map eDig) .ro),(9,.raw (.int .i64 j))]) (fun _=>LF) 0 ⟨by simp,by simp⟩ ⟨rfl,rfl,rfl,rfl,rfl⟩ (.refl _) ?_
  rintro j ⟨hj,hjn⟩
  refine wf ?_
  refine A1 (fun hc=>?_) (fun hc=>?_)
  ·have hjl:j < nd.length:=by omega
   refine wf ?_
   refine AL (fun h=>?_) (fun h=>?_)
   ·have:=hbad (by
     cases hA:Ca l nd with
     |false=>rfl
     |true=>exact absurd (GU.1 hA _ (AK hjl)) h)
    refine wf ?_
    refine Ah (.of_eq ?_)
    rw[this]
   ·refine wf ?_
    refine⟨j+1,⟨by omega,fun d hd=>?_⟩,by dsimp only;omega,⟨rfl,rfl,rfl,rfl,rfl⟩,.refl _⟩
    rw[A6 hjl]at hd
    rcases Ai.1 hd with hd|hd
    ·exact hjn d hd
    ·rw[B1.1 hd];exact h
  ·rw[AA (by omega)]at hjn
   refine wf ?_
   exact⟨k+1,⟨by omega,hdo (GU.2 hjn)⟩,by dsimp only;omega,⟨rfl,rfl,rfl⟩,.refl _⟩
 ·rw[AA (by omega)]at hin
  have:Fj s l=true:=Ar.2 fun d hd=>hin d hd
  refine wf ?_
  refine Ah (.of_eq ?_)
  rw[this]⟩
theorem fU {α:Type} {l:List α} (h:l.Nodup) {i k:Nat} (hi:i < l.length) (hk:k < l.length) (e:l[i]=l[k]):i=k:=by
 rcases Fp i k with h1|h1|h1
 ·exact absurd e ((BN.1 h) i k hi hk h1)
 ·exact h1
 ·exact absurd e.symm ((BN.1 h) k i hk hi h1)
theorem lb {s:List Sto} {l:List Dig} (ha:Ej l):K1 s l=true↔ ∀ i (hi:i < l.length) k (hk:k < l.length),i=k∨Fv s l[i] l[k]=false:=by
 rw[Kq]
 constructor
 ·intro h i hi k hk
  rcases h _ (AK hi) _ (AK hk)with e|e
  ·exact .inl (fU ha.nodup hi hk e)
  ·exact .inr e
 ·intro h p hp q hq
  obtain⟨i,hi,rfl⟩:=AX.1 hp
  obtain⟨k,hk,rfl⟩:=AX.1 hq
  rcases h i hi k hk with e|e
  ·subst e;exact .inl rfl
  ·exact .inr e
theorem br (s:List Sto) (l:List Dig) (t u:CW) (v:C7 s) (ha:Ej l):Bl Tryz.prog 129 [.slice (s.map eSto) t,.slice (l.map eDig) u] (.raw (.bool (K1 s l))):=⟨by
 have iv:B3 (La s):=⟨v.close⟩
 refine Ak Tryz.func129 Tryz.ntmps129 rfl (rs:= [.tmp 4]) rfl rfl fun hb LF=>?_
 have hll:l.length≤140737488355328:=(hb (.slice (l.map eDig) u) (by simp)).slice_map
 have hat:=lb (s:=s) ha
 refine wf ?_
 refine AW (σ:=Nat) (fun i=>i≤l.length∧ ∀ a (ha:a < l.length) b (hb:b < l.length),a < i→a=b∨Fv s l[a] l[b]=false) (fun i=>l.length - i) (fun i=> [(0,.slice (s.map eSto) t),(1,.slice (l.map eDig) u),(5,.raw (.int .i64 i))]) (fun _=>LF) 0 ⟨by simp,fun a _ b _ h=>by omega⟩ ⟨rfl,rfl,rfl⟩ (.refl _) ?_
 rintro i ⟨hi,hin⟩
 refine wf ?_
 refine A1 (fun hc=>?_) (fun hc=>?_)
 ·have hlt:i < l.length:=by omega
  refine wf ?_
  refine AW (σ:=Nat) (fun k=>k≤l.length∧ ∀ b (hb:b < l.length),b < k→i=b∨Fv s l[i] l[b]=false) (fun k=>l.length - k) (fun k=> [(0,.slice (s.map eSto) t),(1,.slice (l.map eDig) u),(5,.raw (.int .i64 i)),(6,.raw (.int .i64 k))]) (fun _=>LF) 0 ⟨by simp,fun b _ h=>by omega⟩ ⟨rfl,rfl,rfl,rfl⟩ (.refl _) ?_
  rintro k ⟨hk,hkn⟩
  refine wf ?_
  refine A1 (fun hc=>?_) (fun hc=>?_)
  ·have hkl:k < l.length:=by omega
   have hnext:=fun(h:i=k∨Fv s l[i] l[k]=false)=>show ∀ b (hb:b < l.length),b < k+1→i=b∨Fv s l[i] l[b]=false from fun b hb hbk=>by
    by_cases e:b=k
    ·subst e;exact h
    ·exact hkn b hb (by omega)
   refine wf ?_
   refine An (fun hp=>?_) (fun hp=>?_)
   ·have hne:i≠k:=by
     simp only[AG,A7]at hp
     omega
    refine wf ?_
    refine AO (fun h=>?_) (fun h=>?_)
    ·have:K1 s l=false:=by
      cases hA:K1 s l with
      |false=>rfl
      |true=>rcases hat.1 hA i hlt k hkl with e|e
             ·exact absurd e hne
             ·rw[h]at e;cases e
     refine wf ?_
     refine Ah (.of_eq ?_)
     rw[this]
    ·refine wf ?_
     exact⟨k+1,⟨by omega,hnext (.inr h)⟩,by dsimp only;omega,⟨rfl,rfl,rfl,rfl⟩,.refl _⟩
   ·have he:i=k:=by
     simp only[AF,AB]at hp
     omega
    refine wf ?_
    exact⟨k+1,⟨by omega,hnext (.inl he)⟩,by dsimp only;omega,⟨rfl,rfl,rfl,rfl⟩,.refl _⟩
  ·refine wf ?_
   refine⟨i+1,⟨by omega,fun a ha b hb hai=>?_⟩,by dsimp only;omega,⟨rfl,rfl,rfl⟩,.refl _⟩
   by_cases e:a=i
   ·subst e;exact hkn b hb (by omega)
   ·exact hin a ha b hb (by omega)
 ·have:K1 s l=true:=hat.2 fun a ha b hb=>hin a ha b hb (by omega)
  refine wf ?_
  refine Ah (.of_eq ?_)
  rw[this]⟩
theorem lF (r:Repo) (i:Nat):KH r i=if EK (r.branches.getD i Brn.zero).name=false then 5 else
  if(0 < i∧Hz (r.branches.getD (i - 1) Brn.zero).name (r.branches.getD i Brn.zero).name=false)∨O3 (r.branches.getD i Brn.zero).ids=false then 9 else
  if Ca (ids r.pool) (r.branches.getD i Brn.zero).ids=false then 7 else if Fj r.pool (r.branches.getD i Brn.zero).ids=false then 19 else 0:=by
 unfold KH Fw
 by_cases hp:0 < i∧Hz (r.branches.getD (i - 1) Brn.zero).name (r.branches.getD i Brn.zero).name=false<;>cases EK (r.branches.getD i Brn.zero).name<;>cases O3 (r.branches.getD i Brn.zero).ids<;>cases Ca (ids r.pool) (r.branches.getD i Brn.zero).ids<;>simp[hp]
theorem lA (r:Repo) (i:Nat):KG r i=if EK (r.tags.getD i Tgg.zero).name=false then 5 else
  if 0 < i∧Hz (r.tags.getD (i - 1) Tgg.zero).name (r.tags.getD i Tgg.zero).name=false then 9 else
  if 0≤C3 Brn.name r.branches (r.tags.getD i Tgg.zero).name then 6 else if 1000 < ((r.tags.getD i Tgg.zero).note.length:Int)then 4 else
  if O3 (r.tags.getD i Tgg.zero).tops=false then 9 else if Ca (ids r.pool) (r.tags.getD i Tgg.zero).tops=false then 7 else if K1 r.pool (r.tags.getD i Tgg.zero).tops=false then 1 else 0:=by
 unfold KG Fw
 by_cases hp:0 < i∧Hz (r.tags.getD (i - 1) Tgg.zero).name (r.tags.getD i Tgg.zero).name=false<;>cases EK (r.tags.getD i Tgg.zero).name<;>cases O3 (r.tags.getD i Tgg.zero).tops<;>cases Ca (ids r.pool) (r.tags.getD i Tgg.zero).tops<;>simp[hp]
theorem Uq (r:Repo) (v:C7 r.pool):Bl Tryz.prog 64 [.agg (Ay r)] (.raw (.int .i64 (Aq (KH r) (List.range r.branches.length)))):=⟨by
 refine Ak Tryz.func64 Tryz.ntmps64 rfl (rs:= [.tmp 2]) rfl rfl fun hb LF=>?_
 have hll:=Sr (hb (.agg (Ay r)) (by simp))
 refine wf ?_
 refine AW (σ:=Nat) (fun i=>i≤r.branches.length∧ ∀ j,j < i→KH r j=0) (fun i=>r.branches.length - i) (fun i=> [(1,.pt (Ay r) 0),(3,.raw (.int .i64 i))]) (fun _=>LF) 0 ⟨by simp,fun j h=>absurd h (Ia _)⟩ ⟨rfl,rfl⟩ (.refl _) ?_
 rintro i ⟨hi,hz⟩
 refine wf ?_
 refine A1 (fun hc=>?_) (fun hc=>?_)
 ·have hlt:i < r.branches.length:=by omega
  have hat:=du hlt hz
  have hch:=lF r i
  have hp: ∀ h:0 < i,r.branches.getD (i - 1) Brn.zero=r.branches[i - 1]'(by omega):=fun h=>GK (by omega)
  generalize r.branches.getD (i - 1) Brn.zero=y at hp hch
  rw[GK hlt]at hch
  have cc:=fun t u=>Zg r.pool r.branches[i].ids t u v
  have e2: ∀ h:0 < i,r.branches[((i:Int) - 1).toNat]'(by omega)=y:=fun h=>by rw[hp h];congr 1;omega
  refine wz fun b4=>?_
  refine Ag 4 ?_
  generalize hx:r.branches[i]=x at hch cc
  refine wf ?_
  refine AO (fun h=>?_) (fun h=>?_)
  ·rw[if_pos (by simpa using h)]at hch
   refine wf ?_
   refine Ah (.of_eq ?_)
   rw[hat (by rw[hch];decide),hch]
  rw[if_neg (by simpa using h)]at hch
  clear h
  refine wf ?_
  refine B0 [(40,.raw (.bool (decide ((0 < i∧Hz y.name x.name=false)∨O3 x.ids=false)))),(1,.pt (Ay r) 0),(3,.raw (.int .i64 i)),(4,.pt (eBrn x) 0)] LF ?_ ?_
  ·refine An (fun hp=>?_) (fun hp=>?_)
   ·have h0:0 < i:=by have:=Ab hp;omega
    refine wf ?_
    refine ca (ax:= .str (r.branches[((i:Int) - 1).toNat]'(by omega)).name) (ay:= .str x.name) rfl rfl ?_
    rw[e2 h0]
    cases hl:Hz y.name x.name with
    |false=>
     refine wf ?_
     refine⟨⟨BO (by rfl) ?_,rfl,rfl,rfl⟩,.refl _⟩
     simp[h0]
    |true=>
     refine wf ?_
     refine⟨⟨BO (by rfl) ?_,rfl,rfl,rfl⟩,.refl _⟩
     cases O3 x.ids<;>simp
   ·have h0: ¬0 < i:=by have:=BJ hp;omega
    refine wf ?_
    refine⟨⟨BO (by rfl) ?_,rfl,rfl,rfl⟩,.refl _⟩
    cases O3 x.ids<;>simp[h0]
  refine wf ?_
  refine A1 (fun h=>?_) (fun h=>?_)
  ·rw[if_pos h]at hch
   refine wf ?_
   refine Ah (.of_eq ?_)
   rw[hat (by rw[hch];decide),hch]
  rw[if_neg h]at hch
  clear h
  refine wf ?_
  refine AO (fun h=>?_) (fun h=>?_)
  ·rw[if_pos (by simpa using h)]at hch
   refine wf ?_
   refine Ah (.of_eq ?_)
   rw[hat (by rw[hch];decide),hch]
  rw[if_neg (by simpa using h)]at hch
  clear h
  refine wf ?_
  refine AO (fun h=>?_) (fun h=>?_)
  ·rw[if_pos (by simpa using h)]at hch
   refine wf ?_
   refine Ah (.of_eq ?_)
   rw[hat (by rw[hch];decide),hch]
  rw[if_neg (by simpa using h)]at hch
  refine wf ?_
  refine⟨i+1,⟨by omega,fun j hj=>?_⟩,by dsimp only;omega,⟨rfl,rfl⟩,.refl _⟩
  by_cases e:j=i
  ·subst e;exact hch
  ·exact hz j (by omega)
 ·have:=Zi (r:=r) fun j hj=>hz j (by omega)
  refine wf ?_
  refine Ah (.of_eq ?_)
  rw[this]⟩
theorem eH (r:Repo) (v:C7 r.pool):Bl Tryz.prog 65 [.agg (Ay r)] (.raw (.int .i64 (Aq (KG r) (List.range r.tags.length)))):=⟨by
 refine Ak Tryz.func65 Tryz.ntmps65 rfl (rs:= [.tmp 2]) rfl rfl fun hb LF=>?_
 have hll:=Wu (hb (.agg (Ay r)) (by simp))
 refine wf ?_
 refine AW (σ:=Nat) (fun i=>i≤r.tags.length∧ ∀ j,j < i→KG r j=0) (fun i=>r.tags.length - i) (fun i=> [(1,.pt (Ay r) 0),(3,.raw (.int .i64 i))]) (fun _=>LF) 0 ⟨by simp,fun j h=>absurd h (Ia _)⟩ ⟨rfl,rfl⟩ (.refl _) ?_
 rintro i ⟨hi,hz⟩
 refine wf ?_
 refine A1 (fun hc=>?_) (fun hc=>?_)
 ·have hlt:i < r.tags.length:=by omega
  have hat:=dt hlt hz
  have hch:=lA r i
  have hp: ∀ h:0 < i,r.tags.getD (i - 1) Tgg.zero=r.tags[i - 1]'(by omega):=fun h=>HF (by omega)
  generalize r.tags.getD (i - 1) Tgg.zero=y at hp hch
  rw[HF hlt]at hch
  have cc:=fun(ha:Ej r.tags[i].tops) t u=>br r.pool r.tags[i].tops t u v ha
  have e2: ∀ h:0 < i,r.tags[((i:Int) - 1).toNat]'(by omega)=y:=fun h=>by rw[hp h];congr 1;omega
  refine wz fun b4=>?_
  refine Ag 4 ?_
  generalize hx:r.tags[i]=x at hch cc
  refine wf ?_
  refine AO (fun h=>?_) (fun h=>?_)
  ·rw[if_pos (by simpa using h)]at hch
   refine wf ?_
   refine Ah (.of_eq ?_)
   rw[hat (by rw[hch];decide),hch]
  rw[if_neg (by simpa using h)]at hch
  clear h
  refine wf ?_
  refine B0 [(34,.raw (.bool (decide (0 < i∧Hz y.name x.name=false)))),(1,.pt (Ay r) 0),(3,.raw (.int .i64 i)),(4,.pt (eTgg x) 0)] LF ?_ ?_
  ·refine An (fun hp=>?_) (fun hp=>?_)
   ·have h0:0 < i:=by have:=Ab hp;omega
    refine wf ?_
    refine ca (ax:= .str (r.tags[((i:Int) - 1).toNat]'(by omega)).name) (ay:= .str x.name) rfl rfl ?_
    rw[e2 h0]
    refine wf ?_
    refine⟨⟨BO (by rfl) ?_,rfl,rfl,rfl⟩,.refl _⟩
    cases Hz y.name x.name<;>simp[h0]
   ·have h0: ¬0 < i:=by have:=BJ hp;omega
    refine wf ?_
    refine⟨⟨BO (by rfl) ?_,rfl,rfl,rfl⟩,.refl _⟩
    simp[h0]
  refine wf ?_
  refine A1 (fun h=>?_) (fun h=>?_)
  ·rw[if_pos h]at hch
   refine wf ?_
   refine Ah (.of_eq ?_)
   rw[hat (by rw[hch];decide),hch]
  rw[if_neg h]at hch
  clear h
  refine wf ?_
  refine A1 (fun h=>?_) (fun h=>?_)
  ·rw[if_pos h]at hch
   refine wf ?_
   refine Ah (.of_eq ?_)
   rw[hat (by rw[hch];decide),hch]
  rw[if_neg h]at hch
  clear h
  refine wf ?_
  refine A1 (fun h=>?_) (fun h=>?_)
  ·rw[if_pos h]at hch
   refine wf ?_
   refine Ah (.of_eq ?_)
   rw[hat (by rw[hch];decide),hch]
  rw[if_neg h]at hch
  clear h
  refine wf ?_
  refine AO (fun h=>?_) (fun h=>?_)
  ·rw[if_pos (by simpa using h)]at hch
   refine wf ?_
   refine Ah (.of_eq ?_)
   rw[hat (by rw[hch];decide),hch]
  rw[if_neg (by simpa using h)]at hch
  have cc:=cc (Qj.1 (by simpa using h))
  clear h
  refine wf ?_
  refine AO (fun h=>?_) (fun h=>?_)
  ·rw[if_pos (by simpa using h)]at hch
   refine wf ?_
   refine Ah (.of_eq ?_)
   rw[hat (by rw[hch];decide),hch]
  rw[if_neg (by simpa using h)]at hch
  clear h
  refine wf ?_
  refine AO (fun h=>?_) (fun h=>?_)
  ·rw[if_pos (by simpa using h)]at hch
   refine wf ?_
   refine Ah (.of_eq ?_)
   rw[hat (by rw[hch];decide),hch]
  rw[if_neg (by simpa using h)]at hch
  refine wf ?_
  refine⟨i+1,⟨by omega,fun j hj=>?_⟩,by dsimp only;omega,⟨rfl,rfl⟩,.refl _⟩
  by_cases e:j=i
  ·subst e;exact hch
  ·exact hz j (by omega)
 ·have:=Zh (r:=r) fun j hj=>hz j (by omega)
  refine wf ?_
  refine Ah (.of_eq ?_)
  rw[this]⟩
theorem bl (r:Repo) (hg:Dc r.pool):Bl Tryz.prog 19 [.agg (Ay r)] (.raw (.int .i64 (EO r))):=⟨by
 have ig:B3 (Dc r.pool):=⟨hg⟩
 refine Ak Tryz.func19 Tryz.ntmps19 rfl (rs:= [.tmp 2]) rfl rfl fun hb LF=>?_
 have hbl:=Sr (hb (.agg (Ay r)) (by simp))
 have htl:=Wu (hb (.agg (Ay r)) (by simp))
 have c1:=fun t=>gM r.pool t
 unfold EO
 by_cases h1:FJ r.pool≠0
 ·rw[if_pos h1]
  generalize FJ r.pool=e at c1 h1 ⊢
  refine wf ?_
  refine AL (fun _=>?_) (fun h=>absurd h h1)
  refine wf ?_
  exact Ah (.refl _)
 rw[if_neg h1]
 have v:=KI hg (Aj.1 h1)
 rw[Aj.1 h1]at c1
 have c2:=Uq r v
 have c3:=eH r v
 refine wf ?_
 refine An (fun hp=>?_) (fun hp=>?_)
 ·rw[if_pos (.inl (Ab hp))]
  refine wf ?_
  exact Ah (.refl _)
 have hb1:=BJ hp
 refine wf ?_
 refine A1 (fun h=>?_) (fun h=>?_)
 ·rw[if_pos (.inr h)]
  refine wf ?_
  exact Ah (.refl _)
 rw[if_neg (by omega)]
 by_cases h2:Aq (KH r) (List.range r.branches.length)≠0
 ·rw[if_pos h2]
  generalize Aq (KH r) (List.range r.branches.length)=e at c2 h2 ⊢
  refine wf ?_
  refine AL (fun _=>?_) (fun h=>absurd h h2)
  refine wf ?_
  exact Ah (.refl _)
 rw[if_neg h2]
 rw[Aj.1 h2]at c2
 by_cases h3:Aq (KG r) (List.range r.tags.length)≠0
 ·rw[if_pos h3]
  generalize Aq (KG r) (List.range r.tags.length)=e at c3 h3 ⊢
  refine wf ?_
  refine AL (fun _=>?_) (fun h=>absurd h h3)
  refine wf ?_
  exact Ah (.refl _)
 rw[if_neg h3]
 rw[Aj.1 h3]at c3
 refine wf ?_
 refine A1 (fun h=>?_) (fun h=>?_)
 ·rw[if_pos h]
  refine wf ?_
  exact Ah (.refl _)
 rw[if_neg h]
 refine wf ?_
 exact Ah (.refl _)⟩
theorem di {α:Type} [DecidableEq α] (a:α):decide (a=a)=true:=BL rfl
theorem pW (x y:Brn):x=y↔x.name=y.name∧x.ids=y.ids:=by cases x;cases y;simp
theorem nG (x y:Tgg):x=y↔x.name=y.name∧x.note=y.note∧x.tops=y.tops:=by cases x;cases y;simp
theorem cJ {α:Type} {l m:List α} (hl:l.length=m.length) (h:l.take l.length=m.take l.length):l=m:=by
 rw[Cu,hl,Cu]at h;exact h
theorem VH {α:Type} {l m:List α} {k:Nat} (h1:k < l.length) (h2:k < m.length) (h:l.take k=m.take k) (e:l[k]=m[k]):l.take (k+1)=m.take (k+1):=by
 rw[A6 h1,A6 h2,h,e]
instance uM (a b:Repo):Bl Tryz.prog 21 [.agg (Ay a),.agg (Ay b)] (.raw (.bool (decide (a=b)))):=⟨by
 refine Ak Tryz.func21 Tryz.ntmps21 rfl (rs:= [.tmp 4]) rfl rfl fun hb LF=>?_
 have hbl:=Sr (hb (.agg (Ay a)) (by simp))
 have htl:=Wu (hb (.agg (Ay a)) (by simp))
 clear hb
 refine wf ?_
 refine B0 [(37,.raw (.bool (decide (¬(a.pool=b.pool∧a.current=b.current∧a.branches.length=b.branches.length∧a.tags.length=b.tags.length))))),(2,.pt (Ay a) 0),(3,.pt (Ay b) 0)] (LF) ?_ ?_
 ·repeat' (first|(refine A1 (fun h=>?_) (fun h=>?_)<;>refine wf ?_)|(refine AL (fun h=>?_) (fun h=>?_)<;>refine wf ?_)|(refine AO (fun h=>?_) (fun h=>?_)<;>refine wf ?_)|(refine An (fun h=>?_) (fun h=>?_)<;>(have h2:=h;(try simp only[AB,A7,AG,AF]at h2);refine wf ?_)))
  all_goals (refine⟨⟨BO (by rfl) ?_,rfl,rfl⟩,.refl _⟩;first|(simp_all;done)|(simp_all;omega)|grind)
 refine wf ?_
 refine A1 (fun h=>?_) (fun h=>?_)
 ·have hne: ¬a=b:=fun e=>h (by subst e;exact⟨rfl,rfl,rfl,rfl⟩)
  refine wf ?_
  refine Ah (.of_eq ?_)
  simp[hne]
 obtain⟨hp,hcu,hl1,hl2⟩:=Aj.1 h
 clear h
 refine wf ?_
 refine AW (σ:=Nat) (fun k=>k≤a.branches.length∧a.branches.take k=b.branches.take k) (fun k=>a.branches.length - k) (fun k=> [(2,.pt (Ay a) 0),(3,.pt (Ay b) 0),(5,.raw (.int .i64 k))]) (fun _=>LF) 0 ⟨by simp,by simp⟩ ⟨rfl,rfl,rfl⟩ (.refl _) ?_
 rintro k ⟨hk,hq⟩
 refine wf ?_
 refine A1 (fun hc=>?_) (fun hc=>?_)
 ·have hlt:k < a.branches.length:=by omega
  have hlt2:k < b.branches.length:=by omega
  have hi:=pW a.branches[k] b.branches[k]
  refine wf ?_
  refine B0 [(73,.raw (.bool (decide (¬(a.branches[k]=b.branches[k]))))),(2,.pt (Ay a) 0),(3,.pt (Ay b) 0),(5,.raw (.int .i64 k))] (LF) ?_ ?_
  ·repeat' (first|(refine A1 (fun h=>?_) (fun h=>?_)<;>refine wf ?_)|(refine AL (fun h=>?_) (fun h=>?_)<;>refine wf ?_)|(refine AO (fun h=>?_) (fun h=>?_)<;>refine wf ?_)|(refine An (fun h=>?_) (fun h=>?_)<;>(have h2:=h;(try simp only[AB,A7,AG,AF]at h2);refine wf ?_)))
   all_goals (refine⟨⟨BO (by rfl) ?_,rfl,rfl,rfl⟩,.refl _⟩;(simp only[hi];clear hi hq hp;first|(simp_all;done)|grind))
  refine wf ?_
  refine A1 (fun h=>?_) (fun h=>?_)
  ·have hne: ¬a=b:=fun e=>h (by subst e;rfl)
   refine wf ?_
   refine Ah (.of_eq ?_)
   simp[hne]
  ·refine wf ?_
   exact⟨k+1,⟨by omega,VH hlt hlt2 hq (Aj.1 h)⟩,by dsimp only;omega,⟨rfl,rfl,rfl⟩,.refl _⟩
 have hkk:k=a.branches.length:=by omega
 subst hkk
 have hB:=cJ hl1 hq
 clear hq hc hk
 refine wf ?_
 refine AW (σ:=Nat) (fun k=>k≤a.tags.length∧a.tags.take k=b.tags.take k) (fun k=>a.tags.length - k) (fun k=> [(2,.pt (Ay a) 0),(3,.pt (Ay b) 0),(6,.raw (.int .i64 k))]) (fun _=>LF) 0 ⟨by simp,by simp⟩ ⟨rfl,rfl,rfl⟩ (.refl _) ?_
 rintro k ⟨hk,hq⟩
 refine wf ?_
 refine A1 (fun hc=>?_) (fun hc=>?_)
 ·have hlt:k < a.tags.length:=by omega
  have hlt2:k < b.tags.length:=by omega
  have hi:=nG a.tags[k] b.tags[k]
  refine wf ?_
  refine B0 [(124,.raw (.bool (decide (¬(a.tags[k]=b.tags[k]))))),(2,.pt (Ay a) 0),(3,.pt (Ay b) 0),(6,.raw (.int .i64 k))] (LF) ?_ ?_
  ·repeat' (first|(refine A1 (fun h=>?_) (fun h=>?_)<;>refine wf ?_)|(refine AL (fun h=>?_) (fun h=>?_)<;>refine wf ?_)|(refine AO (fun h=>?_) (fun h=>?_)<;>refine wf ?_)|(refine An (fun h=>?_) (fun h=>?_)<;>(have h2:=h;(try simp only[AB,A7,AG,AF]at h2);refine wf ?_)))
   all_goals (refine⟨⟨BO (by rfl) ?_,rfl,rfl,rfl⟩,.refl _⟩;(simp only[hi];clear hi hq hp hB;first|(simp_all;done)|grind))
  refine wf ?_
  refine A1 (fun h=>?_) (fun h=>?_)
  ·have hne: ¬a=b:=fun e=>h (by subst e;rfl)
   refine wf ?_
   refine Ah (.of_eq ?_)
   simp[hne]
  ·refine wf ?_
   exact⟨k+1,⟨by omega,VH hlt hlt2 hq (Aj.1 h)⟩,by dsimp only;omega,⟨rfl,rfl,rfl⟩,.refl _⟩
 ·have hkk:k=a.tags.length:=by omega
  subst hkk
  have hT:=cJ hl2 hq
  have he:a=b:=by
   cases a;cases b
   simp only at hp hcu hB hT
   rw[hp,hcu,hB,hT]
  refine wf ?_
  refine Ah (.of_eq ?_)
  simp[he]⟩
def gB (b:Brn):Bool:=decide (60 < (b.name.length:Int))||decide (12 < (b.ids.length:Int))
def gT (t:Tgg):Bool:=decide (60 < (t.name.length:Int))||decide (1500 < (t.note.length:Int))||decide (12 < (t.tops.length:Int))
def OJ (r:Repo):Bool:=r.branches.any gB||r.tags.any gT||(GD r.pool||decide (8 < (r.branches.length:Int))||decide (8 < (r.tags.length:Int)))
theorem Ru {r:Repo} (h:OJ r=false):Dc r.pool∧r.pool.length≤8∧r.branches.length≤8∧r.tags.length≤8:=by
 unfold OJ at h
 simp only[Bc,A7]at h
 obtain⟨⟨_,_⟩,⟨h1,h2⟩,h3⟩:=h
 refine⟨Kl h1,?_,by omega,by omega⟩
 unfold GD at h1
 simp only[Bc,A7]at h1
 omega
instance tE (r:Repo):Bl Tryz.prog 12 [.agg (Ay r)] (.raw (.bool (OJ r))):=⟨by
 refine Ak Tryz.func12 Tryz.ntmps12 rfl (rs:= [.tmp 2]) rfl rfl fun hb LF=>?_
 have hbl:=Sr (hb (.agg (Ay r)) (by simp))
 have htl:=Wu (hb (.agg (Ay r)) (by simp))
 clear hb
 refine wf ?_
 refine AW (σ:=Nat) (fun k=>k≤r.branches.length∧(r.branches.take k).any gB=false) (fun k=>r.branches.length - k) (fun k=> [(1,.pt (Ay r) 0),(3,.raw (.int .i64 k))]) (fun _=>LF) 0 ⟨by simp,by simp⟩ ⟨rfl,rfl⟩ (.refl _) ?_
 rintro k ⟨hk,hn⟩
 refine wf ?_
 refine A1 (fun hc=>?_) (fun hc=>?_)
 ·have hlt:k < r.branches.length:=by omega
  have hx:gB r.branches[k]=(decide (60 < (r.branches[k].name.length:Int))||decide (12 < (r.branches[k].ids.length:Int))):=rfl
  refine wf ?_
  refine B0 [(29,.raw (.bool (gB r.branches[k]))),(1,.pt (Ay r) 0),(3,.raw (.int .i64 k))] (LF) ?_ ?_
  ·repeat' (first|(refine A1 (fun h=>?_) (fun h=>?_)<;>refine wf ?_)|(refine AL (fun h=>?_) (fun h=>?_)<;>refine wf ?_)|(refine AO (fun h=>?_) (fun h=>?_)<;>refine wf ?_)|(refine An (fun h=>?_) (fun h=>?_)<;>(have h2:=h;(try simp only[AB,A7,AG,AF]at h2);refine wf ?_)))
   all_goals (refine⟨⟨BO (by rfl) ?_,rfl,rfl⟩,.refl _⟩;(rw[hx];clear hx hn;first|(simp_all;done)|grind))
  refine wf ?_
  refine AO (fun h=>?_) (fun h=>?_)
  ·have:r.branches.any gB=true:=BW.2 ⟨_,AK hlt,h⟩
   refine wf ?_
   refine Ah (.of_eq ?_)
   unfold OJ
   rw[this];rfl
  ·refine wf ?_
   refine⟨k+1,⟨by omega,?_⟩,by dsimp only;omega,⟨rfl,rfl⟩,.refl _⟩
   rw[A6 hlt,FH,hn]
   simp[h]
 rw[AA (by omega)]at hn
 unfold OJ
 rw[hn,Ic]
 clear hn hc hk
 refine wf ?_
 refine AW (σ:=Nat) (fun k=>k≤r.tags.length∧(r.tags.take k).any gT=false) (fun k=>r.tags.length - k) (fun k=> [(1,.pt (Ay r) 0),(4,.raw (.int .i64 k))]) (fun _=>LF) 0 ⟨by simp,by simp⟩ ⟨rfl,rfl⟩ (.refl _) ?_
 rintro k ⟨hk,hn⟩
 refine wf ?_
 refine A1 (fun hc=>?_) (fun hc=>?_)
 ·have hlt:k < r.tags.length:=by omega
  have hx:gT r.tags[k]=(decide (60 < (r.tags[k].name.length:Int))||decide (1500 < (r.tags[k].note.length:Int))||decide (12 < (r.tags[k].tops.length:Int))):=rfl
  refine wf ?_
  refine B0 [(64,.raw (.bool (gT r.tags[k]))),(1,.pt (Ay r) 0),(4,.raw (.int .i64 k))] (LF) ?_ ?_
  ·repeat' (first|(refine A1 (fun h=>?_) (fun h=>?_)<;>refine wf ?_)|(refine AL (fun h=>?_) (fun h=>?_)<;>refine wf ?_)|(refine AO (fun h=>?_) (fun h=>?_)<;>refine wf ?_)|(refine An (fun h=>?_) (fun h=>?_)<;>(have h2:=h;(try simp only[AB,A7,AG,AF]at h2);refine wf ?_)))
   all_goals (refine⟨⟨BO (by rfl) ?_,rfl,rfl⟩,.refl _⟩;(rw[hx];clear hx hn;first|(simp_all;done)|grind))
  refine wf ?_
  refine AO (fun h=>?_) (fun h=>?_)
  ·have:r.tags.any gT=true:=BW.2 ⟨_,AK hlt,h⟩
   refine wf ?_
   refine Ah (.of_eq ?_)
   rw[this];rfl
  ·refine wf ?_
   refine⟨k+1,⟨by omega,?_⟩,by dsimp only;omega,⟨rfl,rfl⟩,.refl _⟩
   rw[A6 hlt,FH,hn]
   simp[h]
 ·rw[AA (by omega)]at hn
  rw[hn,Ic]
  clear hn hc hk
  refine wf ?_
  repeat' (first|(refine A1 (fun h=>?_) (fun h=>?_)<;>refine wf ?_)|(refine AL (fun h=>?_) (fun h=>?_)<;>refine wf ?_)|(refine AO (fun h=>?_) (fun h=>?_)<;>refine wf ?_)|(refine An (fun h=>?_) (fun h=>?_)<;>(have h2:=h;(try simp only[AB,A7,AG,AF]at h2);refine wf ?_)))
  all_goals (refine Ah (.of_eq ?_);first|(simp_all;done)|grind)⟩
end Go.Proofs
namespace Go.Proofs
open Go Go.Q
def mY:Dig:=⟨[34,146,43,11,115,119,30,84,189,61,174,132,217,219,241,187,206,156,26,154,125,15,91,131,51,245,1,187,222,222,70,197],rfl⟩
def ue:Dig:=⟨[132,22,215,213,92,125,40,141,176,74,173,235,87,8,2,136,82,118,129,103,71,231,247,23,93,64,130,163,152,197,227,117],rfl⟩
def gh (t:Int):Pat:=⟨[97,110,110],[],t,[],[zP]⟩
abbrev JC:Str:= [109,97,105,110]
abbrev NZ:Str:= [115,105,100,101]
def xh:List Sto:= [⟨mY,gh 1⟩]
def xg:List Sto:= [⟨mY,gh 1⟩,⟨ue,gh 2⟩]
def yZ:Repo:=⟨[],[⟨JC,[]⟩],[],JC⟩
def xj:Repo:=⟨xh,[⟨JC,[mY]⟩],[],JC⟩
def xi:Repo:=⟨xh,[⟨JC,[mY]⟩,⟨NZ,[mY]⟩],[],JC⟩
def qE:Repo:=⟨xg,[⟨JC,[mY]⟩,⟨NZ,[mY,ue]⟩],[],JC⟩
def yY:Repo:=⟨xg,[⟨JC,[mY]⟩,⟨NZ,[mY]⟩],[],JC⟩
theorem ya:SE JC=(yZ,0):=by decide+kernel
theorem vN:Js yZ JC (gh 1)=(xj,mY,0):=by decide+kernel
theorem yc:IA xj NZ JC=(xi,0):=by decide+kernel
theorem vM:Js xi NZ (gh 2)=(qE,ue,0):=by decide+kernel
theorem vL:N4 qE JC=(xh,0):=by decide+kernel
theorem vK:N4 qE NZ=(xg,0):=by decide+kernel
theorem yX:Fg qE NZ ue=(yY,0):=by decide+kernel
theorem yb:DS yY=(xi,1):=by decide+kernel
theorem gw:HZ (gh 1)=false∧HZ (gh 2)=false:=by decide+kernel
theorem gy:GD []=false∧GD xh=false∧GD xg=false:=by decide+kernel
attribute [local irreducible] EG AY H2 B2 FZ
instance uq (t:Int):Bl Tryz.prog 50 [.raw (.int .i64 t)] (.agg (CP (gh t))):=⟨by
 refine Ak Tryz.func50 Tryz.ntmps50 rfl (rs:= [.cell 2 42]) rfl rfl fun hb LF=>?_
 refine wf ?_
 refine BR fun b2=>?_
 refine wf ?_
 exact FW rfl (.of_eq rfl)⟩
def Qc (r:Repo):Bool:=!OJ r&&decide (EO r=0)
theorem Ko {r:Repo} (h:Qc r=true):H4 r∧r.pool.length≤8∧r.branches.length≤8∧r.tags.length≤8:=by
 unfold Qc at h
 simp only[Bu,AG,AB]at h
 obtain⟨h1,h2,h3,h4⟩:=Ru h.1
 exact⟨(DH h1).1 h.2,h2,h3,h4⟩
instance ug (r:Repo):Bl Tryz.prog 22 [.agg (Ay r)] (.raw (.bool (Qc r))):=⟨by
 refine Ak Tryz.func22 Tryz.ntmps22 rfl (rs:= [.tmp 2]) rfl rfl fun hb LF=>?_
 unfold Qc
 refine wf ?_
 refine An (fun hp=>?_) (fun hp=>?_)
 ·have c1:=bl r (Ru (by simpa using hp)).1
  refine wf ?_
  refine Ah (.of_eq ?_)
  rw[hp,Rh]
 ·refine wf ?_
  refine Ah (.of_eq ?_)
  rw[hp,Xt]⟩
def Pa (a:Deed):Bool:=decide (60 < (a.name.length:Int))||decide (1500 < (a.other.length:Int))||HZ a.patch||GD a.set
theorem LG {a:Deed} (h:Pa a=false):EE a.patch=false∧Dc a.set∧a.set.length≤8:=by
 unfold Pa at h
 simp only[Bc,A7]at h
 refine⟨UE h.1.2,Kl h.2,?_⟩
 have h1:=h.2
 unfold GD at h1
 simp only[Bc,A7]at h1
 omega
instance we (a:Deed):Bl Tryz.prog 28 [.agg (DM a)] (.raw (.bool (Pa a))):=⟨by
 refine Ak Tryz.func28 Tryz.ntmps28 rfl (rs:= [.tmp 2]) rfl rfl fun hb LF=>?_
 unfold Pa
 refine wf ?_
 repeat' (first|(refine A1 (fun h=>?_) (fun h=>?_)<;>refine wf ?_)|(refine AL (fun h=>?_) (fun h=>?_)<;>refine wf ?_)|(refine AO (fun h=>?_) (fun h=>?_)<;>refine wf ?_)|(refine An (fun h=>?_) (fun h=>?_)<;>(have h2:=h;(try simp only[AB,A7,AG,AF]at h2);refine wf ?_)))
 all_goals (refine Ah (.of_eq ?_);first|(simp_all;done)|grind)⟩
theorem Xc (r:Repo) (a:Deed) (hg:Dc r.pool) (hp:EE a.patch=false) (hs:Dc a.set) (hl:2*r.pool.length+1≤200) (hl2:r.pool.length+a.set.length≤200):Bl Tryz.prog 46 [.agg (Ay r),.agg (DM a)] (.tuple [.agg (Ay (SR r a).1),.raw (.int .i64 (SR r a).2)]):=⟨by
 have c1:=UD r a.name a.other hg
 have c2:=l5 r a.name hg
 have c3:=aJ r a.name hg
 have c4:=SX r a.name a.patch hg hp hl
 have c5:=PO r a.name a.id hg
 have c6:=fun t=>KQ r a.name a.set t hg hs hl2
 have c7:=cK r a.name a.other hg
 have c8:=Jo r hg
 have c9:=GN r hg
 refine Ak Tryz.func46 Tryz.ntmps46 rfl (rs:= [.cell 4 27,.tmp 5]) rfl rfl fun hb LF=>?_
 unfold SR
 refine wf ?_
 refine BR fun b4=>?_
 refine wf ?_
 refine A1 (fun h=>?_) (fun h=>?_)
 ·rw[if_pos h]
  refine wf ?_
  exact DX rfl (.of_eq rfl)
 rw[if_neg h]
 clear h
 refine wf ?_
 refine A1 (fun h=>?_) (fun h=>?_)
 ·rw[if_pos h]
  refine wf ?_
  exact DX rfl (.of_eq rfl)
 rw[if_neg h]
 clear h
 refine wf ?_
 refine A1 (fun h=>?_) (fun h=>?_)
 ·rw[if_pos h]
  refine wf ?_
  exact DX rfl (.of_eq rfl)
 rw[if_neg h]
 clear h
 refine wf ?_
 refine A1 (fun h=>?_) (fun h=>?_)
 ·rw[if_pos h]
  refine wf ?_
  refine BR fun b6=>?_
  refine BR fun b7=>?_
  refine wf ?_
  exact DX rfl (.of_eq rfl)
 rw[if_neg h]
 clear h
 refine wf ?_
 refine A1 (fun h=>?_) (fun h=>?_)
 ·rw[if_pos h]
  refine wf ?_
  exact DX rfl (.of_eq rfl)
 rw[if_neg h]
 clear h
 refine wf ?_
 refine A1 (fun h=>?_) (fun h=>?_)
 ·rw[if_pos h]
  refine wf ?_
  refine BR fun b9=>?_
  refine wf ?_
  exact DX rfl (.of_eq rfl)
 rw[if_neg h]
 clear h
 refine wf ?_
 refine A1 (fun h=>?_) (fun h=>?_)
 ·rw[if_pos h]
  refine wf ?_
  exact DX rfl (.of_eq rfl)
 rw[if_neg h]
 clear h
 refine wz fun b12=>?_
 refine Ag 12 ?_
 refine wn ?_
 refine BZ 3 ?_ ?_
 ·decide+kernel
 refine wf ?_
 exact DX rfl (.of_eq rfl)⟩
instance ub (a b c d:UInt8):Jt (.raw (.string ⟨[a,b,c,d].toArray⟩)) (.str [a,b,c,d]):=⟨fun g v hv=>by cases hv;exact .str (by show 4≤maxN;decide)⟩
instance tk:Bl Tryz.prog 13 [] (.raw (.bool true)):=⟨by
 have g1:EE (gh 1)=false:=UE gw.1
 have g2:EE (gh 2)=false:=UE gw.2
 have s0:=Kl gy.1
 have s1:=Kl gy.2.1
 have s2:=Kl gy.2.2
 have c1:=dP JC
 have c2:=SX yZ JC (gh 1) s0 g1 (by decide)
 have c3:=UD xj NZ JC s1
 have c4:=SX xi NZ (gh 2) s1 g2 (by decide)
 have c5:=Hi qE JC s2
 have c6:=Hi qE NZ s2
 have c7:=PO qE NZ ue s2
 have c8:=Jo yY s2
 rw[ya]at c1
 rw[vN]at c2
 rw[yc]at c3
 rw[vM]at c4
 rw[vL]at c5
 rw[vK]at c6
 rw[yX]at c7
 rw[yb]at c8
 dsimp only at c1 c2 c3 c4 c5 c6 c7 c8
 refine Ak Tryz.func13 Tryz.ntmps13 rfl (rs:= [.tmp 0]) rfl rfl fun hb LF=>?_
 refine wn ?_
 refine BR fun b1=>?_
 refine wn ?_
 refine Cz (σ:=Unit) (fun _=>True) (fun _=> [(1,.raw (.pointer (some ⟨b1,0,none⟩))),(2,.raw (.int .i64 0)),(4,.raw (.int .i64 0))]) (fun _=> .box b1 27 (Ay xj)::LF) ?_ ?_
 ·refine EB [0,7,8,9,10] (by decide+kernel) ?_
  refine Aw 1 ?_
  refine De (fuel:=9) [0,7] (by decide+kernel) (by simp) fun i hi=>?_
  simp only[AQ,BF,or_false]at hi
  rcases hi with rfl|rfl
  ·refine⟨_,rfl,?_⟩
   refine wo ?_
   refine AN ?_
   refine Aw 2 ?_
   refine Aw 3 ?_
   refine Aw 4 ?_
   refine Aw 5 ?_
   refine Aw 6 ?_
   refine Av 3 7 ?_
   refine BR fun b3=>?_
   refine AN ?_
   refine Av 2 8 ?_
   refine wo ?_
   refine AN ?_
   refine Av 1 9 ?_
   refine wo ?_
   refine AN ?_
   refine Av 0 10 ?_
   refine wo ?_
   refine AN ?_
   refine Ct (by decide+kernel) ?_
   exact⟨(),trivial,⟨rfl,rfl,rfl⟩,.cons _ (.refl _)⟩
  ·refine⟨_,rfl,?_⟩
   refine BR fun b3=>?_
   refine AN ?_
   refine Av 8 0 ?_
   refine wo ?_
   refine AN ?_
   refine Aw 2 ?_
   refine Aw 3 ?_
   refine Aw 4 ?_
   refine Aw 5 ?_
   refine Aw 6 ?_
   refine Av 2 8 ?_
   refine wo ?_
   refine AN ?_
   refine Av 1 9 ?_
   refine wo ?_
   refine AN ?_
   refine Av 0 10 ?_
   refine wo ?_
   refine AN ?_
   refine Ct (by decide+kernel) ?_
   exact⟨(),trivial,⟨rfl,rfl,rfl⟩,.cons _ (.refl _)⟩
 intro _ _
 refine wn ?_
 refine Cz (σ:=Nat) (fun _=>True) (fun b6=> [(1,.raw (.pointer (some ⟨b1,0,none⟩))),(2,.raw (.int .i64 0)),(4,.raw (.int .i64 0)),(5,.raw (.int .i64 0)),(6,.raw (.pointer (some ⟨b6,0,none⟩))),(7,.raw (.int .i64 0))]) (fun b6=> .box b6 45 (eDig ue):: .box b1 27 (Ay qE)::LF) ?_ ?_
 ·refine EB [0,7,8,9,10] (by decide+kernel) ?_
  refine Aw 1 ?_
  refine De (fuel:=9) [0,7] (by decide+kernel) (by simp) fun i hi=>?_
  simp only[AQ,BF,or_false]at hi
  rcases hi with rfl|rfl
  ·refine⟨_,rfl,?_⟩
   refine wo ?_
   refine AN ?_
   refine Aw 2 ?_
   refine Aw 3 ?_
   refine Aw 4 ?_
   refine Aw 5 ?_
   refine Aw 6 ?_
   refine Av 3 7 ?_
   refine BR fun b6=>?_
   refine AN ?_
   refine Av 2 8 ?_
   refine wo ?_
   refine AN ?_
   refine Av 1 9 ?_
   refine wo ?_
   refine AN ?_
   refine Av 0 10 ?_
   refine wo ?_
   refine AN ?_
   refine Ct (by decide+kernel) ?_
   exact⟨b6,trivial,⟨rfl,rfl,rfl,rfl,rfl,rfl⟩,.refl _⟩
  ·refine⟨_,rfl,?_⟩
   refine BR fun b6=>?_
   refine AN ?_
   refine Av 8 0 ?_
   refine wo ?_
   refine AN ?_
   refine Aw 2 ?_
   refine Aw 3 ?_
   refine Aw 4 ?_
   refine Aw 5 ?_
   refine Aw 6 ?_
   refine Av 2 8 ?_
   refine wo ?_
   refine AN ?_
   refine Av 1 9 ?_
   refine wo ?_
   refine AN ?_
   refine Av 0 10 ?_
   refine wo ?_
   refine AN ?_
   refine Ct (by decide+kernel) ?_
   exact⟨b6,trivial,⟨rfl,rfl,rfl,rfl,rfl,rfl⟩,.refl _⟩
 intro b6 _
 refine Ag 6 ?_
 refine wf ?_
 refine BR fun b13=>?_
 refine wf ?_
 refine Ah (.of_eq ?_)
 rfl⟩
theorem ZR {s:List Sto} (h:QF s=true):s.length≤8:=by
 unfold QF GD at h
 simp only[Bu,AG,Bc,A7]at h
 omega
end Go.Proofs
