/- Plain laws: ascending lists of digests; closures by rounds are what can be reached. No program in sight. -/
import Derived.Test.YtaibdmankdppkaaGreatDoorXae
import Derived.Test.YtaibdmankdppkaaGreatDoorXai
import Derived.Test.YtaibdmankdppkaaGreatDoorXag
import Derived.Test.YtaibdmankdppkaaGreatDoorXaf
import Derived.Test.YtaibdmankdppkaaGreatDoorXah
import Derived.Lib.Overlaps
import Derived.Laws.Externs
set_option linter.unusedSimpArgs false
set_option linter.unusedVariables false
set_option maxHeartbeats 8000000
namespace Go.Q
open Go
def Gm (l:List Dig):Prop:=l.Pairwise Dig.lt
theorem Gm.nil:Gm []:=List.Pairwise.nil
theorem Gm.nodup {l:List Dig} (h:Gm l):l.Nodup:=List.Pairwise.imp (fun h=>Dig.ne_of_lt h) h
theorem KM {x d:Dig}: ∀ {l:List Dig},x∈FU l d↔x=d∨x∈l
 | []=>by simp[FU]
 |y::l=>by
  unfold FU
  split
  ·simp only[AH,KM (l:=l)]
   constructor
   ·rintro(h|h|h)
    ·exact .inr (.inl h)
    ·exact .inl h
    ·exact .inr (.inr h)
   ·rintro(h|h|h)
    ·exact .inr (.inl h)
    ·exact .inl h
    ·exact .inr (.inr h)
  ·split
   ·rename_i h;subst h
    simp only[AH]
    constructor
    ·exact .inr
    ·rintro(h|h)
     ·exact .inl h
     ·exact h
   ·simp only[AH]
theorem LY {d:Dig}: ∀ {l:List Dig},Gm l→Gm (FU l d)
 | [],_=>by unfold FU;exact GA _ _
 |y::l,h=>by
  obtain⟨h1,h2⟩:=Bn.1 h
  unfold FU
  split
  ·rename_i hy
   refine Bn.2 ⟨fun z hz=>?_,LY h2⟩
   rcases KM.1 hz with rfl|hz
   ·exact hy
   ·exact h1 z hz
  ·rename_i hy
   split
   ·exact h
   ·rename_i hne
    have hlt:Dig.lt d y:=by
     rcases Dig.tri d y with h'|h'|h'
     ·exact h'
     ·exact absurd h'.symm hne
     ·exact absurd h' hy
    refine Bn.2 ⟨fun z hz=>?_,h⟩
    rcases AH.1 hz with rfl|hz
    ·exact hlt
    ·exact Dig.lt_trans hlt (h1 z hz)
theorem dX {l:List Dig} {d:Dig}:(FU l d).length≤l.length+1:=by
 induction l with
 |nil=>simp[FU]
 |cons y l ih=>
  unfold FU
  split
  ·simp only[AN];omega
  ·split<;>simp only[AN]<;>omega
theorem Gm.ext: ∀ {l m:List Dig},Gm l→Gm m→(∀ d,d∈l↔d∈m)→l=m
 | [],[],_,_,_=>rfl
 | [],y::m,_,_,h=>absurd ((h y).2 (by simp)) (by simp)
 |x::l,[],_,_,h=>absurd ((h x).1 (by simp)) (by simp)
 |x::l,y::m,hl,hm,h=>by
  obtain⟨l1,l2⟩:=Bn.1 hl
  obtain⟨m1,m2⟩:=Bn.1 hm
  have e:x=y:=by
   rcases AH.1 ((h x).1 (by simp))with h1|h1
   ·exact h1
   ·rcases AH.1 ((h y).2 (by simp))with h2|h2
    ·exact h2.symm
    ·exact absurd (l1 y h2) (Dig.lt_asymm (m1 x h1))
  subst e
  congr 1
  refine Gm.ext l2 m2 fun d=>?_
  have hd:=h d
  simp only[AH]at hd
  constructor
  ·intro h1
   rcases hd.1 (.inr h1)with h2|h2
   ·subst h2;exact absurd (l1 _ h1) (Dig.lt_irrefl _)
   ·exact h2
  ·intro h1
   rcases hd.2 (.inr h1)with h2|h2
   ·subst h2;exact absurd (m1 _ h1) (Dig.lt_irrefl _)
   ·exact h2
def Dh (l m:List Dig):List Dig:=m.foldl FU l
theorem HB {x:Dig}: ∀ {m l:List Dig},x∈Dh l m↔x∈l∨x∈m
 | [],l=>by simp[Dh]
 |d::m,l=>by
  show x∈Dh (FU l d) m↔_
  rw[HB,KM,AH]
  constructor
  ·rintro((h|h)|h)
   ·exact .inr (.inl h)
   ·exact .inl h
   ·exact .inr (.inr h)
  ·rintro(h|h|h)
   ·exact .inl (.inr h)
   ·exact .inl (.inl h)
   ·exact .inr h
theorem Fx: ∀ {m l:List Dig},Gm l→Gm (Dh l m)
 | [],_,h=>h
 |d::m,l,h=>by show Gm (Dh (FU l d) m);exact Fx (LY h)
theorem Nb: ∀ {m l:List Dig},(Dh l m).length≤l.length+m.length
 | [],_=>by simp[Dh]
 |d::m,l=>by
  show(Dh (FU l d) m).length≤_
  have h1:=Nb (m:=m) (l:=FU l d)
  have h2:=dX (l:=l) (d:=d)
  simp only[AN];omega
theorem FR {α:Type} [DecidableEq α] {l:List α} (hl:l.Nodup) {m:List α} (h: ∀ d∈l,d∈m):l.length≤m.length:=by
 induction l generalizing m with
 |nil=>simp
 |cons x l ih=>
  obtain⟨h1,h2⟩:=Bl.1 hl
  have hx:x∈m:=h x (by simp)
  have:=ih h2 (m:=m.erase x) fun d hd=>by
   have hne:d≠x:=fun e=>h1 (e ▸ hd)
   exact(List.mem_erase_of_ne hne).2 (h d (by simp[hd]))
  rw[List.length_erase_of_mem hx]at this
  have hp:0 < m.length:=List.length_pos_of_mem hx
  simp only[AN];omega
def PG (nd:Dig→List Dig) (out:List Dig):List Dig:=out.foldl (fun m x=>Dh m (nd x)) out
def MC (nd:Dig→List Dig):Nat→List Dig→List Dig
 |0,out=>out
 |n+1,out=>MC nd n (PG nd out)
inductive Reach (nd:Dig→List Dig) (ids:List Dig):Dig→Prop
 |base {d:Dig} (h:d∈ids):Reach nd ids d
 |step {x d:Dig} (h:Reach nd ids x) (hd:d∈nd x):Reach nd ids d
section
variable {nd:Dig→List Dig}
theorem VC {y:Dig}: ∀ {l m:List Dig},y∈l.foldl (fun m x=>Dh m (nd x)) m↔y∈m∨ ∃ x∈l,y∈nd x
 | [],m=>by simp
 |x::l,m=>by
  rw[C0,VC,HB]
  simp only[AH,exists_eq_or_imp]
  rw[or_assoc]
theorem VP: ∀ {l m:List Dig},Gm m→Gm (l.foldl (fun m x=>Dh m (nd x)) m)
 | [],_,h=>h
 |x::l,m,h=>by rw[C0];exact VP (Fx h)
theorem JI {y:Dig} {out:List Dig}:y∈PG nd out↔y∈out∨ ∃ x∈out,y∈nd x:=VC
theorem PF {out:List Dig} (h:Gm out):Gm (PG nd out):=VP h
theorem Oc: ∀ {n:Nat} {out:List Dig},Gm out→Gm (MC nd n out)
 |0,_,h=>h
 |n+1,_,h=>Oc (n:=n) (PF h)
theorem Rv {ids:List Dig}: ∀ {n:Nat} {out:List Dig},(∀ d∈out,Reach nd ids d)→ ∀ d∈MC nd n out,Reach nd ids d
 |0,_,h=>h
 |n+1,out,h=>Rv (n:=n) fun d hd=>by
  rcases JI.1 hd with h1|⟨x,hx,h1⟩
  ·exact h d h1
  ·exact .step (h x hx) h1
theorem Yn {U:List Dig} (hU: ∀ x∈U,∀ d∈nd x,d∈U): ∀ {n:Nat} {out:List Dig},(∀ d∈out,d∈U)→ ∀ d∈MC nd n out,d∈U
 |0,_,h=>h
 |n+1,out,h=>Yn hU (n:=n) fun d hd=>by
  rcases JI.1 hd with h1|⟨x,hx,h1⟩
  ·exact h d h1
  ·exact hU x (h x hx) d h1
theorem VJ: ∀ {n:Nat} {out:List Dig} {d:Dig},d∈out→d∈MC nd n out
 |0,_,_,h=>h
 |n+1,_,_,h=>VJ (n:=n) (JI.2 (.inl h))
theorem QU {U:List Dig} (hU: ∀ x∈U,∀ d∈nd x,d∈U): ∀ {n:Nat} {out:List Dig},Gm out→(∀ d∈out,d∈U)→U.length+1≤out.length+n∨out= []∨(∀ x∈out,∀ d∈nd x,d∈out)→ ∀ x∈MC nd n out,∀ d∈nd x,d∈MC nd n out
 |0,out,ha,hu,h=>by
  rcases h with h|h|h
  ·have:=FR ha.nodup hu
   omega
  ·subst h;intro x hx;cases hx
  ·exact h
 |n+1,out,ha,hu,h=>by
  have hu': ∀ d∈PG nd out,d∈U:=Yn hU (n:=1) hu
  refine QU hU (n:=n) (PF ha) hu' ?_
  by_cases hc: ∀ x∈out,∀ d∈nd x,d∈out
  ·refine .inr (.inr ?_)
   have e:PG nd out=out:=Gm.ext (PF ha) ha fun d=>by
    rw[JI]
    constructor
    ·rintro(h1|⟨x,hx,h1⟩)
     ·exact h1
     ·exact hc x hx d h1
    ·exact .inl
   rw[e];exact hc
  ·rcases h with h|h|h
   ·refine .inl ?_
    have:out.length+1≤(PG nd out).length:=by
     have⟨x,hx⟩:=Classical.not_forall.1 hc
     have⟨hx1,hx2⟩:=Classical.not_imp.1 hx
     have⟨d,hd⟩:=Classical.not_forall.1 hx2
     have⟨hd1,hd2⟩:=Classical.not_imp.1 hd
     have hn:(d::out).Nodup:=Bl.2 ⟨hd2,ha.nodup⟩
     have:=FR hn (m:=PG nd out) fun y hy=>by
      rcases AH.1 hy with rfl|hy
      ·exact JI.2 (.inr ⟨x,hx1,hd1⟩)
      ·exact JI.2 (.inl hy)
     simpa using this
    omega
   ·subst h
    exact absurd (fun x hx=>by cases hx) hc
   ·exact absurd h hc
theorem Ly {U ids:List Dig} (hU: ∀ x∈U,∀ d∈nd x,d∈U) (hi: ∀ d∈ids,d∈U) {n:Nat} (hn:U.length≤n) {d:Dig}:d∈MC nd n (Dh [] ids)↔Reach nd ids d:=by
 have hin: ∀ d∈Dh [] ids,d∈U:=fun d hd=>by
  rcases HB.1 hd with h|h
  ·cases h
  ·exact hi d h
 refine⟨fun h=>Rv (fun d hd=>?_) d h,fun h=>?_⟩
 ·rcases HB.1 hd with h|h
  ·cases h
  ·exact .base h
 ·have ha:Gm (Dh [] ids):=Fx .nil
  have hcl:=QU (nd:=nd) hU (n:=n) ha hin (by
   cases hw:Dh [] ids with
   |nil=>exact .inr (.inl rfl)
   |cons x l=>exact .inl (by simp;omega))
  induction h with
  |base h=>exact VJ (HB.2 (.inr h))
  |step h hd ih=>exact hcl _ ih _ hd
theorem Reach.in_ {U ids:List Dig} (hU: ∀ x∈U,∀ d∈nd x,d∈U) (hi: ∀ d∈ids,d∈U) {d:Dig} (h:Reach nd ids d):d∈U:=by
 induction h with
 |base h=>exact hi _ h
 |step h hd ih=>exact hU _ ih _ hd
end
section
variable (clo:Dig→List Dig)
end
end Go.Q
namespace Go.Proofs
open Go Go.Q
attribute [local irreducible] ER AQ BG Fu
def IL (c:Chg):List Ident:= [c.file,c.parent,c.after,c.before]++c.over
def FY (l:List Ident):List Dig:=(l.filter fun x=>!decide (x.patch=Dig.zero)).map (·.patch)
def OV (m:List Dig) (c:Chg):List Dig:=Dh m (FY (IL c))
def Ax (p:Pat):List Dig:=if(CD p).2≠0 then []else p.changes.foldl OV (Dh [] p.deps)
theorem Pr (l m:List Dig) (d:Dig):Dh l (m++ [d])=FU (Dh l m) d:=by
 unfold Dh;rw[CH];rfl
theorem WA (l:List Ident):(FY l).length≤l.length:=by
 unfold FY;rw[AR];exact DP _ _
theorem UC {l:List Ident} {k:Nat} (h:k < l.length):FY (l.take (k+1))=FY (l.take k)++(if l[k].patch=Dig.zero then []else [l[k].patch]):=by
 unfold FY
 rw[A7 h,Fc,An]
 by_cases hz:l[k].patch=Dig.zero<;>simp[hz]
instance wx (p:Pat) [hs:B4 (E5 p=false)]:C9 Tryz.prog 69 [.agg (Ba p)] (.slice ((Ax p).map eDig) .ro):=⟨by
 obtain⟨_,_,hd,hch,hcs⟩:=Eh hs.out
 refine Au Tryz.func69 Tryz.ntmps69 rfl (rs:= [.tmp 2]) rfl rfl fun hb LF=>?_
 refine DC fun b=>?_
 refine AX (fun h=>?_) (fun h=>?_)
 ·refine AY ?_
  refine Az ?_
  rw[Ax,if_pos h]
  exact .ro _ _
 rw[Ax,if_neg (by simp[h])]
 refine AY ?_
 refine Ab (σ:=Nat × List Dig × CN) (fun k=>k.1≤p.deps.length∧k.2.1=Dh [] (p.deps.take k.1)) (fun k=>p.deps.length - k.1) (fun k=> [(1,.raw (.pointer (some ⟨b,0,none⟩))),(3,.slice (k.2.1.map eDig) k.2.2),(4,.raw (.int .i64 k.1))]) (fun _=> .box b 40 (Ba p)::LF) (0,[],.nil) ⟨by simp,by simp[Dh]⟩ ⟨rfl,rfl,rfl⟩ (.refl _) ?_
 rintro⟨k,out,t⟩ ⟨hk,ho⟩
 dsimp only at hk ho ⊢
 have hol:out.length≤200:=by
  rw[ho]
  have:=Nb (m:=p.deps.take k) (l:= [])
  simp only[AZ,Af]at this;omega
 refine AY ?_
 refine A6 (fun hc=>?_) (fun hc=>?_)
 ·have hlt:k < p.deps.length:=by omega
  have:B4 (out.length≤1000000):=⟨by omega⟩
  refine AY ?_
  refine⟨(k+1,FU out p.deps[k],.ro),⟨by dsimp only;omega,by dsimp only;rw[A7 hlt,Pr,ho]⟩,by dsimp only;omega,⟨rfl,rfl,rfl⟩,.refl _⟩
 rw[AE (by omega)]at ho
 refine AY ?_
 refine Ab (σ:=Nat × List Dig × CN) (fun k=>k.1≤p.changes.length∧k.2.1.length≤200+k.1*44∧k.2.1=(p.changes.take k.1).foldl OV (Dh [] p.deps)) (fun k=>p.changes.length - k.1) (fun k=> [(1,.raw (.pointer (some ⟨b,0,none⟩))),(3,.slice (k.2.1.map eDig) k.2.2),(5,.raw (.int .i64 k.1))]) (fun _=> .box b 40 (Ba p)::LF) (0,out,t) ⟨by simp,by simp;omega,by simp[ho]⟩ ⟨rfl,rfl,rfl⟩ (.refl _) ?_
 clear ho hol hk hc k out t
 rintro⟨k,out,t⟩ ⟨hk,hol,ho⟩
 dsimp only at hk hol ho ⊢
 refine AY ?_
 refine A6 (fun hc=>?_) (fun hc=>?_)
 ·have hlt:k < p.changes.length:=by omega
  have hov:=(hcs _ (AJ hlt)).over
  refine lg fun b2 t2=>?_
  refine IJ fun t3=>?_
  generalize hl: [p.changes[k].file,p.changes[k].parent,p.changes[k].after,p.changes[k].before]++p.changes[k].over=l
  have hll:l.length≤44:=by rw[←hl];simp only[AA,AN,Af];omega
  refine Ab (σ:=Nat × List Dig × CN) (fun j=>j.1≤l.length∧j.2.1=Dh out (FY (l.take j.1))) (fun j=>l.length - j.1) (fun j=> [(1,.raw (.pointer (some ⟨b,0,none⟩))),(3,.slice (j.2.1.map eDig) j.2.2),(5,.raw (.int .i64 k)),(7,.slice (l.map eIdent) t3),(8,.raw (.int .i64 j.1))]) (fun _=> .box b 40 (Ba p)::LF) (0,out,t) ⟨by simp,by simp[FY,Dh]⟩ ⟨rfl,rfl,rfl,rfl,rfl⟩ (.cons _ (.cons _ (.refl _))) ?_
  rintro⟨j,m,u⟩ ⟨hj,hm⟩
  dsimp only at hj hm ⊢
  have hml:m.length≤200+k*44+44:=by
   rw[hm]
   have h1:=Nb (m:=FY (l.take j)) (l:=out)
   have h2:=WA (l.take j)
   have h3:(l.take j).length≤44:=by rw[AZ];omega
   omega
  refine AY ?_
  refine A6 (fun hc2=>?_) (fun hc2=>?_)
  ·have hlt2:j < l.length:=by omega
   have e:=UC hlt2
   refine AY ?_
   refine AX (fun hz=>?_) (fun hz=>?_)
   ·have:B4 (m.length≤1000000):=⟨by omega⟩
    refine AY ?_
    rw[if_neg hz]at e
    refine⟨(j+1,FU m l[j].patch,.ro),⟨by dsimp only;omega,by dsimp only;rw[e,Pr,hm]⟩,by dsimp only;omega,⟨rfl,rfl,rfl,rfl,rfl⟩,.refl _⟩
   ·refine AY ?_
    rw[if_pos hz,BU]at e
    refine⟨(j+1,m,u),⟨by dsimp only;omega,by dsimp only;rw[e,hm]⟩,by dsimp only;omega,⟨rfl,rfl,rfl,rfl,rfl⟩,.refl _⟩
  ·refine AY ?_
   rw[AE (by omega)]at hm
   have e:(p.changes.take (k+1)).foldl OV (Dh [] p.deps)=m:=by
    rw[A7 hlt,CH,←ho,hm,←hl];rfl
   refine⟨(k+1,m,u),⟨by dsimp only;omega,by dsimp only;omega,e.symm⟩,by dsimp only;omega,⟨rfl,rfl,rfl⟩,.refl _⟩
 ·refine AY ?_
  refine Az ?_
  rw[AE (by omega)]at ho
  rw[←ho]
  exact .ro _ _⟩
def u5 (x:Sto):Nat:=(x.patch.changes.map Il).sum
def Ez (s:List Sto):Bool:=(s.take 9).any (fun x=>Fl x.patch)||decide (8 < (s.length:Int))||decide (300 < (((s.take 9).map u5).sum:Int))
theorem me {c:Chg} (h:Vb c):Il c≤81:=by have:=h.lines;have:=h.over;unfold Il;omega
instance wy (s:List Sto) (t:CN):C9 Tryz.prog 85 [.slice (s.map eSto) t,.raw (.int .i64 8)] (.raw (.bool (Ez s))):=⟨by
 refine Au Tryz.func85 Tryz.ntmps85 rfl (rs:= [.tmp 4]) rfl rfl fun hb LF=>?_
 have hlen:s.length≤140737488355328:=(hb (.slice (s.map eSto) t) (by simp)).slice_map
 refine AY ?_
 refine Ab (σ:=Nat × Nat) (fun k=>k.1≤s.length∧k.1≤9∧(∀ i (h:i < s.length),i < k.1→Fl s[i].patch=false)∧k.2≤k.1*1620∧k.2=((s.take k.1).map u5).sum) (fun k=>s.length - k.1) (fun k=> [(0,.slice (s.map eSto) t),(1,.raw (.int .i64 8)),(5,.raw (.int .i64 (k.2:Int))),(6,.raw (.int .i64 (k.1:Int)))]) (fun _=>LF) (0,0) ⟨by simp,by simp,by simp,by simp,by simp⟩ ⟨rfl,rfl,rfl,rfl⟩ (.refl _) ?_
 rintro⟨i,n⟩ ⟨hi,hi9,hg,hn,hs⟩
 dsimp only at hi hi9 hg hn hs ⊢
 have fin:(i:Int) < s.length∧(i:Int)≤8∨ ¬((i:Int) < s.length∧(i:Int)≤8):=Classical.em _
 refine AY ?_
 refine BR [(16,.raw (.bool (decide ((i:Int) < s.length∧(i:Int)≤8)))),(0,.slice (s.map eSto) t),(1,.raw (.int .i64 8)),(5,.raw (.int .i64 (n:Int))),(6,.raw (.int .i64 (i:Int)))] (LF) ?_ ?_
 ·repeat' (first|(refine A6 (fun h=>?_) (fun h=>?_)<;>refine AY ?_)|(refine AX (fun h=>?_) (fun h=>?_)<;>refine AY ?_)|(refine AU (fun h=>?_) (fun h=>?_)<;>refine AY ?_)|(refine Ar (fun h=>?_) (fun h=>?_)<;>(have h2:=h;(try simp only[AB,A8,AG,AL]at h2);refine C8 ?_)))
  all_goals (refine⟨⟨C4 (by rfl) ?_,rfl,rfl,rfl,rfl⟩,.refl _⟩;first|(simp_all;done)|(simp_all;omega)|grind)
 refine AY ?_
 clear fin
 refine A6 (fun hc=>?_) (fun hc=>?_)
 ·have hlt:i < s.length:=by omega
  refine AY ?_
  refine AU (fun h=>?_) (fun h=>?_)
  ·refine AY ?_
   refine Az (.of_eq ?_)
   have:(s.take 9).any (fun x=>Fl x.patch)=true:=by
    rw[CB]
    exact⟨s[i],Ad.2 ⟨i,by rw[AZ];omega,by simp⟩,h⟩
   rw[Ez,this];rfl
  obtain⟨_,_,_,hch,hcs⟩:=L5 h
  refine AY ?_
  refine Ab (σ:=Nat × Nat) (fun j=>j.1≤s[i].patch.changes.length∧j.2≤n+j.1*81∧j.2=n+((s[i].patch.changes.take j.1).map Il).sum) (fun j=>s[i].patch.changes.length - j.1) (fun j=> [(0,.slice (s.map eSto) t),(1,.raw (.int .i64 8)),(5,.raw (.int .i64 (j.2:Int))),(6,.raw (.int .i64 (i:Int))),(7,.raw (.int .i64 (j.1:Int)))]) (fun _=>LF) (0,n) ⟨by simp,by simp,by simp⟩ ⟨rfl,rfl,rfl,rfl,rfl⟩ (.refl _) ?_
  rintro⟨j,m⟩ ⟨hj,hm,hms⟩
  dsimp only at hj hm hms ⊢
  refine AY ?_
  refine A6 (fun hc2=>?_) (fun hc2=>?_)
  ·have hlt2:j < s[i].patch.changes.length:=by omega
   have hco:=hcs _ (AJ hlt2)
   have h81:=me hco
   have hl40:=hco.lines
   have ho40:=hco.over
   have e:=K4 (f:=Il) hlt2
   have e2:Il s[i].patch.changes[j]=1+s[i].patch.changes[j].lines.length+s[i].patch.changes[j].over.length:=rfl
   refine AY ?_
   refine⟨(j+1,m+Il s[i].patch.changes[j]),⟨by dsimp only;omega,by dsimp only;omega,by dsimp only;omega⟩,by dsimp only;omega,⟨rfl,rfl,?_,rfl,rfl⟩,.refl _⟩
   show PV.raw (Value.int .i64 _)=PV.raw (Value.int .i64 _)
   congr 2;dsimp only;omega
  ·refine AY ?_
   rw[AE (by omega)]at hms
   have e:=K4 (f:=u5) hlt
   refine⟨(i+1,m),⟨by dsimp only;omega,by dsimp only;omega,fun x hx hxi=>?_,by dsimp only;omega,?_⟩,by dsimp only;omega,⟨rfl,rfl,rfl,rfl⟩,.refl _⟩
   ·rcases BP x i with h'|h'
    ·exact hg x hx h'
    ·have:x=i:=by dsimp only at hxi;omega
     subst this;exact h
   ·dsimp only;rw[e,←hs];exact hms
 ·refine AY ?_
  have hany:(s.take 9).any (fun x=>Fl x.patch)=false:=by
   rw[Bf];intro x hx
   obtain⟨j,hj,rfl⟩:=Ad.1 hx
   rw[AZ]at hj
   simp only[FG]
   rw[hg j (by omega) (by omega)];simp
  have htk:s.take i=s.take 9:=by
   by_cases h9:i=9
   ·rw[h9]
   ·rw[AE (by omega),AE (by omega)]
  rw[htk]at hs
  have key:Ez s=(decide (8 < (s.length:Int))||decide (300 < (n:Int))):=by rw[Ez,hany,Fi,←hs]
  rw[key]
  clear key hany hs htk hg
  repeat' (first|(refine A6 (fun h=>?_) (fun h=>?_)<;>refine AY ?_)|(refine AX (fun h=>?_) (fun h=>?_)<;>refine AY ?_)|(refine AU (fun h=>?_) (fun h=>?_)<;>refine AY ?_)|(refine Ar (fun h=>?_) (fun h=>?_)<;>(have h2:=h;(try simp only[AB,A8,AG,AL]at h2);refine C8 ?_)))
  all_goals (refine Az (.of_eq ?_);first|(simp_all;done)|grind)⟩
instance uc (s:List Sto) (t:CN):C9 Tryz.prog 33 [.slice (s.map eSto) t] (.raw (.bool (Ez s))):=⟨by
 refine Au Tryz.func33 Tryz.ntmps33 rfl (rs:= [.tmp 2]) rfl rfl fun hb LF=>?_
 refine AY ?_
 exact Az (.refl _)⟩
def HY (s:List Sto):Prop:=s.length≤200∧ ∀ x∈s,E5 x.patch=false
def Gb (s:List Sto) (out:List Dig) (k:Int) (i:Nat):Int:=
 if(¬(s.getD i Sto.zero).id∈out∧DM out (Ax (s.getD i Sto.zero).patch)=true)∧(k < 0∨Ea (s.getD i Sto.zero).id (s.getD k.toNat Sto.zero).id < 0)then(i:Int)else k
def Ll (s:List Sto) (out:List Dig):Int:=(List.range s.length).foldl (Gb s out) (-1)
def QF (s:List Sto):Nat→List Dig→List Dig
 |0,out=>out
 |n+1,out=>if Ll s out < 0 then out else QF s n (out++ [(s.getD (Ll s out).toNat Sto.zero).id])
def Cg (s:List Sto):List Dig:=QF s s.length []
theorem LK {s:List Sto} {out:List Dig} (n:Nat): -1≤(List.range n).foldl (Gb s out) (-1)∧(List.range n).foldl (Gb s out) (-1) < n:=by
 induction n with
 |zero=>simp
 |succ n ih=>
  rw[Bq]
  generalize (List.range n).foldl (Gb s out) (-1)=k at ih
  unfold Gb
  split<;>omega
instance wv (s:List Sto) (t:CN) [hs:B4 (HY s)]:C9 Tryz.prog 90 [.slice (s.map eSto) t] (.slice ((Cg s).map eDig) .ro):=⟨by
 obtain⟨hl8,hgr⟩:=hs.out
 refine Au Tryz.func90 Tryz.ntmps90 rfl (rs:= [.tmp 2]) rfl rfl fun hb LF=>?_
 refine AY ?_
 refine EL 32 ?_
 refine Ab (σ:=Nat × List Dig × CN) (fun k=>k.1≤s.length∧k.2.1.length+k.1=s.length∧Cg s=QF s k.1 k.2.1) (fun k=>k.1) (fun k=> [(0,.slice (s.map eSto) t),(3,.slice (k.2.1.map eDig) k.2.2)]) (fun k=> .tok k.2.2 k.2.1.length 32::LF) (s.length,[],.nil) ⟨by simp,by simp,rfl⟩ ⟨rfl,rfl⟩ (.refl _) ?_
 rintro⟨n,out,u⟩ ⟨hn,hol,ho⟩
 dsimp only at hn hol ho ⊢
 refine AY ?_
 refine A6 (fun hc=>?_) (fun hc=>?_)
 ·obtain⟨m,rfl⟩: ∃ m,n=m+1:=⟨n - 1,by omega⟩
  rw[QF]at ho
  have hpr:=LK (s:=s) (out:=out) s.length
  refine AY ?_
  refine Ab (σ:=Nat) (fun i=>i≤s.length) (fun i=>s.length - i) (fun i=> [(0,.slice (s.map eSto) t),(3,.slice (out.map eDig) u),(4,.raw (.int .i64 ((List.range i).foldl (Gb s out) (-1)))),(5,.raw (.int .i64 (i:Int)))]) (fun _=> .tok u out.length 32::LF) 0 (by simp) ⟨rfl,rfl,rfl,rfl⟩ (.refl _) ?_
  intro i hi
  have hkr:=LK (s:=s) (out:=out) i
  have hsucc:=Bq (Gb s out) (-1) i
  generalize hkk:(List.range i).foldl (Gb s out) (-1)=k at hkr hsucc ⊢
  refine AY ?_
  refine A6 (fun hc2=>?_) (fun hc2=>?_)
  ·have hlt:i < s.length:=by omega
   have i1:B4 (E5 s[i].patch=false):=⟨hgr _ (AJ hlt)⟩
   have e0:s.getD i Sto.zero=s[i]:=by simp[List.getD,hlt]
   rw[Gb,e0]at hsucc
   refine AY ?_
   refine BR [(53,.raw (.bool (decide ((¬s[i].id∈out∧DM out (Ax s[i].patch)=true)∧(k < 0∨Ea s[i].id (s.getD k.toNat Sto.zero).id < 0))))),(0,.slice (s.map eSto) t),(3,.slice (out.map eDig) u),(4,.raw (.int .i64 k)),(5,.raw (.int .i64 (i:Int)))] (.tok u out.length 32::LF) ?_ ?_
   ·repeat' (first|(refine A6 (fun h=>?_) (fun h=>?_)<;>refine AY ?_)|(refine AX (fun h=>?_) (fun h=>?_)<;>refine AY ?_)|(refine AU (fun h=>?_) (fun h=>?_)<;>refine AY ?_)|(refine Ar (fun h=>?_) (fun h=>?_)<;>(have h2:=h;(try simp only[AB,A8,AG,AL]at h2);refine C8 ?_)))
    all_goals (refine⟨⟨C4 (by rfl) ?_,rfl,rfl,rfl,rfl⟩,.refl _⟩;first|(simp_all;done)|(have hkl:k.toNat < s.length:=(by omega);simp_all[List.getD];done)|grind)
   refine AY ?_
   refine A6 (fun h=>?_) (fun h=>?_)
   ·refine AY ?_
    rw[if_pos h]at hsucc
    refine⟨i+1,by omega,by dsimp only;omega,⟨rfl,rfl,?_,rfl⟩,.refl _⟩
    rw[hsucc];rfl
   ·refine AY ?_
    rw[if_neg h]at hsucc
    refine⟨i+1,by omega,by dsimp only;omega,⟨rfl,rfl,?_,rfl⟩,.refl _⟩
    rw[hsucc];rfl
  ·have hii:i=s.length:=by omega
   subst hii
   have hpk:Ll s out=k:=hkk
   rw[hpk]at ho
   refine AY ?_
   refine A6 (fun h=>?_) (fun h=>?_)
   ·refine AY ?_
    rw[if_pos h]at ho
    refine Az ?_
    rw[ho];exact .ro _ _
   ·rw[if_neg h]at ho
    have hkl:k.toNat < s.length:=by omega
    have e0:s.getD k.toNat Sto.zero=s[k.toNat]:=by simp[List.getD,hkl]
    rw[e0]at ho
    refine Hn fun u'=>?_
    refine⟨(m,out++ [s[k.toNat].id],u'),⟨by dsimp only;omega,by dsimp only;rw[AA,BA];omega,ho⟩,by dsimp only;omega,⟨rfl,rfl⟩,.refl _⟩
 ·refine AY ?_
  have hn0:n=0:=by omega
  subst hn0
  refine Az ?_
  rw[ho];exact .ro _ _⟩
theorem al:E5 Pat.zero=false:=by simp[E5,Pat.zero,Qz]
theorem TQ:Ax Pat.zero= []:=by
 have h:(CD Pat.zero).2≠0:=by simp[CD,Bo,Jc,Pat.zero]
 rw[Ax,if_pos h]
theorem Ke {s:List Sto} {d:Dig} {p:Pat} (h:getS s d=some p): ∃ x∈s,x.id=d∧x.patch=p:=by
 induction s with
 |nil=>cases h
 |cons y s ih=>
  unfold getS at h
  split at h
  ·rename_i he
   exact⟨y,by simp,he,by simpa using h⟩
  ·obtain⟨x,hx,h1⟩:=ih h
   exact⟨x,by simp[hx],h1⟩
def ndS (s:List Sto) (d:Dig):List Dig:=Ax ((getS s d).getD Pat.zero)
def Tx (s:List Sto):Prop:=HY s∧ ∀ x∈s,∀ d∈Ax x.patch,d∈ids s
theorem Tx.nd {s:List Sto} (h:Tx s) (x:Dig): ∀ d∈ndS s x,d∈ids s:=by
 unfold ndS
 cases hg:getS s x with
 |none=>rw[NG,TQ];intro d hd;cases hd
 |some p=>
  obtain⟨y,hy,_,rfl⟩:=Ke hg
  exact h.2 y hy
theorem HO (s:List Sto):(ids s).length=s.length:=by simp[ids]
theorem Tx.small {s:List Sto} (h:Tx s) {l:List Dig} (ha:Gm l) (hl: ∀ d∈l,d∈ids s):l.length≤200:=by
 have h1:=FR ha.nodup hl
 have h2:=h.1.1
 rw[HO]at h1;omega
def Di (s:List Sto) (l:List Dig):List Dig × Int:=if DM (ids s) l=false then([],7)else(MC (ndS s) s.length (Dh [] l),0)
def Ot (s:List Sto) (p:Dig):List Dig:=(Di s [p]).1
def Jq:List Ident→Ident→List Ident
 | [],d=> [d]
 |x::xs,d=>if Hc x d < 0 then x::Jq xs d else if x=d then x::xs else d::x::xs
theorem SN: ∀ {l:List Ident} {d:Ident} {k:Nat},k≤l.length→(∀ i (h:i < l.length),i < k→Hc l[i] d < 0)→(∀ h:k < l.length,¬Hc l[k] d < 0)→
  Jq l d=if ∃ h:k < l.length,l[k]=d then l else l.take k++d::l.drop k
 | [],d,k,hk,_,_=>by simp[Jq]
 |x::xs,d,0,_,_,hk=>by
  have:=hk (by simp)
  simp only[BM]at this
  simp[Jq,this]
 |x::xs,d,k+1,hl,h1,h2=>by
  have h0:=h1 0 (by simp) (by omega)
  simp only[BM]at h0
  have ih:=SN (l:=xs) (d:=d) (k:=k) (by simpa using hl) (fun i h hi=>by have:=h1 (i+1) (by simpa using h) (by omega);simpa using this) (fun h=>by have:=h2 (by simpa using h);simpa using this)
  simp only[Jq,h0,if_true,ih]
  simp only[AN,xC,DA,Oi,Za]
  split<;>rfl
theorem js (l:List Ident) (d:Ident):(Jq l d).length≤l.length+1:=by
 induction l with
 |nil=>simp[Jq]
 |cons y l ih=>
  unfold Jq
  split
  ·simp only[AN];omega
  ·split<;>simp only[AN]<;>omega
instance uZ (l:List Ident) (d:Ident) (t:CN) [hs:B4 (l.length≤1000000)]:C9 Tryz.prog 135 [.slice (l.map eIdent) t,.agg (eIdent d)] (.slice ((Jq l d).map eIdent) .ro):=⟨by
 refine Au Tryz.func135 Tryz.ntmps135 rfl (rs:= [.tmp 4]) rfl rfl fun hb LF=>?_
 have hlen:l.length≤1000000:=hs.out
 refine DC fun b=>?_
 refine Ab (σ:=Nat) (fun k=>k≤l.length∧ ∀ i (h:i < l.length),i < k→Hc l[i] d < 0) (fun k=>l.length - k) (fun k=> [(0,.slice (l.map eIdent) t),(3,.raw (.pointer (some ⟨b,0,none⟩))),(5,.raw (.int .i64 k))]) (fun _=> .box b 65 (eIdent d)::LF) 0 ⟨by simp,by simp⟩ ⟨rfl,rfl,rfl⟩ (.refl _) ?_
 rintro k ⟨hk,hne⟩
 refine AY ?_
 refine Ar (fun hp=>?_) (fun hp=>?_)
 ·have hc:(k:Int) < l.length:=BF hp
  refine C8 ?_
  refine A6 (fun h1=>?_) (fun h1=>?_)
  ·refine AY ?_
   refine⟨k+1,⟨by omega,fun i h hi=>?_⟩,by dsimp only;omega,⟨rfl,rfl,rfl⟩,.refl _⟩
   rcases BP i k with h'|h'
   ·exact hne i h h'
   ·have:i=k:=by omega
    subst this;exact h1
  ·refine AY ?_
   refine A6 (fun h2=>?_) (fun h2=>?_)
   ·refine AY ?_
    refine Az (.ros ?_)
    rw[SN hk hne (fun _=>h1),if_pos ⟨by omega,h2⟩]
   ·refine Hn fun t1=>?_
    refine IJ fun t2=>?_
    refine IJ fun t3=>?_
    refine Az (.ros ?_)
    rw[SN hk hne (fun _=>h1),if_neg (fun⟨_,e⟩=>h2 e)]
    simp
 ·have hc: ¬(k:Int) < l.length:=Bm hp
  refine C8 ?_
  refine IJ fun t1=>?_
  refine IJ fun t2=>?_
  refine IJ fun t3=>?_
  refine Az (.ros ?_)
  rw[SN hk hne (fun h=>absurd (show(k:Int) < l.length by omega) hc),if_neg (fun⟨h,_⟩=>hc (by omega))]
  simp⟩
def iz (d:Dig) (l:List Ident):List Ident:=l.foldl (fun m y=>Jq m (Dw y d)) []
def LH (d:Dig) (a:Atm):Atm:={ a with id:={ a.id with patch:=d } }
def Nq (d:Dig) (a:Atm):Atm:=if a.kind≠7 then { a with file:=Dw a.file d }else a
def Np (d:Dig) (a:Atm):Atm:=if a.kind=2 then { a with parent:=Dw a.parent d }else a
def Mi (d:Dig) (a:Atm):Atm:=if a.kind=6 then { a with src:=Dw a.src d,dst:=Dw a.dst d }else a
def aI (d:Dig) (a:Atm):Atm:={ a with over:=iz d a.over }
def QH (d:Dig) (a:Atm):Atm:=aI d (Mi d (Np d (Nq d (LH d a))))
theorem YA (d:Dig) (a:Atm):(Mi d (Np d (Nq d (LH d a)))).over=a.over:=by
 unfold Mi Np Nq LH
 repeat' split
 all_goals rfl
theorem aF (d:Dig) (l:List Ident) (k:Nat):((l.take k).foldl (fun m y=>Jq m (Dw y d)) []).length≤k:=by
 induction k with
 |zero=>simp
 |succ k ih=>
  by_cases h:k < l.length
  ·rw[A7 h,CH]
   have:=js ((l.take k).foldl (fun m y=>Jq m (Dw y d)) []) (Dw l[k] d)
   simp only[C0,Pn];omega
  ·rw[AE (by omega)]at ih ⊢;omega
def Iq (p:Pat):List Atm × Int:=if(EW p).2≠0 then([],(EW p).2)else((Bo p).1.map (QH (EW p).1),0)
theorem aG {c:Chg} {first:Int} (h:c.over.length≤40): ∀ a∈DZ c first,a.over.length≤40:=by
 intro a ha
 unfold DZ at ha
 repeat' split at ha
 all_goals simp only[Ag,Ai,AO]at ha
 all_goals first
  |(subst ha;first|exact h|(show([]:List Ident).length≤40;decide))
  |(rcases ha with ⟨_,_,rfl⟩|⟨_,_,rfl⟩<;>(show([]:List Ident).length≤40;decide))
theorem Ns: ∀ (l:List Chg) (own:List Atm),(∀ c∈l,Vb c)→(∀ a∈own,a.over.length≤40)→(Cv l own).1.length≤own.length+l.length*81∧ ∀ a∈(Cv l own).1,a.over.length≤40
 | [],own,_,h=>⟨by simp[Cv],by simpa [Cv]using h⟩
 |c::l,own,hc,ho=>by
  unfold Cv
  split
  ·exact⟨by simp,by simp⟩
  ·split
   ·exact⟨by simp,by simp⟩
   ·have hcc:=hc c (by simp)
    have h1:=Ln c own.length
    have h2:=aG (first:=own.length) hcc.over
    have h3:=hcc.lines
    have ih:=Ns l (own++DZ c own.length) (fun x hx=>hc x (by simp[hx])) (fun a ha=>by
     rcases Ai.1 ha with h|h
     ·exact ho a h
     ·exact h2 a h)
    rw[AA]at ih
    refine⟨?_,ih.2⟩
    have:=ih.1
    simp only[AN,C3];omega
theorem Ej {p:Pat} (h:E5 p=false):(Bo p).1.length≤16200∧ ∀ a∈(Bo p).1,a.over.length≤40:=by
 obtain⟨_,_,_,hch,hcs⟩:=Eh h
 unfold Bo
 repeat' split
 all_goals first
  |exact⟨by simp,by simp⟩
  |(have:=Ns p.changes [] hcs (by simp)
    exact⟨by have h1:=this.1;simp only[Af]at h1;omega,this.2⟩)
end Go.Proofs
namespace Go.Q
open Go
section
variable {P:Program} {N:Nat} {Q:PPost} {all:Array Oper} {K:Env→List Res→Prop}
theorem jO {bar:Nat→Bool} {j:Nat} {oi oj:Oper} {x:PV} (hj:all[j]? =some oj) (hap:oi.apart all oj=true) {K:Env→List Res→Prop} {ρ:Env} {L:List Res}
  (hy: ∀ L,YQ P all oi ρ L x) (h:YT P N all bar j K (updo ρ oi.dst x) L):YT P N all bar j (fun ρ' L'=>(∀ L,YQ P all oi ρ' L x)∧K (updo ρ' oi.dst x) L') ρ L:=by
 obtain⟨h1,h2,h3⟩:=Oper.apart_spec hap
 unfold YT at*
 simp only[hj]at*
 obtain⟨hd,h⟩:=h
 have cj: ∀ s,s∈oj.looksAt all→updo ρ oi.dst x s=ρ s:=fun s hs=>OH fun d hd e=>h1 d hd (e ▸ hs)
 have ci: ∀ u,∀ L,YQ P all oi (updo ρ oj.dst u) L x:=fun u L=>(hy L).congr fun s hs=>(OH fun d hd e=>h3 d hd (e ▸ hs)).symm
 refine⟨hd,?_⟩
 rcases h with ⟨u,hu,hk⟩|⟨hb,hg,ho⟩
 ·refine .inl ⟨u,hu.congr cj,ci u,?_⟩
  rw[Qs ρ u x (fun d hd e=>h2 d e hd)];exact hk
 ·refine .inr ⟨hb,hg.congr cj,(Fu.congr (S3 cj) ho).mono fun u L' hk=>⟨ci u,?_⟩⟩
  rw[Qs ρ u x (fun d hd e=>h2 d e hd)];exact hk
theorem YW {bar:Nat→Bool} {i:Nat} {oi:Oper} {x:PV} (hi:all[i]? =some oi) (hdi: ∀ d,oi.dst=some d→d < N):
  ∀ (fuel:Nat) (listed:Array Bool) (ρ:Env) (L:List Res),Kk all listed→
    (∀ j oj,all[j]? =some oj→j≠i→listed.getD j true=false→(∀ e∈oj.after,Region.binds .any e=true→e.on≠i)→oi.apart all oj=true)→
    i∈Region.ready .any all listed→(∀ L,YQ P all oi ρ L x)→
    H0 P N all bar K fuel (listed.setIfInBounds i true) (updo ρ oi.dst x) L→H0 P N all bar K (fuel+1) listed ρ L:=by
 intro fuel
 have Ih: ∀ (listed:Array Bool) (ρ:Env) (L:List Res) (n:Nat),YQ P all oi ρ L x→H0 P N all bar K n (listed.setIfInBounds i true) (updo ρ oi.dst x) L→
   YT P N all bar i (H0 P N all bar K n (listed.setIfInBounds i true)) ρ L:=fun listed ρ L n hy H=>by
  unfold YT;simp only[hi];exact⟨hdi,.inl ⟨x,hy,H⟩⟩
 induction fuel with
 |zero=>
  intro listed ρ L hc _ hr hy H
  refine⟨fun h=>(by rw[h]at hr;cases hr),fun j hj=>?_⟩
  by_cases hji:j=i
  ·subst hji;exact Ih _ _ _ _ (hy L) H
  ·have:=ready_mono hj hji
   rw[H.1]at this
   cases this
 |succ fuel ih=>
  intro listed ρ L hc hfree hr hy H
  refine⟨fun h=>(by rw[h]at hr;cases hr),fun j hj=>?_⟩
  by_cases hji:j=i
  ·subst hji;exact Ih _ _ _ _ (hy L) H
  ·have h1:=H.2 j (ready_mono hj hji)
   obtain⟨hjun,oj,hoj,hall⟩:=mem_ready.1 hj
   have hiun:=(mem_ready.1 hr).1
   have hnot: ∀ e∈oj.after,Region.binds .any e=true→e.on≠i:=fun e he hb heq=>by
    have h1:=hall e he hb
    rw[heq]at h1
    rcases BP i listed.size with h'|h'
    ·simp[h']at hiun h1;rw[hiun]at h1;cases h1
    ·simp[Bk h']at h1
   have h2:=jO hoj (hfree j oj hoj hji hjun hnot) hy h1
   have hfree': ∀ k ok,all[k]? =some ok→k≠i→(listed.setIfInBounds j true).getD k true=false→
     (∀ e∈ok.after,Region.binds .any e=true→e.on≠i)→oi.apart all ok=true:=fun k ok hk hki hun hno=>by
    refine hfree k ok hk hki ?_ hno
    by_cases hjk:j=k
    ·subst hjk;exact hjun
    ·rw[getD_set_ne true hjk]at hun;exact hun
   refine YS (fun ρ' L' h3=>?_) h2
   obtain⟨h4,h5⟩:=h3
   refine ih (listed.setIfInBounds j true) ρ' L' (hc.set hj) hfree' (ready_mono hr (Ne.symm hji)) h4 ?_
   rw[xH _ _ hji]
   exact h5
def SQ (all:Array Oper) (listed:Array Bool):Bool:=listed.size==all.size&&(List.range all.size).all fun j=>match all[j]? with
 |some oj=>!listed.getD j false||oj.after.all fun e=>!Region.binds .any e||listed.getD e.on false
 |none=>true
theorem XI {listed:Array Bool} (h:SQ all listed=true):Kk all listed:=by
 simp only[SQ,BJ,beq_iff_eq,BT,BW]at h
 obtain⟨h1,h2⟩:=h
 refine⟨h1,fun j oj hj hl e he hb=>?_⟩
 have:=h2 j (BH.1 hj).1
 simp only[hj,hl,Ze,Fi,H6]at this
 have:=this e he
 simpa [hb]using this
theorem Eg {bar:Nat→Bool} {fuel:Nat} {listed:Array Bool} {ρ:Env} {L:List Res} (i:Nat) {d:Nat} {op:Op} {ty:TypeId} {pos:String} {af:Array Edge} {x:PV} (h0:all[i]? =some ⟨some d,op,ty,pos,af,none⟩)
  (hB:(SQ all listed&&Region.free .any all listed i&&(Region.ready .any all listed).contains i)=true) (hd:Nat.blt d N=true)
  (hq: ∀ L,fk P ⟨some d,op,ty,pos,af,none⟩ ρ L x) (k:H0 P N all bar K fuel (listed.setIfInBounds i true) (CT ρ d x) L):H0 P N all bar K (fuel+1) listed ρ L:=by
 simp only[BJ]at hB
 obtain⟨⟨h1,h2⟩,h3⟩:=hB
 exact YW (x:=x) h0 (PA hd) fuel listed ρ L (XI h1) (Region.free_spec h0 h2) (by simpa using h3) (fun L=> .inr ⟨by unfold Ql;trivial,hq L⟩) k
theorem GN {id:Nat} {l:List Oper} {ρ:Env} {L:List Res} (bs:List Nat) [hm:kp P] (hG:ME l.toArray N=true)
  (h:H0 P N l.toArray (fun k=>bs.contains k) (Q .normal) l.length (Array.replicate l.length false) ρ L):ER P N (.region id l.toArray true) Q ρ L:=fun ro base a w g hst=>by
 refine wpIn_region_any hm.out ?_
 have hi:=hst.inv
 have hst0:Ee (Aj L) w g { w with drawn:=w.drawn+1 } g:=⟨rfl,rfl,⟨rfl,Qp _⟩,Ak _,fun _ _ _=>rfl,.refl g,fun _ _ _=>⟨fun _=>rfl,rfl⟩⟩
 have hi':Du { w with drawn:=w.drawn+1 } g L:=⟨hi.sat,fun b z hz=>(hi.satM b z hz).congr rfl,fun r hr=>by have:=hi.res r hr;cases r<;>first|exact this|(rename_i t _ _;cases t<;>exact this),hi.nodup,hi.glob⟩
 have k:=P0 (ro:=ro) (base:=base) (Q:=Q) (w₀:=w) (g₀:=g) (L₀:=L) (fun _ _ h=>h) hG _ _ ρ L a _ g hst.agr hi' hst0 (.refl _ _) h
 simpa using k
end
theorem FQ {P:Program} {N:Nat} {o:Oper} {ρ:Env} {d:Nat} {x:PV} {L:List Res} (hd:o.dst=some d) (hg:o.guard=none) (h:AQ P N #[] (fun ρ' L'=>ρ' d=x∧L'=L) [false] [o] ρ L):fk P o ρ L x:=by
 obtain⟨_,h⟩:=h
 rcases h with ⟨hno,_⟩|⟨_,⟨y,hq,h1,_⟩|⟨hf,_⟩⟩
 ·unfold kz at hno
  rw[hg]at hno
  exact hno.elim
 ·rw[hd]at h1
  have:y=x:=by
   rw[←h1]
   show y=CT ρ d y d
   rw[Cu]
  rw[←this];exact hq
 ·cases hf
theorem Aa {P:Program} {N:Nat} {all:Array Oper} {K:Env→List Res→Prop} {bar:Nat→Bool} (fuel:Nat) {listed:Array Bool} {ρ:Env} {L:List Res} (i:Nat) {o:Oper}
  (k:AQ P N all (fun ρ L=>H0 P N all bar K fuel (listed.setIfInBounds i true) ρ L) [bar i] [o] ρ L) (hr:Region.ready .any all listed= [i]:=by decide+kernel) (ho:all[i]? =some o:=by exact rfl):
  H0 P N all bar K (fuel+1) listed ρ L:=Cw [i] hr (by simp) fun j hj=>by
 simp only[AH,Ah,or_false]at hj
 subst hj
 exact⟨o,ho,k⟩
theorem B6 {P:Program} {N:Nat} {all:Array Oper} {K:Env→List Res→Prop} {bar:Nat→Bool} {fuel:Nat} {listed:Array Bool} {ρ:Env} {L:List Res} (i:Nat) {d:Nat} {op:Op} {ty:TypeId} {pos:String} {af:Array Edge} {x:PV}
  (k:H0 P N all bar K fuel (listed.setIfInBounds i true) (CT ρ d x) L) (h0:all[i]? =some ⟨some d,op,ty,pos,af,none⟩:=by exact rfl)
  (hB:(SQ all listed&&Region.free .any all listed i&&(Region.ready .any all listed).contains i)=true:=by decide+kernel) (hd:Nat.blt d N=true:=by exact rfl)
  (hq: ∀ L,AQ P N #[] (fun ρ' L'=>ρ' d=x∧L'=L) [false] [⟨some d,op,ty,pos,af,none⟩] ρ L:=by
   intro _
   refine wo ?_
   refine AD ?_
   exact⟨Cu _ _ _,rfl⟩):H0 P N all bar K (fuel+1) listed ρ L:=
 Eg i h0 hB hd (fun L=>FQ rfl rfl (hq L)) k
def FX (X:List Value) (o:Nat) (cs:List Value):List Value:=X.take o++cs++X.drop (o+cs.length)
def LA (cur:Array Value) (o:Nat) (cs:List Value):Prop:= ∀ j (h:j < cs.length),cur.toList[o+j]? =some cs[j]
theorem LA.cell {w:World} {b E o:Nat} {fr:Nat × Nat} {cur:Array Value} {cs:List Value} (h:LA cur o cs) (hb:w.heap[b]? =some (.cells cur E fr)): ∀ j (hj:j < cs.length),w.cell? ⟨b,o+j,none⟩=some cs[j]:=fun j hj=>by
 have:=h j hj
 simp only[World.cell?,hb,CW,BX,if_false]
 simpa using this
section
variable {P:Program} {N:Nat} {all:Array Oper} {K:Env→List Res→Prop} {fl:List Bool} {os:List Oper} {ρ:Env} {L:List Res} {d:Nat} {ty:TypeId} {pos:String} {af:Array Edge}
theorem re {T:TypeId} {E:Nat} [hT:ML P T E] {x:Operand} {a:Option Addr} {n c:Nat} (hx:ρ.ev x= .raw (.slice a n c)) (k:AQ P N all K fl.tail os (CT ρ d (.raw (.int .i64 c))) L) (hd:Nat.blt d N=true:=by rfl):
  AQ P N all K fl (⟨some d,.call { callee:= .builtin .cap,args:= #[x],argTypes:= #[T] },ty,pos,af,none⟩::os) ρ L:=
 Bh hd (BC fun a' w g ha hi=>⟨.int .i64 c,by
  have h1:=Ca ha (x:=x) (by simp[Op.operands,Call.operands]) hx
  have he:execOp a'.eval ⟨some d,.call { callee:= .builtin .cap,args:= #[x],argTypes:= #[T] },ty,pos,af,none⟩=(do pure (.value (←Builtin.cap_ #[T] ty (#[x].map a'.eval)))):=rfl
  rw[he]
  simp[Builtin.cap_,h1,IA hT.out,goInt],.raw _⟩) k
theorem iR {T E sz by_:Nat} [hT:ML P T E] [hE:Ed P E sz by_] {x y:Operand} {b:Option Addr} {kk:IntKind} {n c i:Nat} (hx:ρ.ev x= .raw (.slice b n c)) (hy:ρ.ev y= .raw (.int kk (i:Int))) (hi:i≤n) (hn:n≤c)
  (k: ∀ u,AQ P N all K fl.tail os (CT ρ d (.raw u)) L) (hd:Nat.blt d N=true:=by rfl):AQ P N all K fl (⟨some d,.slice T x (some y) none none,ty,pos,af,none⟩::os) ρ L:=by
 let u:Value:=if c=i then .slice b (n - i) (c - i)else .slice (b.map (·.add (i*sz))) (n - i) (c - i)
 refine Bh (x:= .raw u) hd (BC fun a w g ha hI=>?_) (k u)
 have e1:=Ca ha (x:=x) (by simp[Op.operands]) hx
 have e2:=Ca ha (x:=y) (by simp[Op.operands]) hy
 refine⟨u,?_,.raw _⟩
 have hbounds:(Instr.sliceBounds true n c (some (a.eval y)) none none).run P w= .ok (i,n,c) w:=by
  unfold Instr.sliceBounds
  simp[e2,Instr.sliceBound,asIntOf]
  omega
 show(do pure (Next.value (←Instr.sliceAt T (a.eval x) (some (a.eval y)) none none)):Sem Next).run P w=_
 simp only[Instr.sliceAt,Sem.run_bind,run_underlying hT.out,Result.andThen_ok,Instr.slice,e1,hbounds,Ed.run hE,Sem.run_pure,u]
 by_cases h:c=i
 ·cases b<;>simp[h]
 ·cases b<;>simp[h]
theorem Mb {T E sz by_:Nat} [hT:ML P T E] [hE:Ed P E sz by_] {x:Operand} {lo hi:Option Operand} {r off n c:Nat} (i j:Nat) (hx:ρ.ev x= .raw (.slice (some ⟨r,off,none⟩) n c)) (hij:i≤j) (hj:j≤c) (hc:i < c) (hnc:n≤c)
  (hlo: ∀ o,lo=some o→ ∃ k,ρ.ev o= .raw (.int k i)) (hlo':lo=none→i=0) (hhi: ∀ o,hi=some o→ ∃ k,ρ.ev o= .raw (.int k j)) (hhi':hi=none→j=n)
  (k:AQ P N all K fl.tail os (CT ρ d (.raw (.slice (some ⟨r,off+i*sz,none⟩) (j - i) (c - i)))) L) (hd:Nat.blt d N=true:=by rfl):
  AQ P N all K fl (⟨some d,.slice T x lo hi none,ty,pos,af,none⟩::os) ρ L:=
 Bh hd (BC fun a w g ha hI=>by
  have e1:=Ca ha (x:=x) (by simp[Op.operands]) hx
  have hbl: ∀ o,lo=some o→ ∃ k,a.eval o= .int k i:=fun o e=>by
   obtain⟨k,hk⟩:=hlo o e
   exact⟨k,Ca ha (by simp[Op.operands,e]) hk⟩
  have hbh: ∀ o,hi=some o→ ∃ k,a.eval o= .int k j:=fun o e=>by
   obtain⟨k,hk⟩:=hhi o e
   exact⟨k,Ca ha (by simp[Op.operands,e]) hk⟩
  have hbounds:(Instr.sliceBounds true n c (lo.map a.eval) (hi.map a.eval) none).run P w= .ok (i,j,c) w:=by
   unfold Instr.sliceBounds
   cases lo with
   |none=>
    have:=hlo' rfl;subst this
    cases hi with
    |none=>have:=hhi' rfl;subst this;simp
    |some o=>
     obtain⟨k,hk⟩:=hbh o rfl
     simp[hk,Instr.sliceBound,asIntOf]
     omega
   |some o=>
    obtain⟨k,hk⟩:=hbl o rfl
    cases hi with
    |none=>
     have:=hhi' rfl;subst this
     simp[hk,Instr.sliceBound,asIntOf]
     omega
    |some o'=>
     obtain⟨k',hk'⟩:=hbh o' rfl
     simp[hk,hk',Instr.sliceBound,asIntOf]
     rw[if_pos (by omega)]
     simp
     omega
  refine⟨.slice (some ⟨r,off+i*sz,none⟩) (j - i) (c - i),?_,.raw _⟩
  show(do pure (Next.value (←Instr.sliceAt T (a.eval x) (lo.map a.eval) (hi.map a.eval) none)):Sem Next).run P w=_
  simp only[Instr.sliceAt,Sem.run_bind,run_underlying hT.out,Result.andThen_ok,Instr.slice,e1,hbounds,Ed.run hE,Sem.run_pure]
  rw[if_neg (by omega)]
  simp[Dq]) k
theorem SK {T T₂ E sz by_:Nat} [hT:Zb P T E sz by_] {x y:Operand} {r o dn dc b o2 sn sc:Nat} {cur:Array Value} (cs:List Value) {L':List Res} (F:Res→List Res)
  (hx:ρ.ev x= .raw (.slice (some ⟨r,o,none⟩) dn dc)) (hy:ρ.ev y= .raw (.slice (some ⟨b,o2,none⟩) sn sc)) (hp:L.Perm (.raw r (.cells cur E (0,0))::L')) (hq: ∀ c,(c::L').Perm (F c))
  (hl:cs.length=Nat.min sn dn*sz) (hone: ∀ x∈cs,x.oneCell'=true) (hfit:o+cs.length≤cur.size)
  (hs: ∃ cur2 E2 fr,Res.raw b (.cells cur2 E2 fr)∈(Res.raw r (.cells cur E (0,0))::L')∧LA cur2 o2 cs)
  (k:AQ P N all K fl.tail os (CT ρ d (.raw (.int .i64 (Nat.min sn dn:Nat)))) (F (.raw r (.cells (FX cur.toList o cs).toArray E (0,0))))) (hd:Nat.blt d N=true:=by rfl) (hfl:fl.headD true=true:=by rfl):
  AQ P N all K fl (⟨some d,.call { callee:= .builtin .copy,args:= #[x,y],argTypes:= #[T,T₂] },ty,pos,af,none⟩::os) ρ L:=
 Dd rfl (PA hd) hfl (Fu.perm hp fun a w g ha hi=>by
  have h1:=Ca ha (x:=x) (by simp[Op.operands,Call.operands]) hx
  have h2:=Ca ha (x:=y) (by simp[Op.operands,Call.operands]) hy
  obtain⟨i,z,t1,t2,t3,t4,t5,t6,t7,t8⟩:=hT.out
  obtain⟨k1,k2,k3,k4,k5⟩:=hi.rawHead
  obtain⟨cur2,E2,fr,hm,hc⟩:=hs
  have hb:=(hi.res _ hm).1
  have hload:(loadCells ⟨b,o2,none⟩ (Nat.min sn dn*sz)).run P w= .ok cs.toArray w:=by
   rw[←hl];exact FP (hc.cell hb)
  obtain⟨w',hrun,hb',hos,htp,hout,hsz,hk⟩:=FW (P:=P) cs w cur.toList o 0 (by simpa using k1) (by simpa using hfit) hone
  have he:execOp a.eval ⟨some d,.call { callee:= .builtin .copy,args:= #[x,y],argTypes:= #[T,T₂] },ty,pos,af,none⟩=(do pure (.value (←Builtin.copy_ #[T,T₂] ty (#[x,y].map a.eval)))):=rfl
  have hr:(execOp a.eval ⟨some d,.call { callee:= .builtin .copy,args:= #[x,y],argTypes:= #[T,T₂] },ty,pos,af,none⟩).run P w= .ok (.value (.int .i64 (Nat.min sn dn:Nat))) w':=by
   rw[he]
   simp[Builtin.copy_,h1,h2,run_underlying t1,sizeOf,typeInfo,t2,t3,Builtin.lenOf,Builtin.firstCells,hload,hrun,goInt]
  rw[Dr]at hb'
  refine Oper.wq_of_run hr ?_
  exact⟨_,.raw _,g,_,rfl,.raw _,(hi.turnRaw hb' hk).perm (hq _),⟨hos,htp,hout,EF hsz.symm,fun b _ hn=>hk b (fun e=>hn (by simp[Aj,Res.block,e])),.refl g,fun _ _ _=>⟨fun _=>rfl,rfl⟩⟩,
   fun b hb _=>by
    have:=(DR (hq _)).symm.subset hb
    simpa [Aj,Res.block]using this,k⟩)
theorem mZ {T T₂ E E₂ sz by_:Nat} [hT:Zb P T E sz by_] [h2:ML P T₂ E₂] {x y:Operand} {v:Value} {n m b o2 sc:Nat} {us vs:List Value} {R LF:List Res} (F:List Res→List Res)
  (hx:ρ.ev x= .raw v) (hy:ρ.ev y= .raw (.slice (some ⟨b,o2,none⟩) m sc)) (hv:MI E sz v n us R) (hp:L.Perm (R++LF)) (hq: ∀ R',(R'++LF).Perm (F R'))
  (hvl:vs.length=m*sz) (hone: ∀ x∈vs,x.oneCell'=true) (hs: ∃ cur2 E2 fr,Res.raw b (.cells cur2 E2 fr)∈LF∧LA cur2 o2 vs) (hb:(n+m)*by_≤140737488355328) (hm:n+m≤140737488355328)
  (k: ∀ v' R',MI E sz v' (n+m) (us++vs) R'→AQ P N all K fl.tail os (CT ρ d (.raw v')) (F R')) (hd:Nat.blt d N=true:=by rfl) (hfl:fl.headD true=true:=by rfl):
  AQ P N all K fl (⟨some d,.call { callee:= .builtin .append,args:= #[x,y],argTypes:= #[T,T₂] },ty,pos,af,none⟩::os) ρ L:=
 Dd rfl (PA hd) hfl (Fu.perm hp fun a w g ha hi=>by
  have h1:=Ca ha (x:=x) (by simp[Op.operands,Call.operands]) hx
  have h3:=Ca ha (x:=y) (by simp[Op.operands,Call.operands]) hy
  obtain⟨cur2,E2,fr,hm2,hc⟩:=hs
  have hbk:=(hi.res _ (ED _ hm2)).1
  obtain⟨v',w',R',q1,q2,q3,q4,q5⟩:=Vf (P:=P) (T:=T) (T₂:=T₂) (ty:=ty) (.inr ⟨_,h2.out⟩) (.slice (some ⟨b,o2,none⟩) m sc) vs hi hv (fun _=>rfl) hvl hone (fun w' e=>by
   show(loadCells _ (m*sz)).run P w'=_
   rw[←hvl]
   exact FP (hc.cell (e ▸ hbk))) hb hm
  refine Oper.wq_of_run (show(do pure (.value (←Builtin.append_ #[T,T₂] ty (#[x,y].map a.eval))):Sem Next).run P w= .ok (.value v') w' by
   simp only[Hh,Aq,CG,h1,h3,Sem.run_bind,q1,Result.andThen_ok,Sem.run_pure]) ?_
  exact⟨v',.raw v',g,F R',rfl,.raw _,q3.perm (hq R'),q4,fun b hb hlt=>q5 b ((DR (hq R')).symm.subset hb) hlt,k v' R' q2⟩)
theorem ri {T T₂ E sz by_:Nat} [hT:Zb P T E sz by_] {kk:IntKind} (h2:P.underlying T₂=some (.int .i64)) {x y:Operand} {r o n m c:Nat} {us:List Value} {cur:Array Value} {L':List Res}
  (hx:ρ.ev x= .raw (.slice (some ⟨r,o,none⟩) n c)) (hy:ρ.ev y= .raw (.int kk (m:Int))) (hm:Res.raw r (.cells cur E (0,0))∈L) (hl:L=L') (hu:us.length=n*sz) (hc:LA cur o us) (h0:0 < m) (hn:c < n+m) (hb:(n+m)*by_≤140737488355328) (hbm:n+m≤140737488355328)
  (k: ∀ r' nc (zs:List Value),n+m≤nc→(us++zs).length=nc*sz→AQ P N all K fl.tail os (CT ρ d (.raw (.slice (some ⟨r',0,none⟩) (n+m) nc))) (.raw r' (.cells (us++zs).toArray E (0,0))::L')) (hd:Nat.blt d N=true:=by rfl) (hfl:fl.headD true=true:=by rfl):
  AQ P N all K fl (⟨some d,.call { callee:= .builtin .append,args:= #[x,y],argTypes:= #[T,T₂] },ty,pos,af,none⟩::os) ρ L:=
 Dd rfl (PA hd) hfl (fun a w g ha hi=>by
  have h1:=Ca ha (x:=x) (by simp[Op.operands,Call.operands]) hx
  have h3:=Ca ha (x:=y) (by simp[Op.operands,Call.operands]) hy
  obtain⟨i,z,t1,t2,t3,t4,t5,t6,t7,t8⟩:=hT.out
  have hbk:=(hi.res _ hm).1
  have hload: ∀ w',w'.heap=w.heap→(loadCells ⟨r,o,none⟩ (n*sz)).run P w'= .ok us.toArray w':=fun w' e=>by
   rw[←hu];exact FP (hc.cell (e ▸ hbk))
  have hw:IntKind.i64.wrap (m:Int)=m:=by rw[IntKind.wrap_i64];omega
  have h63': ¬(9223372036854775807 < ((n:Int)+(m:Int))):=by omega
  have h48': ¬(281474976710656 < Builtin.nextslicecap (n+m) c*i.bytes):=by
   rw[t4]
   have:Builtin.nextslicecap (n+m) c*by_≤2*140737488355328:=by
    calc Builtin.nextslicecap (n+m) c*by_≤(2*(n+m))*by_:=B8 _ (IE hn)
     _=2*((n+m)*by_):=by rw[xB]
     _≤2*140737488355328:=Ju _ hb
   omega
  have h48i: ¬(281474976710656 < (m:Int)*(i.bytes:Int)):=by
   rw[←pG,t4]
   have:m*by_≤(n+m)*by_:=B8 _ (by omega)
   omega
  have hneg: ¬((m:Int) < 0):=by omega
  have hns: ¬(m*sz=0):=Nat.mul_ne_zero (by omega) t7
  have hle: ¬(n+m≤c):=by omega
  obtain⟨zs,hzs⟩: ∃ zs:List Value,zs=(Builtin.zeroCells z.cells m).toList++(Builtin.zeroCells z.cells (grownCap w (n+m) c E - (n+m))).toList:=⟨_,rfl⟩
  have hr:(execOp a.eval ⟨some d,.call { callee:= .builtin .append,args:= #[x,y],argTypes:= #[T,T₂] },ty,pos,af,none⟩).run P w= .ok (.value (.slice (some ⟨w.heap.size,0,none⟩) (n+m) (grownCap w (n+m) c E))) (w.drew.alloc (.cells (us++zs).toArray E (0,0))):=by
   have f1:=hload w.drew rfl
   show(do pure (.value (←Builtin.append_ #[T,T₂] ty (#[x,y].map a.eval))):Sem Next).run P w=_
   simp[Builtin.append_,h1,h3,run_underlying t1,run_underlying h2,sizeOf,typeInfo,zeroValue,t2,t3,t5,asInt,asIntOf,hw,hneg,h48i,hns,hle,h63',h48',Question.forced,Builtin.firstCells,f1,newRow,grownCap,hzs]
   congr 2
   apply Po
   simp[grownCap]
  have hge:=grownCap_ge w (n+m) c E
  have hlen:(us++zs).length=grownCap w (n+m) c E*sz:=by
   have e1: ∀ m,(Builtin.zeroCells z.cells m).toList.length=m*sz:=fun m=>by rw[CZ,size_zeroCells,t6]
   rw[hzs,AA,AA,e1,e1,hu,←C3,←C3]
   congr 1;omega
  obtain⟨j1,j2,j3⟩:=RR (R:= []) (LF:=L) hi (.cells (us++zs).toArray E (0,0))
  refine Oper.wq_of_run hr ?_
  subst hl
  exact⟨_,.raw _,g,_,rfl,.raw _,j1,j2,j3,k _ _ zs hge hlen⟩)
theorem Zw {f:Nat} {fn:Func} {T B E sz by_:Nat} (hf:P.funcs[f]? =some fn) (hn:(fn.name== "runtime.NumGoroutine")=false) (hb:fn.body.isNone=true) (h1:Extern.findNext fn=none) (h2:Extern.find fn=some (Extern.SlicesOverlaps.overlaps #[T,T] #[B]))
  [hT:ML P T E] [hE:Ed P E sz by_] {ats:Array TypeId} {x y:Operand} {rv o n c r o2 n2 c2 Ev Er:Nat} {cv cr:Array Value} {L':List Res} (hx:ρ.ev x= .raw (.slice (some ⟨rv,o,none⟩) n c)) (hy:ρ.ev y= .raw (.slice (some ⟨r,o2,none⟩) n2 c2))
  (hp:L.Perm (.raw rv (.cells cv Ev (0,0)):: .raw r (.cells cr Er (0,0))::L')) (hk:cr.size≠0) (k:AQ P N all K fl.tail os (CT ρ d (.raw (.bool false))) L) (hd:Nat.blt d N=true:=by rfl):
  AQ P N all K fl (⟨some d,.call { callee:= .value (.func f),args:= #[x,y],argTypes:=ats },ty,pos,af,none⟩::os) ρ L:=
 Bh hd (BC fun a w g ha hi=>by
  have e1:=Ca ha (x:=x) (by simp[Op.operands,Call.operands]) hx
  have e2:=Ca ha (x:=y) (by simp[Op.operands,Call.operands]) hy
  have hi2:=hi.perm hp
  obtain⟨q1,_,_,q4,q5⟩:=hi2.rawHead
  obtain⟨p1,_⟩:=q5.rawHead
  have hne:rv≠r:=fun e=>q4 (by simp[Aj,Res.block,e])
  refine⟨.bool false,?_,.raw _⟩
  have he:execOp a.eval ⟨some d,.call { callee:= .value (.func f),args:= #[x,y],argTypes:=ats },ty,pos,af,none⟩=callFunc f (#[]++ #[x,y].map a.eval++ #[]):=rfl
  rw[he]
  have hcall:(callFunc f #[.slice (some ⟨rv,o,none⟩) n c,.slice (some ⟨r,o2,none⟩) n2 c2]).run P w= .ok (.value (.bool false)) w:=by
   rw[run_callFunc_extern hf hn hb h1 h2,Lib.run_overlaps_apart w T B E hT.out sz (Ed.run hE) ⟨rv,o,none⟩ ⟨r,o2,none⟩ n c n2 c2 hne Ev Er cv.size cr.size (by simp[World.shape?,q1]) (by simp[World.shape?,p1]) hk (by simp[World.frozen?,q1]) (by simp[World.frozen?,q1])]
   rfl
  simpa [e1,e2]using hcall) k
end
end Go.Q
namespace Go.Proofs
open Go Go.Q
attribute [local irreducible] ER AQ BG Fu
section
variable {P:Program} {N:Nat} {all:Array Oper} {K:Env→List Res→Prop} {fl:List Bool} {os:List Oper} {ρ:Env} {L:List Res} {d:Nat} {ty:TypeId} {pos:String} {af:Array Edge}
theorem dv {S T:TypeId} {k':IntKind} [hS:NB P S k'] [hT:NB P T .u64] {x:Operand} {k₀:IntKind} {n:Nat} (hx:ρ.ev x= .raw (.int k₀ (-(n:Int)))) (hn:0 < n∧n≤32) (k:AQ P N all K fl.tail os (CT ρ d (.raw (.int .u64 ((18446744073709551616 - n:Nat):Int)))) L) (hd:Nat.blt d N=true:=by rfl):
  AQ P N all K fl (⟨some d,.convert S T x,ty,pos,af,none⟩::os) ρ L:=W6 hx (by
 have e:IntKind.wrap .u64 (-(n:Int))=((18446744073709551616 - n:Nat):Int):=by
  simp only[IntKind.wrap,IntKind.signed,IntKind.bits]
  simp
  omega
 rw[e];exact k) hd
theorem ma {T T':TypeId} {x y:Operand} {n:Nat} (hx:ρ.ev x= .raw (.int .u64 ((18446744073709551616 - n:Nat):Int))) (hy:ρ.ev y= .raw (.int .u64 31)) (hn:0 < n∧n < 32) (k:AQ P N all K fl.tail os (CT ρ d (.raw (.int .u64 ((32 - n:Nat):Int)))) L) (hd:Nat.blt d N=true:=by rfl):
  AQ P N all K fl (⟨some d,.binOp .and T x y T',ty,pos,af,none⟩::os) ρ L:=Gi hx hy (fun w=>by
 have key: ∀ m:Nat,m < 32→0 < m→IntKind.u64.wrap ((BitVec.ofInt 64 ((18446744073709551616 - m:Nat):Int)&&& BitVec.ofInt 64 31).toNat:Int)=((32 - m:Nat):Int):=by decide
 simp only[binOp,ne_eq,not_true_eq_false,if_false]
 show(pure (Value.int .u64 (IntKind.u64.wrap ((BitVec.ofInt 64 ((18446744073709551616 - n:Nat):Int)&&& BitVec.ofInt 64 31).toNat:Int))):Sem Value).run P w=_
 rw[key n hn.2 hn.1];rfl) k hd
end
theorem jT (a b:Nat):eT a b=eT b a:=Nat.or_comm _ _
theorem mb (a n:Nat) (hn:0 < n∧n < 32):C9 Tryz.prog 284 [.raw (.int .u32 (a:Int)),.raw (.int .i64 (-(n:Int)))] (.raw (.int .u32 (GY a n:Nat))):=⟨by
 refine Au Tryz.func284 Tryz.ntmps284 rfl (rs:= [.tmp 4]) rfl rfl fun hb LF=>?_
 refine E6 ?_
 refine dv (n:=n) rfl ⟨hn.1,by omega⟩ ?_
 refine ma (n:=n) rfl rfl hn ?_
 refine E6 ?_
 refine W0 (a:=32) (b:=32 - n) (by rfl) (by rfl) (by omega) (by decide) ?_
 refine E6 ?_
 refine Az (.of_eq ?_)
 rw[show 32 - (32 - n)=n by omega,GY,jT]⟩
theorem Hp (a n:Nat) (hn:0 < n∧n < 32):C9 Tryz.prog 234 [.raw (.int .u32 (a:Int)),.raw (.int .i64 (n:Int))] (.raw (.int .u32 (GY a n:Nat))):=⟨by
 have i1:C9 Tryz.prog 284 [.raw (.int .u32 (a:Int)),.raw (.int .i64 (-(n:Int)))] (.raw (.int .u32 (GY a n:Nat))):=mb a n hn
 refine Au Tryz.func234 Tryz.ntmps234 rfl (rs:= [.tmp 4]) rfl rfl fun hb LF=>?_
 refine E6 ?_
 exact Az (.refl _)⟩
instance u0 (a:Nat):C9 Tryz.prog 234 [.raw (.int .u32 (a:Int)),.raw (.int .i64 2)] (.raw (.int .u32 (GY a 2:Nat))):=Hp a 2 ⟨by decide,by decide⟩
instance tz (a:Nat):C9 Tryz.prog 234 [.raw (.int .u32 (a:Int)),.raw (.int .i64 6)] (.raw (.int .u32 (GY a 6:Nat))):=Hp a 6 ⟨by decide,by decide⟩
instance tx (a:Nat):C9 Tryz.prog 234 [.raw (.int .u32 (a:Int)),.raw (.int .i64 7)] (.raw (.int .u32 (GY a 7:Nat))):=Hp a 7 ⟨by decide,by decide⟩
instance ry (a:Nat):C9 Tryz.prog 234 [.raw (.int .u32 (a:Int)),.raw (.int .i64 11)] (.raw (.int .u32 (GY a 11:Nat))):=Hp a 11 ⟨by decide,by decide⟩
instance ru (a:Nat):C9 Tryz.prog 234 [.raw (.int .u32 (a:Int)),.raw (.int .i64 13)] (.raw (.int .u32 (GY a 13:Nat))):=Hp a 13 ⟨by decide,by decide⟩
instance rr (a:Nat):C9 Tryz.prog 234 [.raw (.int .u32 (a:Int)),.raw (.int .i64 17)] (.raw (.int .u32 (GY a 17:Nat))):=Hp a 17 ⟨by decide,by decide⟩
instance rq (a:Nat):C9 Tryz.prog 234 [.raw (.int .u32 (a:Int)),.raw (.int .i64 18)] (.raw (.int .u32 (GY a 18:Nat))):=Hp a 18 ⟨by decide,by decide⟩
instance rp (a:Nat):C9 Tryz.prog 234 [.raw (.int .u32 (a:Int)),.raw (.int .i64 19)] (.raw (.int .u32 (GY a 19:Nat))):=Hp a 19 ⟨by decide,by decide⟩
instance rn (a:Nat):C9 Tryz.prog 234 [.raw (.int .u32 (a:Int)),.raw (.int .i64 22)] (.raw (.int .u32 (GY a 22:Nat))):=Hp a 22 ⟨by decide,by decide⟩
instance rm (a:Nat):C9 Tryz.prog 234 [.raw (.int .u32 (a:Int)),.raw (.int .i64 25)] (.raw (.int .u32 (GY a 25:Nat))):=Hp a 25 ⟨by decide,by decide⟩
instance lU:C9 Tryz.prog 233 [] (.agg (eW rK)):=⟨by
 refine Au Tryz.func233 Tryz.ntmps233 rfl (rs:= [.cell 0 253]) rfl rfl fun hb LF=>?_
 refine Jo fun b=>?_
 refine KH [.const (.int .u32 1116352408),.const (.int .u32 1899447441),.const (.int .u32 3049323471),.const (.int .u32 3921009573),.const (.int .u32 961987163),.const (.int .u32 1508970993),.const (.int .u32 2453635748),.const (.int .u32 2870763221),.const (.int .u32 3624381080),.const (.int .u32 310598401),.const (.int .u32 607225278),.const (.int .u32 1426881987),.const (.int .u32 1925078388),.const (.int .u32 2162078206),.const (.int .u32 2614888103),.const (.int .u32 3248222580),.const (.int .u32 3835390401),.const (.int .u32 4022224774),.const (.int .u32 264347078),.const (.int .u32 604807628),.const (.int .u32 770255983),.const (.int .u32 1249150122),.const (.int .u32 1555081692),.const (.int .u32 1996064986),.const (.int .u32 2554220882),.const (.int .u32 2821834349),.const (.int .u32 2952996808),.const (.int .u32 3210313671),.const (.int .u32 3336571891),.const (.int .u32 3584528711),.const (.int .u32 113926993),.const (.int .u32 338241895),.const (.int .u32 666307205),.const (.int .u32 773529912),.const (.int .u32 1294757372),.const (.int .u32 1396182291),.const (.int .u32 1695183700),.const (.int .u32 1986661051),.const (.int .u32 2177026350),.const (.int .u32 2456956037),.const (.int .u32 2730485921),.const (.int .u32 2820302411),.const (.int .u32 3259730800),.const (.int .u32 3345764771),.const (.int .u32 3516065817),.const (.int .u32 3600352804),.const (.int .u32 4094571909),.const (.int .u32 275423344),.const (.int .u32 430227734),.const (.int .u32 506948616),.const (.int .u32 659060556),.const (.int .u32 883997877),.const (.int .u32 958139571),.const (.int .u32 1322822218),.const (.int .u32 1537002063),.const (.int .u32 1747873779),.const (.int .u32 1955562222),.const (.int .u32 2024104815),.const (.int .u32 2227730452),.const (.int .u32 2361852424),.const (.int .u32 2428436474),.const (.int .u32 2756734187),.const (.int .u32 3204031479),.const (.int .u32 3329325298)] rK rfl rfl rfl rfl ?_
 have i1:Cx (eW rK) 64:=⟨rfl⟩
 have i2:Cx (eW (List.replicate 64 0)) 64:=⟨rfl⟩
 refine J9 ?_
 exact Fq rfl (.refl _) (hn:=(rfl:(eW rK).length=64))⟩
instance qG:C9 Tryz.prog 183 [] (.agg (eW rH)):=⟨by
 refine Au Tryz.func183 Tryz.ntmps183 rfl (rs:= [.cell 0 216]) rfl rfl fun hb LF=>?_
 refine Jo fun b=>?_
 refine KH [.const (.int .u32 1779033703),.const (.int .u32 3144134277),.const (.int .u32 1013904242),.const (.int .u32 2773480762),.const (.int .u32 1359893119),.const (.int .u32 2600822924),.const (.int .u32 528734635),.const (.int .u32 1541459225)] rH rfl rfl (by simp[rH]) rfl ?_
 have i1:Cx (eW rH) 8:=⟨rfl⟩
 have i2:Cx (eW (List.replicate 8 0)) 8:=⟨rfl⟩
 refine J9 ?_
 exact Fq rfl (.refl _) (hn:=(rfl:(eW rH).length=8))⟩
theorem WV {a b i:Nat} (hb:b < 2 ^ i):a*2 ^ i|||b=a*2 ^ i+b:=by
 rw[←Nat.shiftLeft_eq];exact(Nat.shiftLeft_add_eq_or_of_lt hb a).symm
def Qj (v:Nat) (c:UInt8):Nat:=eT (Xk v 8) (c.toNat % 4294967296)
theorem Qi {v:Nat} {c:UInt8} (hv:v < 16777216):Qj v c=v*256+c.toNat:=by
 have hc:c.toNat < 256:=c.toNat_lt
 unfold Qj eT Xk
 rw[show min 8 32=8 from rfl,Nat.mod_mod,Nat.mod_mod,E9 (show c.toNat < 4294967296 by omega),E9 (show v*2 ^ 8 < 4294967296 by omega)]
 exact WV (i:=8) (by omega)
theorem Zf (b:Str) (t:Nat) (h:4*t+4≤b.length):(List.range 4).foldl (fun v i=>Qj v (b.getD (4*t+i) 0)) 0=Y8 b t:=by
 have h0: ∀ i,(b.getD i 0).toNat < 256:=fun i=>UInt8.toNat_lt _
 have a0:=h0 (4*t)
 have a1:=h0 (4*t+1)
 have a2:=h0 (4*t+2)
 have a3:=h0 (4*t+3)
 show Qj (Qj (Qj (Qj 0 (b.getD (4*t+0) 0)) (b.getD (4*t+1) 0)) (b.getD (4*t+2) 0)) (b.getD (4*t+3) 0)=_
 rw[Dr]
 rw[Qi (v:=0) (by omega),Qi (v:=0*256+(b.getD (4*t) 0).toNat) (by omega),Qi (v:=(0*256+(b.getD (4*t) 0).toNat)*256+(b.getD (4*t+1) 0).toNat) (by omega),
  Qi (v:=((0*256+(b.getD (4*t) 0).toNat)*256+(b.getD (4*t+1) 0).toNat)*256+(b.getD (4*t+2) 0).toNat) (by omega)]
 unfold Y8
 have e0:(4*(t:Int)).toNat=4*t:=by omega
 have e1:(4*(t:Int)+1).toNat=4*t+1:=by omega
 have e2:(4*(t:Int)+2).toNat=4*t+2:=by omega
 have e3:(4*(t:Int)+3).toNat=4*t+3:=by omega
 rw[e0,e1,e2,e3]
 generalize (b.getD (4*t) 0).toNat=x0 at*
 generalize (b.getD (4*t+1) 0).toNat=x1 at*
 generalize (b.getD (4*t+2) 0).toNat=x2 at*
 generalize (b.getD (4*t+3) 0).toNat=x3 at*
 unfold eT Xk
 rw[show min 24 32=24 from rfl,show min 16 32=16 from rfl,show min 8 32=8 from rfl]
 simp only[E9 (show x0 < 4294967296 by omega),E9 (show x1 < 4294967296 by omega),E9 (show x2 < 4294967296 by omega),E9 (show x3 < 4294967296 by omega),E9 (show x0*2 ^ 24 < 4294967296 by omega),E9 (show x1*2 ^ 16 < 4294967296 by omega),E9 (show x2*2 ^ 8 < 4294967296 by omega)]
 have k1:x0*2 ^ 24|||x1*2 ^ 16=(x0*256+x1)*2 ^ 16:=by rw[WV (by omega)];omega
 rw[k1,E9 (show(x0*256+x1)*2 ^ 16 < 4294967296 by omega)]
 have k2:(x0*256+x1)*2 ^ 16|||x2*2 ^ 8=((x0*256+x1)*256+x2)*2 ^ 8:=by rw[WV (by omega)];omega
 rw[k2,E9 (show((x0*256+x1)*256+x2)*2 ^ 8 < 4294967296 by omega),WV (by omega)]
 omega
def Qw (b:Str) (k:Nat):List Nat:=(List.range (k - 16)).foldl QC ((List.range (min k 16)).foldl (Kv b) (List.replicate 64 0))
theorem gi (b:Str) (k:Nat):(Qw b k).length=64:=VQ (VS b _) _
theorem Zs {b:Str} {k:Nat} (h:k < 16):Qw b (k+1)=(Qw b k).set k (Y8 b k):=by
 unfold Qw
 rw[show k+1 - 16=0 by omega,show k - 16=0 by omega,show min (k+1) 16=k+1 by omega,show min k 16=k by omega,Bq];rfl
theorem Zr (b:Str) (j:Nat):Qw b (j+16+1)=(Qw b (j+16)).set (j+16) (Sr (Qw b (j+16)) j):=by
 unfold Qw
 rw[show j+16+1 - 16=j+1 by omega,show j+16 - 16=j by omega,show min (j+16+1) 16=16 by omega,show min (j+16) 16=16 by omega,Bq];rfl
theorem ar (b:Str) (k:Nat): ∀ j,k≤j→((List.range k).foldl (Kv b) (List.replicate 64 0)).getD j 0=0:=by
 induction k with
 |zero=>intro j _;rw[pC,Pn,Cr,List.getElem?_replicate];split<;>rfl
 |succ k ih=>
  intro j hj
  have:=ih j (by omega)
  rw[Bq,Kv,List.getD,XT (by omega)]
  exact this
theorem dp {b:Str} {k:Nat} (h:k < 16):(Qw b k).set k 0=Qw b k:=by
 have h0:=ar b k k (Ak _)
 have hl:=gi b k
 have e:Qw b k=(List.range k).foldl (Kv b) (List.replicate 64 0):=by
  unfold Qw
  rw[show k - 16=0 by omega,show min k 16=k by omega];rfl
 rw[←e]at h0
 refine DY (by simp) fun i h1 h2=>?_
 rw[l8]
 split
 ·rename_i e
  subst e
  simpa [List.getD,h2]using h0.symm
 ·rfl
instance mI (s:Str) [hs:B4 (s.length=64)]:C9 Tryz.prog 232 [.str s] (.agg (eW (GZ s))):=⟨by
 refine Au Tryz.func232 Tryz.ntmps232 rfl (rs:= [.cell 2 253]) rfl rfl fun hb LF=>?_
 have hl:=hs.out
 have i2:Cx (eW (List.replicate 64 0)) 64:=⟨rfl⟩
 refine Jo fun b=>?_
 refine Ig fun b2=>?_
 refine Ab (σ:=Nat × List Nat) (fun k=>k.1≤64∧k.2.length=64∧k.2=Qw s k.1) (fun k=>64 - k.1) (fun k=> [(0,.str s),(2,.raw (.pointer (some ⟨b,0,none⟩))),(3,.raw (.pointer (some ⟨b2,0,none⟩))),(9,.raw (.int .i64 k.1))]) (fun k=> .box b2 253 (eW k.2):: .box b 253 (eW (List.replicate 64 0))::LF) (0,List.replicate 64 0) ⟨by simp,by simp,rfl⟩ ⟨rfl,rfl,rfl,rfl⟩ (.refl _) ?_
 rintro⟨k,w⟩ ⟨hk,hw,he⟩
 dsimp only at hk hw he ⊢
 have i3:Cx (eW w) 64:=⟨by rw[Gv,hw]⟩
 refine E6 ?_
 refine A6 (fun hc=>?_) (fun hc=>?_)
 ·refine E6 ?_
  refine A6 (fun h16=>?_) (fun h16=>?_)
  ·have h16':k < 16:=by omega
   have hz:=dp (b:=s) h16'
   rw[←he]at hz
   refine E6 ?_
   refine W4 (ax:= .str s) (i:=4*k) (j:=4*k+4) rfl (by show PV.raw (.int .i64 (4*(k:Int)))=_;rw[show(4*(k:Int))=((4*k:Nat):Int) by omega]) (by show PV.raw (.int .i64 (4*(k:Int)+4))=_;rw[show(4*(k:Int)+4)=((4*k+4:Nat):Int) by omega]) (by omega) (by omega) (by omega) ?_
   refine Ud (ax:= .str ((s.drop (4*k)).take (4*k+4 - 4*k))) rfl (by rw[AZ,BB];omega) fun t=>?_
   have hcl:((s.drop (4*k)).take (4*k+4 - 4*k)).length=4:=by rw[AZ,BB];omega
   have hce: ∀ i (h:i < ((s.drop (4*k)).take (4*k+4 - 4*k)).length),((s.drop (4*k)).take (4*k+4 - 4*k))[i]=s.getD (4*k+i) 0:=fun i h=>by
    rw[FG,J2,Cr,AW (by omega)];rfl
   generalize (s.drop (4*k)).take (4*k+4 - 4*k)=cs at hcl hce ⊢
   refine E6 ?_
   refine Ab (σ:=Nat × Nat) (fun j=>j.1≤4∧j.2=(List.range j.1).foldl (fun v i=>Qj v (s.getD (4*k+i) 0)) 0) (fun j=>4 - j.1) (fun j=> [(0,.str s),(2,.raw (.pointer (some ⟨b,0,none⟩))),(3,.raw (.pointer (some ⟨b2,0,none⟩))),(4,.raw (.int .i64 k)),(9,.raw (.int .i64 k)),(21,.slice (cs.map eBy) t),(22,.raw (.int .i64 cs.length)),(23,.raw (.int .i64 j.1))]) (fun j=> .box b2 253 (eW (w.set k j.2)):: .box b 253 (eW (List.replicate 64 0))::LF) (0,0) ⟨by simp,rfl⟩ ⟨rfl,rfl,rfl,rfl,rfl,rfl,rfl,rfl⟩ (by dsimp only;rw[hz];exact .cons _ (.refl _)) ?_
   rintro⟨j,v⟩ ⟨hj,hv⟩
   dsimp only at hj hv ⊢
   refine E6 ?_
   refine A6 (fun hc2=>?_) (fun hc2=>?_)
   ·have hj4:j < 4:=by omega
    have hsl:(w.set k v).length=64:=by rw[DH,hw]
    have hkw:k < w.length:=by omega
    refine wf ?_
    refine E6 ?_
    refine⟨(j+1,Qj v (s.getD (4*k+j) 0)),⟨by dsimp only;omega,?_⟩,by dsimp only;omega,⟨rfl,rfl,rfl,rfl,rfl,rfl,rfl,rfl⟩,?_⟩
    ·dsimp only
     rw[Bq,←hv]
    ·have e:(w.set k v).getD k 0=v:=by simp[List.getD,hkw]
     dsimp only
     rw[e,hce j (by omega),List.set_set]
     exact .refl _
   ·have hj4:j=4:=by omega
    subst hj4
    rw[Zf s k (by omega)]at hv
    refine E6 ?_
    refine⟨(k+1,w.set k v),⟨by dsimp only;omega,by dsimp only;rw[DH,hw],by dsimp only;rw[Zs h16',←he,hv]⟩,by dsimp only;omega,⟨rfl,rfl,rfl,rfl⟩,.refl _⟩
  ·obtain⟨j,rfl⟩: ∃ j,k=j+16:=⟨k - 16,by omega⟩
   refine Nc ?_
   refine GM (by decide+kernel) ?_
   refine Vt ?_
   refine Bp 29 ?_ ?_
   ·decide+kernel
   refine J9 ?_
   refine⟨(j+16+1,w.set (j+16) (Sr w j)),⟨by dsimp only;omega,by dsimp only;rw[DH,hw],by dsimp only;rw[Zr,←he]⟩,by dsimp only;omega,⟨rfl,rfl,rfl,rfl⟩,?_⟩
   dsimp only;rw[Sq];exact .refl _
 ·refine E6 ?_
  refine Fq rfl (.of_eq ?_) (hn:=(by rw[Gv,hw]:(eW w).length=64))
  have hkk:k=64:=by omega
  subst hkk
  rw[he];rfl⟩
end Go.Proofs
namespace Go.Q
open Go
section
variable {P:Program} {N:Nat} {all:Array Oper} {K:Env→List Res→Prop} {fl:List Bool} {os:List Oper} {ρ:Env} {L:List Res} {d:Nat} {ty:TypeId} {pos:String} {af:Array Edge}
theorem Y1 {T n E by_:Nat} [hT:UO P T n E] [hE:Ed P E 1 by_] [hS:Dc P E] {x y:Operand} {l:List Nat} {i:Nat} {kk:IntKind} (hx:ρ.ev x= .agg (eW l)) (hy:ρ.ev y= .raw (.int kk (i:Int))) (hl:l.length=n) (hi:i < n)
  (k:AQ P N all K fl.tail os (CT ρ d (.raw (.int .u32 ((l.getD i 0:Nat):Int)))) L) (hd:Nat.blt d N=true:=by rfl):AQ P N all K fl (⟨some d,.index T x y,ty,pos,af,none⟩::os) ρ L:=
 Bh hd (BC fun a w g ha hi'=>⟨.int .u32 ((l.getD i 0:Nat):Int),by
  have h1:=ha x (by simp[Op.operands])
  rw[hx]at h1
  have h2:=Ca ha (x:=y) (by simp[Op.operands]) hy
  obtain⟨z,z1,z2,_⟩:=hE.out
  show(do pure (Next.value (←Instr.index T (a.eval x) (a.eval y))):Sem Next).run P w=_
  rw[h2]
  generalize a.eval x=v at h1
  cases h1 with
  |agg hs hv=>
   rename_i vs
   have hil:i < l.length:=by omega
   have hiv:i < vs.size:=by rw[hs];simpa using hil
   have h3:vs[i]= .int .u32 ((l.getD i 0:Nat):Int):=by
    have:=hv i hiv (by simpa using hil)
    simp only[eW,BQ]at this
    rw[this.raw_inv]
    simp[List.getD,hil]
   have hn:(0:Int)≤(i:Int)∧(i:Int) < (n:Int):=⟨by omega,by omega⟩
   have hp:(part E vs ((i:Int).toNat*1)).run P w= .ok (.int .u32 ((l.getD i 0:Nat):Int)) w:=by
    unfold part
    rw[Sem.run_bind,N1 hS.out,E0,IG]
    simp only[Result.andThen_ok,BX,if_false,CQ hiv,h3,Sem.run_pure]
   simp only[Instr.index,asIntOf,Sem.run_bind,Sem.run_pure,Result.andThen_ok,IA hT.out,hn,and_self,if_true,sizeOf,typeInfo,run_program,z1,z2,hp],.raw _⟩) k
end
end Go.Q
namespace Go.Proofs
open Go Go.Q
attribute [local irreducible] ER AQ BG Fu
def v8 (v:List Nat):List Nat:= [v.getD 0 0,v.getD 1 0,v.getD 2 0,v.getD 3 0,v.getD 4 0,v.getD 5 0,v.getD 6 0,v.getD 7 0]
theorem uq {v:List Nat} (h:v.length=8):v8 v=v:=by
 match v,h with
 | [_,_,_,_,_,_,_,_],_=>rfl
instance oJ (h:List Nat) (s:Str) [hs:B4 (s.length=64)] [hh:B4 (h.length=8)]:C9 Tryz.prog 185 [.agg (eW h),.str s] (.agg (eW (NK h s))):=⟨by
 refine Au Tryz.func185 Tryz.ntmps185 rfl (rs:= [.cell 4 216]) rfl rfl fun hb LF=>?_
 have hl:=hh.out
 have hsl:=Ss s
 have j1:Cx (eW (List.replicate 64 0)) 64:=⟨rfl⟩
 have j2:Cx (eW (List.replicate 8 0)) 8:=⟨rfl⟩
 have j3:Cx (eW h) 8:=⟨by rw[Gv,hl]⟩
 have j4:Cx (eW rK) 64:=⟨rfl⟩
 have j5:Cx (eW (GZ s)) 64:=⟨by rw[Gv,hsl]⟩
 have hkl:rK.length=64:=rfl
 refine Jo fun b2=>?_
 refine Ig fun b4=>?_
 refine Ig fun b5=>?_
 refine Ig fun b6=>?_
 refine Ab (σ:=Nat × List Nat) (fun k=>k.1≤64∧k.2.length=8∧k.2=(List.range k.1).foldl (Mf (GZ s)) h) (fun k=>64 - k.1) (fun k=> [(2,.raw (.pointer (some ⟨b2,0,none⟩))),(4,.raw (.pointer (some ⟨b4,0,none⟩))),(5,.raw (.pointer (some ⟨b5,0,none⟩))),(6,.raw (.pointer (some ⟨b6,0,none⟩))),(7,.raw (.int .u32 ((k.2.getD 0 0:Nat):Int))),(8,.raw (.int .u32 ((k.2.getD 1 0:Nat):Int))),(9,.raw (.int .u32 ((k.2.getD 2 0:Nat):Int))),(10,.raw (.int .u32 ((k.2.getD 3 0:Nat):Int))),(11,.raw (.int .u32 ((k.2.getD 4 0:Nat):Int))),(12,.raw (.int .u32 ((k.2.getD 5 0:Nat):Int))),(13,.raw (.int .u32 ((k.2.getD 6 0:Nat):Int))),(14,.raw (.int .u32 ((k.2.getD 7 0:Nat):Int))),(39,.raw (.int .i64 k.1))]) (fun k=> .box b6 253 (eW rK):: .box b5 253 (eW (GZ s)):: .box b4 216 (eW (List.replicate 8 0)):: .box b2 216 (eW h)::LF) (0,h) ⟨by simp,hl,rfl⟩ ⟨rfl,rfl,rfl,rfl,rfl,rfl,rfl,rfl,rfl,rfl,rfl,rfl,rfl⟩ (.refl _) ?_
 rintro⟨k,v⟩ ⟨hk,hv,hve⟩
 dsimp only at hk hv hve ⊢
 refine E6 ?_
 refine A6 (fun hc=>?_) (fun hc=>?_)
 ·refine E6 ?_
  refine⟨(k+1,Mf (GZ s) v k),⟨by dsimp only;omega,rfl,by dsimp only;rw[Bq,←hve]⟩,by dsimp only;omega,⟨rfl,rfl,rfl,rfl,rfl,rfl,rfl,rfl,rfl,rfl,rfl,rfl,rfl⟩,.refl _⟩
 have hkk:k=64:=by omega
 subst hkk
 replace hve:v=Kx h s:=hve
 have hv8:=uq hv
 refine E6 ?_
 refine KH [.tmp 102,.tmp 103,.tmp 104,.tmp 105,.tmp 106,.tmp 107,.tmp 108,.tmp 109] (v8 v) rfl (yt (by rfl) (by rfl) (by rfl) (by rfl) (by rfl) (by rfl) (by rfl) (by rfl)) (by simp[v8]) (by simp[v8]) ?_
 rw[hv8]
 refine E6 ?_
 refine Ab (σ:=Nat × List Nat) (fun k=>k.1≤8∧k.2.length=8∧k.2=(List.range k.1).foldl (YG (Kx h s)) h) (fun k=>8 - k.1) (fun k=> [(2,.raw (.pointer (some ⟨b2,0,none⟩))),(4,.raw (.pointer (some ⟨b4,0,none⟩))),(110,.agg (eW v)),(111,.raw (.int .i64 k.1))]) (fun k=> .box b4 216 (eW (List.replicate 8 0)):: .box b2 216 (eW k.2)::LF) (0,h) ⟨by simp,hl,rfl⟩ ⟨rfl,rfl,rfl,rfl⟩ (.cons _ (.cons _ (.refl _))) ?_
 rintro⟨k,x⟩ ⟨hk,hx,hxe⟩
 dsimp only at hk hx hxe ⊢
 have j8:Cx (eW x) 8:=⟨by rw[Gv,hx]⟩
 refine E6 ?_
 refine A6 (fun hc=>?_) (fun hc=>?_)
 ·refine E6 ?_
  refine Y1 rfl rfl hv (by omega) ?_
  refine E6 ?_
  refine⟨(k+1,x.set k (NU (x.getD k 0) ((Kx h s).getD k 0))),⟨by dsimp only;omega,by dsimp only;rw[DH,hx],by dsimp only;rw[Bq,←hxe];rfl⟩,by dsimp only;omega,⟨rfl,rfl,rfl,rfl⟩,?_⟩
  rw[←hve]
  exact .refl _
 ·refine E6 ?_
  refine Fq rfl (.of_eq ?_) (hn:=(by rw[Gv,hx]:(eW x).length=8))
  have hkk:k=8:=by omega
  subst hkk
  rw[NK,hxe]⟩
end Go.Proofs
