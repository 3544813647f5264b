/- Contracts: changes; what is checked of a patch but its encoding (the reference's layer 16). -/
import Derived.Test.YtaibdmankdppkaaGreatDoorVah
import Derived.Test.YtaibdmankdppkaaGreatDoorVae
set_option linter.unusedSimpArgs false
set_option linter.unusedVariables false
set_option maxHeartbeats 8000000
namespace Go.Proofs
open Go Go.Q
attribute [local irreducible] EY AU BH Fk
theorem JW {c:Chg} (h:C0 c=0):c.lines.length≤2000:=by
 unfold C0 at h
 split at h
 ·omega
 split at h
 ·omega
 rename_i h2
 split at h
 ·omega
 split at h
 ·omega
 split at h
 ·omega
 split at h
 ·omega
 split at h
 ·unfold Mw at h
  split at h
  ·omega
  split at h
  ·omega
  ·omega
 ·rename_i h7
  simp only[Bool.not_eq_false,Fg,BQ,AA,Hp,h7,if_false]at h2
  omega
def Cz:List Chg→List Atm→List Atm × Int
 | [],own=>(own,0)
 |c::l,own=>if C0 c≠0 then([],C0 c)else if Ey c own≠0 then([],Ey c own)else Cz l (own++Df c own.length)
theorem LY {l:List Chg} {k:Nat} (hk:k < l.length) (own:List Atm):Cz (l.drop k) own=if C0 l[k]≠0 then([],C0 l[k])else if Ey l[k] own≠0 then([],Ey l[k] own)else Cz (l.drop (k+1)) (own++Df l[k] own.length):=by
 rw[Br hk,Cz]
instance uI (l:List Chg) (t:CD) [hs:Ay (l.length≤400)]:C9 Tryz.prog 163 [.slice (l.map eChg) t] (.tuple [.slice ((Cz l []).1.map eAtm) .ro,.raw (.int .i64 (Cz l []).2)]):=⟨by
 refine Av Tryz.func163 Tryz.ntmps163 rfl (rs:= [.tmp 2,.tmp 3]) rfl rfl fun hb LF=>?_
 have hl:=hs.out
 refine AX ?_
 refine EC 172 ?_
 refine AZ (σ:=Nat × CD × List Atm) (fun k=>k.1≤l.length∧k.2.2.length≤k.1*4001∧Cz l []=Cz (l.drop k.1) k.2.2) (fun k=>l.length - k.1) (fun k=> [(0,.slice (l.map eChg) t),(4,.slice (k.2.2.map eAtm) k.2.1),(5,.raw (.int .i64 k.1))]) (fun k=> .tok k.2.1 k.2.2.length 172::LF) (0,.nil,[]) ⟨by simp,by simp,by simp⟩ ⟨rfl,rfl,rfl⟩ (.refl _) ?_
 rintro⟨k,v,own⟩ ⟨hk,hlen,he⟩
 dsimp only at hk hlen he
 refine AX ?_
 refine A6 (fun hc=>?_) (fun hc=>?_)
 ·have hlt:k < l.length:=by omega
  rw[LY hlt]at he
  refine AX ?_
  refine AR (fun h1=>?_) (fun h1=>?_)
  ·refine AX ?_
   rw[if_pos h1]at he
   refine HD (.tuple2 ?_ (.of_eq ?_))
   ·rw[he];exact .ro _ _
   ·rw[he]
  rw[if_neg (by simp[h1])]at he
  refine AX ?_
  refine AR (fun h2=>?_) (fun h2=>?_)
  ·refine AX ?_
   rw[if_pos h2]at he
   refine HD (.tuple2 ?_ (.of_eq ?_))
   ·rw[he];exact .ro _ _
   ·rw[he]
  rw[if_neg (by simp[h2])]at he
  have hll:l[k].lines.length≤2000:=JW h1
  have hmm:=MB l[k] own.length
  have:Ay (l[k].lines.length≤2000∧(0:Int)≤own.length∧(own.length:Int)≤1000000000):=⟨hll,by omega,by omega⟩
  refine Gu fun v'=>?_
  refine⟨(k+1,v',own++Df l[k] own.length),⟨by dsimp only;omega,by dsimp only;rw[AD];omega,he⟩,by dsimp only;omega,⟨rfl,rfl,rfl⟩,.refl _⟩
 ·refine AX ?_
  have hkk:l.drop k= []:=Bu (by omega)
  rw[hkk]at he
  refine HD (.tuple2 ?_ (.of_eq ?_))
  ·rw[he];exact .ro _ _
  ·rw[he];rfl⟩
def CF (p:Pat):List Atm × Int:=
 if Je p.author=false then([],5)else if 1000 < (p.message.length:Int)then([],4)else if p.time < 0∨1099511627776 < p.time then([],2)else
 if Im p.deps≠0 then([],Im p.deps)else if(p.changes.length:Int)=0 then([],1)else if 400 < (p.changes.length:Int)then([],4)else Cz p.changes []
instance vZ (p:Pat):C9 Tryz.prog 113 [.agg (Ba p)] (.tuple [.slice ((CF p).1.map eAtm) .ro,.raw (.int .i64 (CF p).2)]):=⟨by
 refine Av Tryz.func113 Tryz.ntmps113 rfl (rs:= [.tmp 2,.tmp 3]) rfl rfl fun hb LF=>?_
 refine Cy fun b=>?_
 refine AO (fun h1=>?_) (fun h1=>?_)
 ·refine AX ?_
  rw[CF,if_pos (by simpa using h1)]
  refine HD ?_;exact .tuple2 (.ro _ _) (.refl _)
 rw[CF,if_neg (by simpa using h1)]
 refine AX ?_
 refine A6 (fun h2=>?_) (fun h2=>?_)
 ·refine AX ?_
  rw[if_pos h2]
  refine HD ?_;exact .tuple2 (.ro _ _) (.refl _)
 rw[if_neg h2]
 refine AX ?_
 refine BG [(20,.raw (.bool (decide (p.time < 0∨1099511627776 < p.time)))),(1,.raw (.pointer (some ⟨b,0,none⟩)))] (.box b 40 (Ba p)::LF) ?_ ?_
 ·repeat' (first|(refine A6 (fun h=>?_) (fun h=>?_)<;>refine AX ?_)|(refine AR (fun h=>?_) (fun h=>?_)<;>refine AX ?_)|(refine AO (fun h=>?_) (fun h=>?_)<;>refine AX ?_)|(refine Ao (fun h=>?_) (fun h=>?_)<;>(have h2:=h;(try simp only[AA,A8,AF,AJ]at h2);refine Bq ?_)))
  all_goals (refine⟨⟨Bh (by rfl) ?_,rfl⟩,.refl _⟩;first|(simp_all;done)|(simp_all;omega)|grind)
 refine AX ?_
 refine A6 (fun h3=>?_) (fun h3=>?_)
 ·refine AX ?_
  rw[if_pos h3]
  refine HD ?_;exact .tuple2 (.ro _ _) (.refl _)
 rw[if_neg h3]
 refine AX ?_
 refine AR (fun h4=>?_) (fun h4=>?_)
 ·refine AX ?_
  rw[if_pos h4]
  refine HD ?_;exact .tuple2 (.ro _ _) (.refl _)
 rw[if_neg (by simp[h4])]
 refine AX ?_
 refine A6 (fun h5=>?_) (fun h5=>?_)
 ·refine AX ?_
  rw[if_pos h5]
  refine HD ?_;exact .tuple2 (.ro _ _) (.refl _)
 rw[if_neg h5]
 refine AX ?_
 refine A6 (fun h6=>?_) (fun h6=>?_)
 ·refine AX ?_
  rw[if_pos h6]
  refine HD ?_;exact .tuple2 (.ro _ _) (.refl _)
 rw[if_neg h6]
 have:Ay (p.changes.length≤400):=⟨by omega⟩
 refine AX ?_
 refine HD ?_;exact .refl _⟩
def PO:Nat→Nat→Str
 |0,n=> [UInt8.ofNat (48+n)]
 |f+1,n=>if n < 10 then [UInt8.ofNat (48+n)]else PO f (n / 10)++ [UInt8.ofNat (48+n % 10)]
theorem TU: ∀ (f n:Nat),n≤f→PO f n=PO n n
 |0,n,h=>by have:n=0:=by omega
            subst this;rfl
 |f+1,n,h=>by
  by_cases hn:n < 10
  ·cases n with
   |zero=>simp[PO]
   |succ m=>simp only[PO,hn,if_true]
  ·obtain⟨m,rfl⟩: ∃ m,n=m+1:=⟨n - 1,by omega⟩
   simp only[PO,hn,if_false]
   rw[TU f ((m+1) / 10) (by omega),TU m ((m+1) / 10) (by omega)]
def Hr (n:Nat):Str:=PO n n
theorem IL {n:Nat} (h:n < 10):Hr n= [UInt8.ofNat (48+n)]:=by
 unfold Hr
 cases n with
 |zero=>simp[PO]
 |succ m=>simp only[PO,h,if_true]
theorem MG {n:Nat} (h: ¬n < 10):Hr n=Hr (n / 10)++ [UInt8.ofNat (48+n % 10)]:=by
 obtain⟨m,rfl⟩: ∃ m,n=m+1:=⟨n - 1,by omega⟩
 unfold Hr
 simp only[PO,h,if_false]
 rw[TU m ((m+1) / 10) (by omega)]
theorem Yn: ∀ (m n:Nat),n < 10 ^ (m+1)→(Hr n).length≤m+1
 |0,n,h=>by rw[IL (by omega)];simp
 |m+1,n,h=>by
  by_cases hn:n < 10
  ·rw[IL hn];simp
  ·rw[MG hn,AD]
   have:=Yn m (n / 10) (by rw[Nat.div_lt_iff_lt_mul (by omega)];rw[Nat.pow_succ]at h;omega)
   simp only[AN,Ae];omega
theorem Kb {n:Nat} (h:n≤140737488355328):(Hr n).length≤15:=Yn 14 n (by omega)
theorem SI: ∀ (n:Nat),n≤140737488355328→Q.Fn Tryz.prog 282 [.raw (.int .i64 (n:Int))] (.str (Hr n)):=by
 intro n
 induction n using Nat.strongRecOn with
 |_ n ih=>
 intro hn
 have ih': ∀ m:Nat,[Ay (m < n)]→C9 Tryz.prog 282 [.raw (.int .i64 (m:Int))] (.str (Hr m)):=fun m h=>⟨ih m h.out (by have:=h.out;omega)⟩
 refine Av Tryz.func282 Tryz.ntmps282 rfl (rs:= [.tmp 2]) rfl rfl fun hb LF=>?_
 refine AX ?_
 refine A6 (fun h2=>?_) (fun h2=>?_)
 ·refine AX ?_
  refine Aw (.of_eq ?_)
  rw[IL (by omega)]
 ·have:Ay (n / 10 < n):=⟨by omega⟩
  have hl:=Kb (n:=n / 10) (by omega)
  refine AX ?_
  refine YO (n:=10) (by rfl) (by rfl) (by decide) (by omega) ?_
  refine Bq ?_
  refine YN (n:=10) (by rfl) (by rfl) (by decide) ?_
  refine Bq ?_
  refine Aw (.of_eq ?_)
  rw[MG (n:=n) (by omega)]
def J9 (n:Int):Str:=if n < 0 then 45::Hr (-n).toNat else Hr n.toNat
theorem Om {n:Int} (h: -140737488355328≤n∧n≤140737488355328):(J9 n).length≤16:=by
 unfold J9
 split
 ·have:=Kb (n:=(-n).toNat) (by omega)
  simp only[AN];omega
 ·have:=Kb (n:=n.toNat) (by omega)
  omega
instance ui (n:Int) [hs:Ay (-140737488355328≤n∧n≤140737488355328)]:C9 Tryz.prog 282 [.raw (.int .i64 n)] (.str (J9 n)):=⟨by
 obtain⟨h0,h1⟩:=hs.out
 by_cases hn:n < 0
 ·have h3:C9 Tryz.prog 282 [.raw (.int .i64 (-n))] (.str (Hr (-n).toNat)):=⟨by
   have:=SI (-n).toNat (by omega)
   rwa [show(((-n).toNat:Nat):Int)= -n by omega]at this⟩
  refine Av Tryz.func282 Tryz.ntmps282 rfl (rs:= [.tmp 2]) rfl rfl fun hb LF=>?_
  refine AX ?_
  refine A6 (fun h1=>?_) (fun h1=>?_)
  ·refine AX ?_
   refine A6 (fun h2=>?_) (fun h2=>?_)
   ·omega
   ·have hl:=Kb (n:=(-n).toNat) (by omega)
    refine AX ?_
    refine Aw (.of_eq ?_)
    rw[J9,if_pos hn];rfl
  ·omega
 ·have:=SI n.toNat (by omega)
  rw[show((n.toNat:Nat):Int)=n by omega]at this
  rw[J9,if_neg hn];exact this⟩
def Cj (s:Str):Sx:= .mk false s []
def E6 (l:List Sx):Sx:= .mk true [] l
def RP (n:Int):Sx × Int:=if n < -1099511627776∨1099511627776 < n then(Sx.zero,2)else(Cj (J9 n),0)
instance ze (n:Int):C9 Tryz.prog 223 [.raw (.int .i64 n)] (.tuple [.agg (eSx (RP n).1),.raw (.int .i64 (RP n).2)]):=⟨by
 refine Av Tryz.func223 Tryz.ntmps223 rfl (rs:= [.cell 2 196,.tmp 3]) rfl rfl fun hb LF=>?_
 refine Cy fun b=>?_
 refine BG [(9,.raw (.bool (decide (n < -1099511627776∨1099511627776 < n)))),(0,.raw (.int .i64 n)),(2,.raw (.pointer (some ⟨b,0,none⟩)))] (.box b 196 (eSx Sx.zero)::LF) ?_ ?_
 ·repeat' (first|(refine A6 (fun h=>?_) (fun h=>?_)<;>refine AX ?_)|(refine AR (fun h=>?_) (fun h=>?_)<;>refine AX ?_)|(refine AO (fun h=>?_) (fun h=>?_)<;>refine AX ?_)|(refine Ao (fun h=>?_) (fun h=>?_)<;>(have h2:=h;(try simp only[AA,A8,AF,AJ]at h2);refine Bq ?_)))
  all_goals (refine⟨⟨Bh (by rfl) ?_,rfl,rfl⟩,.refl _⟩;first|(simp_all;done)|(simp_all;omega)|grind)
 refine AX ?_
 refine A6 (fun h=>?_) (fun h=>?_)
 ·refine AX ?_
  refine LK rfl (.of_eq ?_)
  rw[RP,if_pos h]
 ·have:Ay (-140737488355328≤n∧n≤140737488355328):=⟨by omega⟩
  refine AX ?_
  refine LK rfl (.of_eq ?_)
  rw[RP,if_neg h];rfl⟩
instance xq (s:Str):C9 Tryz.prog 168 [.str s] (.agg (eSx (Cj s))):=⟨by
 refine Av Tryz.func168 Tryz.ntmps168 rfl (rs:= [.cell 2 196]) rfl rfl fun hb LF=>?_
 refine Cy fun b=>?_
 refine Fi rfl (.of_eq ?_)
 rfl⟩
instance xM (l:List Sx) (t:CD):C9 Tryz.prog 167 [.slice (l.map eSx) t] (.agg (eSx (E6 l))):=⟨by
 refine Av Tryz.func167 Tryz.ntmps167 rfl (rs:= [.cell 2 196]) rfl rfl fun hb LF=>?_
 refine Cy fun b=>?_
 refine Fi rfl (.of_eq ?_)
 rfl⟩
def GG (n:Int):Sx:=(RP n).1
instance tP (n:Int):C9 Tryz.prog 169 [.raw (.int .i64 n)] (.agg (eSx (GG n))):=⟨by
 refine Av Tryz.func169 Tryz.ntmps169 rfl (rs:= [.cell 2 196]) rfl rfl fun hb LF=>?_
 refine Cy fun b=>?_
 refine Et fun b2=>?_
 refine Fi rfl (.of_eq ?_)
 rfl⟩
instance y7 (d:Dig):C9 Tryz.prog 218 [.agg (eDig d)] (.str d.bs):=⟨by
 refine Av Tryz.func218 Tryz.ntmps218 rfl (rs:= [.tmp 2]) rfl rfl fun hb LF=>?_
 refine Cy fun b=>?_
 refine Aw (.of_eq ?_)
 rfl⟩
def KD (d:Dig):Sx:=if d=Dig.zero then Cj []else Cj d.bs
instance uF (d:Dig):C9 Tryz.prog 164 [.agg (eDig d)] (.agg (eSx (KD d))):=⟨by
 refine Av Tryz.func164 Tryz.ntmps164 rfl (rs:= [.cell 2 196]) rfl rfl fun hb LF=>?_
 refine Cy fun b=>?_
 refine Et fun b2=>?_
 refine A6 (fun h=>?_) (fun h=>?_)
 ·refine AX ?_
  refine Fi rfl (.of_eq ?_)
  rw[KD,if_pos h]
 ·refine AX ?_
  refine Fi rfl (.of_eq ?_)
  rw[KD,if_neg h]⟩
def GF (x:Ident):Sx:=E6 [KD x.patch,GG x.n]
instance mE (x:Ident):C9 Tryz.prog 219 [.agg (eIdent x)] (.agg (eSx (GF x))):=⟨by
 refine Av Tryz.func219 Tryz.ntmps219 rfl (rs:= [.cell 2 196]) rfl rfl fun hb LF=>?_
 refine aW fun b=>?_
 refine me fun b2=>?_
 refine BX 8 ?_ ?_
 ·decide+kernel
 refine Bq ?_
 refine Fi rfl (.of_eq ?_)
 rfl⟩
def J7 (l:List Ident):Sx:=E6 (l.map GF)
instance x8 (l:List Ident) (t:CD) [hs:Ay (l.length≤1000000)]:C9 Tryz.prog 220 [.slice (l.map eIdent) t] (.agg (eSx (J7 l))):=⟨by
 refine Av Tryz.func220 Tryz.ntmps220 rfl (rs:= [.cell 2 196]) rfl rfl fun hb LF=>?_
 have hlen:=hs.out
 refine Cy fun b=>?_
 refine EC 3 ?_
 refine AZ (σ:=Nat × CD × List Sx) (fun k=>k.1≤l.length∧k.2.2=(l.take k.1).map GF) (fun k=>l.length - k.1) (fun k=> [(0,.slice (l.map eIdent) t),(2,.raw (.pointer (some ⟨b,0,none⟩))),(3,.slice (k.2.2.map eSx) k.2.1),(4,.raw (.int .i64 k.1))]) (fun k=> .tok k.2.1 k.2.2.length 3:: .box b 196 (eSx Sx.zero)::LF) (0,.nil,[]) ⟨by simp,by simp⟩ ⟨rfl,rfl,rfl,rfl⟩ (.refl _) ?_
 rintro⟨k,v,out⟩ ⟨hk,he⟩
 dsimp only at hk he
 have hol:out.length=k:=by rw[he];simp;omega
 refine AX ?_
 refine A6 (fun hc=>?_) (fun hc=>?_)
 ·have hlt:k < l.length:=by omega
  refine Gu fun v'=>?_
  refine⟨(k+1,v',out++ [GF l[k]]),⟨by dsimp only;omega,?_⟩,by dsimp only;omega,⟨rfl,rfl,rfl,rfl⟩,.refl _⟩
  dsimp only
  rw[A7 hlt,Au,he];rfl
 ·refine AX ?_
  refine Fi rfl (.of_eq ?_)
  rw[AB (by omega)]at he
  rw[J7,←he]⟩
def P5:Nat→Sx→Prop
 |0,_=>False
 |d+1,x=>(x.isList=false∧x.list= []∧x.atom.length≤65536)∨(x.isList=true∧x.atom= []∧ ∀ y∈x.list,P5 d y)
def Ic:Nat→Sx→Nat
 |0,_=>0
 |d+1,x=>if x.isList then 1+(x.list.map (Ic d)).sum else 1
def Dq:Nat→Sx→Str
 |0,_=> []
 |d+1,x=>if x.isList then 40::(x.list.flatMap (Dq d)++ [41])else Hr x.atom.length++58::x.atom
theorem L5 {l:List Nat} {k:Nat}:(l.take k).sum≤l.sum:=by
 conv=>rhs;rw[←C6 k l,FH]
 omega
theorem Zz: ∀ (d:Nat) (x:Sx) (limit depth:Int),P5 d x→(Ic d x:Int)≤limit→limit≤1000000→(d:Int)≤depth→depth≤1000→Q.Fn Tryz.prog 280 [.agg (eSx x),.raw (.int .i64 limit),.raw (.int .i64 depth)] (.raw (.int .i64 (Ic d x:Int)))
 |0,x,limit,depth,hw,_,_,_,_=>hw.elim
 |d+1,x,limit,depth,hw,hn,hl,hd,hd2=>by
  have ih: ∀ (y:Sx) (lim dep:Int),[Ay (P5 d y∧(Ic d y:Int)≤lim∧lim≤1000000∧(d:Int)≤dep∧dep≤1000)]→C9 Tryz.prog 280 [.agg (eSx y),.raw (.int .i64 lim),.raw (.int .i64 dep)] (.raw (.int .i64 (Ic d y:Int))):=fun y lim dep h=>⟨by
   obtain⟨h1,h2,h3,h4,h5⟩:=h.out
   exact Zz d y lim dep h1 h2 h3 h4 h5⟩
  have hpos:1≤Ic (d+1) x:=by unfold Ic;split<;>omega
  refine Av Tryz.func280 Tryz.ntmps280 rfl (rs:= [.tmp 6]) rfl rfl fun hb LF=>?_
  refine Cy fun b=>?_
  refine Ao (fun hp=>?_) (fun hp=>?_)
  ·have:=BP hp;omega
  refine Bq ?_
  refine A6 (fun h1=>?_) (fun h1=>?_)
  ·omega
  refine AX ?_
  refine AO (fun h2=>?_) (fun h2=>?_)
  ·refine AX ?_
   refine Aw (.of_eq ?_)
   have:x.isList=false:=by simpa using h2
   simp[Ic,this]
  have hL:x.isList=true:=by simpa using h2
  rcases hw with ⟨h3,_⟩|⟨_,_,hw⟩
  ·rw[hL]at h3;cases h3
  have hnd:Ic (d+1) x=1+(x.list.map (Ic d)).sum:=by simp[Ic,hL]
  rw[hnd]at hn ⊢
  have hlen:x.list.length≤140737488355328:=by
   have:=(hb (.agg (eSx x)) (by simp)).agg_at (c:= .slice (x.list.map eSx) .ro) (by rw[Fj];simp)
   exact this.slice_map
  refine AX ?_
  refine AZ (σ:=Nat) (fun k=>k≤x.list.length) (fun k=>x.list.length - k) (fun k=> [(1,.raw (.int .i64 limit)),(2,.raw (.int .i64 depth)),(3,.raw (.pointer (some ⟨b,0,none⟩))),(7,.raw (.int .i64 ((1+((x.list.map (Ic d)).take k).sum:Nat):Int))),(8,.raw (.int .i64 k))]) (fun _=> .box b 196 (eSx x)::LF) 0 (by simp) ⟨rfl,rfl,rfl,by simp;rfl,rfl⟩ (.refl _) ?_
  intro k hk
  have hsk:=L5 (l:=x.list.map (Ic d)) (k:=k)
  have hsk1:=L5 (l:=x.list.map (Ic d)) (k:=k+1)
  refine AX ?_
  refine Ao (fun hp=>?_) (fun hp=>?_)
  ·have hc:=BP hp
   have hlt:k < x.list.length:=by omega
   have e:((x.list.map (Ic d)).take (k+1)).sum=((x.list.map (Ic d)).take k).sum+Ic d x.list[k]:=by
    rw[A7 (by simpa using hlt),FH];simp
   refine Bq ?_
   refine A6 (fun h4=>?_) (fun h4=>?_)
   ·have:Ay (P5 d x.list[k]∧(Ic d x.list[k]:Int)≤limit - ((1+((x.list.map (Ic d)).take k).sum:Nat):Int)∧limit - ((1+((x.list.map (Ic d)).take k).sum:Nat):Int)≤1000000∧(d:Int)≤depth - 1∧depth - 1≤1000):=⟨hw _ (AH hlt),by omega,by omega,by omega,by omega⟩
    refine AX ?_
    refine⟨k+1,by omega,by dsimp only;omega,⟨rfl,rfl,rfl,?_,rfl⟩,.refl _⟩
    show PV.raw (Value.int .i64 _)=PV.raw (Value.int .i64 _)
    rw[e];congr 2;omega
   ·omega
  ·have hc:=Bl hp
   refine Bq ?_
   refine Aw (.of_eq ?_)
   rw[AB (by simp;omega)]
theorem aB: ∀ (d:Nat) (x:Sx),P5 d x→Q.Fn Tryz.prog 281 [.agg (eSx x)] (.raw (.int .i64 0))
 |0,x,hw=>hw.elim
 |d+1,x,hw=>by
  have ih: ∀ (y:Sx),[Ay (P5 d y)]→C9 Tryz.prog 281 [.agg (eSx y)] (.raw (.int .i64 0)):=fun y h=>⟨aB d y h.out⟩
  refine Av Tryz.func281 Tryz.ntmps281 rfl (rs:= [.tmp 2]) rfl rfl fun hb LF=>?_
  have hlen:x.list.length≤140737488355328:=by
   have:=(hb (.agg (eSx x)) (by simp)).agg_at (c:= .slice (x.list.map eSx) .ro) (by rw[Fj];simp)
   exact this.slice_map
  refine Cy fun b=>?_
  refine AO (fun h2=>?_) (fun h2=>?_)
  ·have hL:x.isList=false:=by simpa using h2
   rcases hw with ⟨_,h3,h4⟩|⟨h3,_⟩
   ·refine AX ?_
    refine A6 (fun h5=>?_) (fun h5=>?_)
    ·rw[h3]at h5;simp at h5
    refine AX ?_
    refine A6 (fun h6=>?_) (fun h6=>?_)
    ·omega
    refine AX ?_
    exact Aw (.refl _)
   ·rw[hL]at h3;cases h3
  have hL:x.isList=true:=by simpa using h2
  rcases hw with ⟨h3,_⟩|⟨_,ha,hw⟩
  ·rw[hL]at h3;cases h3
  refine AX ?_
  refine AR (fun h5=>?_) (fun h5=>?_)
  ·exact absurd ha h5
  refine AX ?_
  refine AZ (σ:=Nat) (fun k=>k≤x.list.length) (fun k=>x.list.length - k) (fun k=> [(1,.raw (.pointer (some ⟨b,0,none⟩))),(3,.raw (.int .i64 k))]) (fun _=> .box b 196 (eSx x)::LF) 0 (by simp) ⟨rfl,rfl⟩ (.refl _) ?_
  intro k hk
  refine AX ?_
  refine A6 (fun hc=>?_) (fun hc=>?_)
  ·have hlt:k < x.list.length:=by omega
   have:Ay (P5 d x.list[k]):=⟨hw _ (AH hlt)⟩
   refine AX ?_
   exact⟨k+1,by omega,by dsimp only;omega,⟨rfl,rfl⟩,.refl _⟩
  ·refine AX ?_
   exact Aw (.refl _)
def oD (x:Sx):Prop:=P5 8 x∧Ic 8 x≤20000
instance vq (x:Sx) [hs:Ay (oD x)]:C9 Tryz.prog 221 [.agg (eSx x)] (.raw (.int .i64 0)):=⟨by
 obtain⟨h1,h2⟩:=hs.out
 have i1:C9 Tryz.prog 280 [.agg (eSx x),.raw (.int .i64 20000),.raw (.int .i64 12)] (.raw (.int .i64 (Ic 8 x:Int))):=⟨Zz 8 x 20000 12 h1 (by omega) (by omega) (by omega) (by omega)⟩
 have i2:C9 Tryz.prog 281 [.agg (eSx x)] (.raw (.int .i64 0)):=⟨aB 8 x h1⟩
 refine Av Tryz.func221 Tryz.ntmps221 rfl (rs:= [.tmp 2]) rfl rfl fun hb LF=>?_
 refine Cy fun b=>?_
 refine A6 (fun h=>?_) (fun h=>?_)
 ·omega
 refine AX ?_
 exact Aw (.refl _)⟩
theorem Iv {α β:Type} {l:List α} {f:α→List β} {k:Nat} (h:k < l.length):(l.take (k+1)).flatMap f=(l.take k).flatMap f++f l[k]:=by
 rw[A7 h,K2];simp
theorem JN {α β:Type} {l:List α} {f:α→List β} {k:Nat}:((l.take k).flatMap f).length≤(l.flatMap f).length:=by
 conv=>rhs;rw[←C6 k l,K2,AD]
 omega
theorem Rr {α β:Type} {l:List α} {f:α→List β} {a:α} (h:a∈l):(f a).length≤(l.flatMap f).length:=by
 induction l with
 |nil=>cases h
 |cons x l ih=>
  rw[DN,AD]
  rcases AG.1 h with rfl|h
  ·omega
  ·have:=ih h;omega
theorem Vz: ∀ (d:Nat) (x:Sx),P5 d x→(Dq d x).length≤1000000000→Q.Fn Tryz.prog 222 [.agg (eSx x)] (.str (Dq d x))
 |0,x,hw,_=>hw.elim
 |d+1,x,hw,hl=>by
  have ih: ∀ (y:Sx),[Ay (P5 d y∧(Dq d y).length≤1000000000)]→C9 Tryz.prog 222 [.agg (eSx y)] (.str (Dq d y)):=fun y h=>⟨Vz d y h.out.1 h.out.2⟩
  refine Av Tryz.func222 Tryz.ntmps222 rfl (rs:= [.tmp 2]) rfl rfl fun hb LF=>?_
  have hlen:x.list.length≤140737488355328:=by
   have:=(hb (.agg (eSx x)) (by simp)).agg_at (c:= .slice (x.list.map eSx) .ro) (by rw[Fj];simp)
   exact this.slice_map
  refine Cy fun b=>?_
  refine AO (fun h2=>?_) (fun h2=>?_)
  ·have hL:x.isList=false:=by simpa using h2
   rcases hw with ⟨_,h3,h4⟩|⟨h3,_⟩
   ·have:Ay (-140737488355328≤(x.atom.length:Int)∧(x.atom.length:Int)≤140737488355328):=⟨by omega,by omega⟩
    have hd:=Om (n:=(x.atom.length:Int)) ⟨by omega,by omega⟩
    refine AX ?_
    refine Aw (.of_eq ?_)
    have e:J9 (x.atom.length:Int)=Hr x.atom.length:=by
     rw[J9,if_neg (by omega)];rfl
    simp[Dq,hL,e]
   ·rw[hL]at h3;cases h3
  have hL:x.isList=true:=by simpa using h2
  rcases hw with ⟨h3,_⟩|⟨_,ha,hw⟩
  ·rw[hL]at h3;cases h3
  have he:Dq (d+1) x=40::(x.list.flatMap (Dq d)++ [41]):=by simp[Dq,hL]
  rw[he]at hl ⊢
  simp only[AN,AD,Ae]at hl
  refine AX ?_
  refine AZ (σ:=Nat × Str) (fun k=>k.1≤x.list.length∧k.2=40::(x.list.take k.1).flatMap (Dq d)) (fun k=>x.list.length - k.1) (fun k=> [(1,.raw (.pointer (some ⟨b,0,none⟩))),(3,.str k.2),(4,.raw (.int .i64 k.1))]) (fun _=> .box b 196 (eSx x)::LF) (0,[40]) ⟨by simp,by simp⟩ ⟨rfl,rfl,rfl⟩ (.refl _) ?_
  rintro⟨k,s⟩ ⟨hk,hs⟩
  dsimp only at hk hs
  have hsl:s.length≤1+(x.list.flatMap (Dq d)).length:=by
   rw[hs,AN]
   have:=JN (l:=x.list) (f:=Dq d) (k:=k)
   omega
  refine AX ?_
  refine A6 (fun hc=>?_) (fun hc=>?_)
  ·have hlt:k < x.list.length:=by omega
   have hel:(Dq d x.list[k]).length≤(x.list.flatMap (Dq d)).length:=Rr (AH hlt)
   have:Ay (P5 d x.list[k]∧(Dq d x.list[k]).length≤1000000000):=⟨hw _ (AH hlt),by omega⟩
   refine AX ?_
   refine⟨(k+1,s++Dq d x.list[k]),⟨by dsimp only;omega,?_⟩,by dsimp only;omega,⟨rfl,rfl,rfl⟩,.refl _⟩
   dsimp only
   rw[Iv hlt,hs,B3]
  ·refine AX ?_
   refine Aw (.of_eq ?_)
   rw[hs,AB (by omega)];rfl
instance ug (x:Sx) [hs:Ay (oD x∧(Dq 8 x).length≤1000000000)]:C9 Tryz.prog 166 [.agg (eSx x)] (.tuple [.str (Dq 8 x),.raw (.int .i64 0)]):=⟨by
 obtain⟨h1,h2⟩:=hs.out
 have:Ay (oD x):=⟨h1⟩
 have i2:C9 Tryz.prog 222 [.agg (eSx x)] (.str (Dq 8 x)):=⟨Vz 8 x h1.1 h2⟩
 refine Av Tryz.func166 Tryz.ntmps166 rfl (rs:= [.tmp 2,.tmp 3]) rfl rfl fun hb LF=>?_
 refine Cy fun b=>?_
 refine HD ?_
 exact .refl _⟩
def K3 (c:Chg):List Sx:=if 2≤c.kind∧c.kind≤6 then [GF c.file]else []
def IW (c:Chg):List Sx:=if c.kind=1 then [GG c.type]else if c.kind=2 then [GF c.parent,Cj c.name]else if c.kind=3 then [GG c.mode]else if c.kind=4 then [Cj c.data]else if c.kind=5∨c.kind=6 then [GF c.after,GF c.before]else []
def L7 (c:Chg):List Sx:=if c.kind=5 then [E6 (c.lines.map Cj)]else if c.kind≠1 then [J7 c.over]else []
def Ku (c:Chg):Sx:=E6 (([GG c.kind]++K3 c++IW c)++L7 c)
theorem RL (c:Chg):(K3 c).length≤1:=by unfold K3;split<;>simp
theorem RK (c:Chg):(IW c).length≤2:=by
 unfold IW
 repeat' split
 all_goals simp
instance uJ (c:Chg) [hs:Ay (c.lines.length≤100000∧c.over.length≤100000)]:C9 Tryz.prog 165 [.agg (eChg c)] (.agg (eSx (Ku c))):=⟨by
 refine Av Tryz.func165 Tryz.ntmps165 rfl (rs:= [.cell 2 196]) rfl rfl fun hb LF=>?_
 obtain⟨hl1,hl2⟩:=hs.out
 have i1:Ay (c.over.length≤1000000):=⟨by omega⟩
 have hc1:=RL c
 have hc2:=RK c
 refine aW fun b=>?_
 refine CA fun b2=>?_
 refine s9 fun t=>?_
 refine BG [(17,.raw (.bool (decide (2≤c.kind∧c.kind≤6)))),(1,.raw (.pointer (some ⟨b,0,none⟩))),(2,.raw (.pointer (some ⟨b2,0,none⟩))),(3,.slice ([GG c.kind].map eSx) t)] (.tok t [GG c.kind].length 3:: .box b2 196 (eSx Sx.zero):: .box b 73 (eChg c)::LF) ?_ ?_
 ·repeat' (first|(refine A6 (fun h=>?_) (fun h=>?_)<;>refine AX ?_)|(refine AR (fun h=>?_) (fun h=>?_)<;>refine AX ?_)|(refine AO (fun h=>?_) (fun h=>?_)<;>refine AX ?_)|(refine Ao (fun h=>?_) (fun h=>?_)<;>(have h2:=h;(try simp only[AA,A8,AF,AJ]at h2);refine Bq ?_)))
  all_goals (refine⟨⟨Bh (by rfl) ?_,rfl,rfl,rfl⟩,.refl _⟩;first|(simp_all;done)|(simp_all;omega)|grind)
 refine AX ?_
 refine Ca (σ:=CD × List Sx) (fun s=>s.2= [GG c.kind]++K3 c) (fun s=> [(1,.raw (.pointer (some ⟨b,0,none⟩))),(2,.raw (.pointer (some ⟨b2,0,none⟩))),(3,.slice (s.2.map eSx) s.1)]) (fun s=> .tok s.1 s.2.length 3:: .box b2 196 (eSx Sx.zero):: .box b 73 (eChg c)::LF) ?_ ?_
 ·refine A6 (fun h=>?_) (fun h=>?_)
  ·refine Gu fun t'=>?_
   exact⟨(t',[GG c.kind]++ [GF c.file]),by dsimp only;rw[K3,if_pos h],⟨rfl,rfl,rfl⟩,.refl _⟩
  ·refine AX ?_
   exact⟨(t,[GG c.kind]),by dsimp only;rw[K3,if_neg h];rfl,⟨rfl,rfl,rfl⟩,.refl _⟩
 rintro⟨t,out⟩ ho
 dsimp only at ho
 have hol:out.length≤2:=by rw[ho,AD,Ax];omega
 refine AX ?_
 refine Ca (σ:=CD × List Sx) (fun s=>s.2= [GG c.kind]++K3 c++IW c) (fun s=> [(1,.raw (.pointer (some ⟨b,0,none⟩))),(2,.raw (.pointer (some ⟨b2,0,none⟩))),(3,.slice (s.2.map eSx) s.1)]) (fun s=> .tok s.1 s.2.length 3:: .box b2 196 (eSx Sx.zero):: .box b 73 (eChg c)::LF) ?_ ?_
 ·refine A6 (fun h1=>?_) (fun h1=>?_)
  ·refine Gu fun t'=>?_
   exact⟨(t',out++ [GG c.type]),by dsimp only;rw[IW,if_pos h1,ho],⟨rfl,rfl,rfl⟩,.refl _⟩
  refine AX ?_
  refine A6 (fun h2=>?_) (fun h2=>?_)
  ·refine PH ?_
   refine BX 8 ?_ ?_
   ·decide+kernel
   refine GD fun t'=>?_
   exact⟨(t',out++ [GF c.parent,Cj c.name]),by dsimp only;rw[IW,if_neg h1,if_pos h2,ho],⟨rfl,rfl,rfl⟩,.refl _⟩
  refine AX ?_
  refine A6 (fun h3=>?_) (fun h3=>?_)
  ·refine Gu fun t'=>?_
   exact⟨(t',out++ [GG c.mode]),by dsimp only;rw[IW,if_neg h1,if_neg h2,if_pos h3,ho],⟨rfl,rfl,rfl⟩,.refl _⟩
  refine AX ?_
  refine A6 (fun h4=>?_) (fun h4=>?_)
  ·refine Gu fun t'=>?_
   exact⟨(t',out++ [Cj c.data]),by dsimp only;rw[IW,if_neg h1,if_neg h2,if_neg h3,if_pos h4,ho],⟨rfl,rfl,rfl⟩,.refl _⟩
  refine AX ?_
  refine A6 (fun h5=>?_) (fun h5=>?_)
  ·refine PH ?_
   refine Kc (t:=true) (by show PV.raw (.bool (decide (c.kind=5)))=_;rw[BC h5]) (fun _=>?_) (by simp)
   refine PH ?_
   refine BX 8 ?_ ?_
   ·decide+kernel
   refine GD fun t'=>?_
   exact⟨(t',out++ [GF c.after,GF c.before]),by dsimp only;rw[IW,if_neg h1,if_neg h2,if_neg h3,if_neg h4,if_pos (.inl h5),ho],⟨rfl,rfl,rfl⟩,.refl _⟩
  refine AX ?_
  refine A6 (fun h6=>?_) (fun h6=>?_)
  ·refine PH ?_
   refine BX 8 ?_ ?_
   ·decide+kernel
   refine GD fun t'=>?_
   exact⟨(t',out++ [GF c.after,GF c.before]),by dsimp only;rw[IW,if_neg h1,if_neg h2,if_neg h3,if_neg h4,if_pos (.inr h6),ho],⟨rfl,rfl,rfl⟩,.refl _⟩
  ·refine AX ?_
   exact⟨(t,out),by dsimp only;rw[IW,if_neg h1,if_neg h2,if_neg h3,if_neg h4,if_neg (by rintro(h|h);exact h5 h;exact h6 h),BJ,ho],⟨rfl,rfl,rfl⟩,.refl _⟩
 clear ho hol
 rintro⟨t,out⟩ ho
 dsimp only at ho
 have hol:out.length≤4:=by rw[ho,AD,AD,Ax];omega
 refine AX ?_
 refine A6 (fun h5=>?_) (fun h5=>?_)
 ·refine AX ?_
  refine EC 3 ?_
  refine AZ (σ:=Nat × CD × List Sx) (fun k=>k.1≤c.lines.length∧k.2.2=(c.lines.take k.1).map Cj) (fun k=>c.lines.length - k.1) (fun k=> [(1,.raw (.pointer (some ⟨b,0,none⟩))),(2,.raw (.pointer (some ⟨b2,0,none⟩))),(3,.slice (out.map eSx) t),(4,.slice (k.2.2.map eSx) k.2.1),(5,.raw (.int .i64 k.1))]) (fun k=> .tok k.2.1 k.2.2.length 3:: .tok t out.length 3:: .box b2 196 (eSx Sx.zero):: .box b 73 (eChg c)::LF) (0,.nil,[]) ⟨by simp,by simp⟩ ⟨rfl,rfl,rfl,rfl,rfl⟩ (.refl _) ?_
  rintro⟨k,v,l⟩ ⟨hk,he⟩
  dsimp only at hk he
  have hll:l.length=k:=by rw[he];simp;omega
  refine AX ?_
  refine A6 (fun hc=>?_) (fun hc=>?_)
  ·have hlt:k < c.lines.length:=by omega
   refine Gu fun v'=>?_
   refine⟨(k+1,v',l++ [Cj c.lines[k]]),⟨by dsimp only;omega,?_⟩,by dsimp only;omega,⟨rfl,rfl,rfl,rfl,rfl⟩,.refl _⟩
   dsimp only
   rw[A7 hlt,Au,he];rfl
  ·refine Gu fun v'=>?_
   refine Fi rfl (.of_eq ?_)
   rw[AB (by omega)]at he
   rw[Ku,L7,if_pos h5,←he,ho]
 ·refine AX ?_
  refine AR (fun h6=>?_) (fun h6=>?_)
  ·refine Gu fun v'=>?_
   refine Fi rfl (.of_eq ?_)
   rw[Ku,L7,if_neg h5,if_pos h6,ho]
  ·refine AX ?_
   refine Fi rfl (.of_eq ?_)
   rw[Ku,L7,if_neg h5,if_neg (by simp[h6]),BJ,ho]⟩
def Wx (p:Pat):Sx:=E6 [Cj [113,117,105,108,116,49],Cj p.author,Cj p.message,GG p.time,E6 (p.deps.map KD),E6 (p.changes.map Ku)]
def Ni (p:Pat):Str:=Dq 8 (Wx p)
structure W0 (p:Pat):Prop where
 deps:p.deps.length≤100000
 chgs:p.changes.length≤100000
 chg: ∀ c∈p.changes,c.lines.length≤100000∧c.over.length≤100000
 ok:oD (Wx p)
 len:(Ni p).length≤1000000000
def KE (p:Pat):Str × Int:=if 65536 < ((Ni p).length:Int)then([],4)else(Ni p,0)
instance uE (p:Pat) [hs:Ay (W0 p)]:C9 Tryz.prog 114 [.agg (Ba p)] (.tuple [.str (KE p).1,.raw (.int .i64 (KE p).2)]):=⟨by
 refine Av Tryz.func114 Tryz.ntmps114 rfl (rs:= [.tmp 2,.tmp 3]) rfl rfl fun hb LF=>?_
 have hd:=hs.out.deps
 have hch:=hs.out.chgs
 refine Cy fun b=>?_
 refine EC 3 ?_
 refine EC 3 ?_
 refine AZ (σ:=Nat × CD × List Sx) (fun k=>k.1≤p.deps.length∧k.2.2=(p.deps.take k.1).map KD) (fun k=>p.deps.length - k.1) (fun k=> [(1,.raw (.pointer (some ⟨b,0,none⟩))),(4,.slice (k.2.2.map eSx) k.2.1),(5,.slice [] .nil),(6,.raw (.int .i64 k.1))]) (fun k=> .tok k.2.1 k.2.2.length 3:: .tok .nil 0 3:: .box b 40 (Ba p)::LF) (0,.nil,[]) ⟨by simp,by simp⟩ ⟨rfl,rfl,rfl,rfl⟩ (.refl _) ?_
 rintro⟨k,v,l⟩ ⟨hk,he⟩
 dsimp only at hk he
 have hll:l.length=k:=by rw[he];simp;omega
 refine AX ?_
 refine A6 (fun hc=>?_) (fun hc=>?_)
 ·have hlt:k < p.deps.length:=by omega
  refine Gu fun v'=>?_
  refine⟨(k+1,v',l++ [KD p.deps[k]]),⟨by dsimp only;omega,?_⟩,by dsimp only;omega,⟨rfl,rfl,rfl,rfl⟩,.refl _⟩
  dsimp only
  rw[A7 hlt,Au,he];rfl
 rw[AB (by omega)]at he
 clear hll
 refine AX ?_
 refine AZ (σ:=Nat × CD × List Sx) (fun k=>k.1≤p.changes.length∧k.2.2=(p.changes.take k.1).map Ku) (fun k=>p.changes.length - k.1) (fun k=> [(1,.raw (.pointer (some ⟨b,0,none⟩))),(4,.slice (l.map eSx) v),(5,.slice (k.2.2.map eSx) k.2.1),(7,.raw (.int .i64 k.1))]) (fun k=> .tok k.2.1 k.2.2.length 3:: .box b 40 (Ba p)::LF) (0,.nil,[]) ⟨by simp,by simp⟩ ⟨rfl,rfl,rfl,rfl⟩ (.cons _ (.refl _)) ?_
 rintro⟨k,v,m⟩ ⟨hk,hm⟩
 dsimp only at hk hm
 have hml:m.length=k:=by rw[hm];simp;omega
 refine AX ?_
 refine A6 (fun hc=>?_) (fun hc=>?_)
 ·have hlt:k < p.changes.length:=by omega
  have:Ay (p.changes[k].lines.length≤100000∧p.changes[k].over.length≤100000):=⟨hs.out.chg _ (AH hlt)⟩
  refine Gu fun v'=>?_
  refine⟨(k+1,v',m++ [Ku p.changes[k]]),⟨by dsimp only;omega,?_⟩,by dsimp only;omega,⟨rfl,rfl,rfl,rfl⟩,.refl _⟩
  dsimp only
  rw[A7 hlt,Au,hm];rfl
 rw[AB (by omega)]at hm
 have e:Wx p=E6 [Cj [113,117,105,108,116,49],Cj p.author,Cj p.message,GG p.time,E6 l,E6 m]:=by rw[Wx,←he,←hm]
 have i1:Ay (oD (E6 [Cj [113,117,105,108,116,49],Cj p.author,Cj p.message,GG p.time,E6 l,E6 m])∧(Dq 8 (E6 [Cj [113,117,105,108,116,49],Cj p.author,Cj p.message,GG p.time,E6 l,E6 m])).length≤1000000000):=by
  rw[←e];exact⟨hs.out.ok,hs.out.len⟩
 refine AX ?_
 refine A6 (fun h=>?_) (fun h=>?_)
 ·refine AX ?_
  refine HD ?_
  rw[←e]at h
  have h':65536 < ((Ni p).length:Int):=h
  rw[KE,if_pos h']
  exact .refl _
 ·refine AX ?_
  refine HD ?_
  rw[←e]at h
  have h': ¬65536 < ((Ni p).length:Int):=h
  rw[KE,if_neg h',Ni,e]
  exact .refl _⟩
end Go.Proofs
namespace Go.Q
open Go
section
variable {P:Program} {N:Nat} {all:Array Oper} {K:Env→List Res→Prop} {fl:List Bool} {os:List Oper} {ρ:Env} {L:List Res} {Q:PPost} {c:Code} {d:Nat} {ty:TypeId} {pos:String} {af:Array Edge}
theorem ef {T n E sz by_:Nat} [hT:Ux P T n E] [hE:EZ P E sz by_] {x y:Operand} {b off:Nat} {kk:IntKind} {i:Nat} (hx:ρ.ev x= .raw (.pointer (some ⟨b,off,none⟩))) (hy:ρ.ev y= .raw (.int kk (@OfNat.ofNat Int i _))) (hi:i < n)
  (k:AU P N all K fl.tail os (CR ρ d (.raw (.pointer (some ⟨b,off+(@OfNat.ofNat Nat i _)*sz,none⟩)))) L) (hd:Nat.blt d N=true:=by rfl):AU P N all K fl (⟨some d,.indexAddr T x y,ty,pos,af,none⟩::os) ρ L:=
 QF (i:=i) hx hy hi k hd
theorem eh {T n E sz by_:Nat} [hT:Ux P T n E] [hE:EZ P E sz by_] {x y:Operand} {b off:Nat} {kk:IntKind} {i:Int} (hx:ρ.ev x= .raw (.pointer (some ⟨b,off,none⟩))) (hy:ρ.ev y= .raw (.int kk i)) (h0:0≤i) (hi:i.toNat < n)
  (k:AU P N all K fl.tail os (CR ρ d (.raw (.pointer (some ⟨b,off+i.toNat*sz,none⟩)))) L) (hd:Nat.blt d N=true:=by rfl):AU P N all K fl (⟨some d,.indexAddr T x y,ty,pos,af,none⟩::os) ρ L:=
 QF (i:=i.toNat) hx (by rw[hy,Int.toNat_of_nonneg h0]) hi k hd
theorem ed {T:TypeId} [hT:Rz P T] {x y:Operand} {s:Str} {ax:PV} {kk:IntKind} {n:Int} (hx:ρ.ev x=ax) [jx:K8 ax s] (hy:ρ.ev y= .raw (.int kk n)) (h0:0≤n) (hn:n.toNat < s.length) (k:AU P N all K fl.tail os (CR ρ d (.raw (.int .u8 ((s.getD n.toNat 0).toNat:Int)))) L) (hd:Nat.blt d N=true:=by rfl):
  AU P N all K fl (⟨some d,.index T x y,ty,pos,af,none⟩::os) ρ L:=
 YX (n:=n.toNat) hx (by rw[hy,Int.toNat_of_nonneg h0]) hn (by have e:s[n.toNat]=s.getD n.toNat 0:=by simp[List.getD,hn]
                                                              rw[e];exact k) hd
theorem KN {T n E by_:Nat} {z:List PV} [hT:Ux P T n E] [hE:EZ P E 1 by_] [hZ:Ck P T z] {parts:Array (Nat × Operand)} (xs:List Operand) (ws:List Nat) (hp:parts=(xs.zipIdx.map fun p=>(p.2,p.1)).toArray) (hx:xs.map ρ.ev=eW ws) (hz:z.length=ws.length) (hn:xs.length=ws.length)
  (k:AU P N all K fl.tail os (CR ρ d (.agg (eW ws))) L) (hd:Nat.blt d N=true:=by rfl):AU P N all K fl (⟨some d,.build T parts,ty,pos,af,none⟩::os) ρ L:=by
 subst hp;exact jM ws hx hz hn k hd
theorem iz {T T':TypeId} {x y:Operand} {m n:Nat} (hx:ρ.ev x= .raw (.int .i64 (m:Int))) (hy:ρ.ev y= .raw (.int .i64 (@OfNat.ofNat Int n _))) (hn:n≠0) (hm:m≤9223372036854775807) (k:AU P N all K fl.tail os (CR ρ d (.raw (.int .i64 ((m / (@OfNat.ofNat Nat n _):Nat):Int)))) L) (hd:Nat.blt d N=true:=by rfl):
  AU P N all K fl (⟨some d,.binOp .quo T x y T',ty,pos,af,none⟩::os) ρ L:=YO (n:=n) hx hy hn hm k hd
theorem al {T T':TypeId} {x y:Operand} {m n:Nat} (hx:ρ.ev x= .raw (.int .i64 (m:Int))) (hy:ρ.ev y= .raw (.int .i64 (@OfNat.ofNat Int n _))) (hn:n≠0) (k:AU P N all K fl.tail os (CR ρ d (.raw (.int .i64 ((m % (@OfNat.ofNat Nat n _):Nat):Int)))) L) (hd:Nat.blt d N=true:=by rfl):
  AU P N all K fl (⟨some d,.binOp .rem T x y T',ty,pos,af,none⟩::os) ρ L:=YN (n:=n) hx hy hn k hd
theorem xB {A B:Prop} (k:B) (h:OU B→A:=by
  intro hB
  first
   |(refine kh ?_;first|refine KC (by(conv=>lhs;whnf);done) ?_)
   |(refine Zf ?_;first|refine VQ (by(conv=>lhs;whnf);done) ?_)
   |(refine ki ?_;first|refine cY (by rfl) (by repeat(first|exact AI|apply AL)) (by omega) ?_|refine YT (by rfl) (by repeat(first|exact AI|apply AL)) (hl:=(by first|infer_instance|fail)) ?_|refine cd (by rfl) (by repeat(first|exact AI|apply AL)) (by omega) ?_)
   |(refine r7 ?_;first|refine ao (by rfl) (hr:=(by first|infer_instance|fail)) ?_|refine ct (by rfl) (by(conv=>lhs;whnf);done) ?_)
   |(refine r6 ?_;first|refine jE (by rfl) ?_|refine jD (by(conv=>lhs;whnf);done) (jx:=(by first|infer_instance|fail)) ?_|refine jF (by rfl) ?_)
   |(refine bh ?_;first|refine XI (by(conv=>lhs;whnf);done) (hN0:=(by first|infer_instance|fail)) (hc:=(by first|infer_instance|fail)) ?_|refine dX (by(conv=>lhs;whnf);done) (by(conv=>lhs;whnf);done) (hN0:=(by first|infer_instance|fail)) (hN1:=(by first|infer_instance|fail)) (hc:=(by first|infer_instance|fail)) ?_|refine dW (by(conv=>lhs;whnf);done) (by(conv=>lhs;whnf);done) (by(conv=>lhs;whnf);done) (hN0:=(by first|infer_instance|fail)) (hN1:=(by first|infer_instance|fail)) (hN2:=(by first|infer_instance|fail)) (hc:=(by first|infer_instance|fail)) ?_|refine dY (hc:=(by first|infer_instance|fail)) ?_|refine dV (by(conv=>lhs;whnf);done) (by(conv=>lhs;whnf);done) (by(conv=>lhs;whnf);done) (by(conv=>lhs;whnf);done) (hN0:=(by first|infer_instance|fail)) (hN1:=(by first|infer_instance|fail)) (hN2:=(by first|infer_instance|fail)) (hN3:=(by first|infer_instance|fail)) (hc:=(by first|infer_instance|fail)) ?_|refine j_call5 (by(conv=>lhs;whnf);done) (by(conv=>lhs;whnf);done) (by(conv=>lhs;whnf);done) (by(conv=>lhs;whnf);done) (by(conv=>lhs;whnf);done) (hN0:=(by first|infer_instance|fail)) (hN1:=(by first|infer_instance|fail)) (hN2:=(by first|infer_instance|fail)) (hN3:=(by first|infer_instance|fail)) (hN4:=(by first|infer_instance|fail)) (hc:=(by first|infer_instance|fail)) ?_|refine j_call6 (by(conv=>lhs;whnf);done) (by(conv=>lhs;whnf);done) (by(conv=>lhs;whnf);done) (by(conv=>lhs;whnf);done) (by(conv=>lhs;whnf);done) (by(conv=>lhs;whnf);done) (hN0:=(by first|infer_instance|fail)) (hN1:=(by first|infer_instance|fail)) (hN2:=(by first|infer_instance|fail)) (hN3:=(by first|infer_instance|fail)) (hN4:=(by first|infer_instance|fail)) (hN5:=(by first|infer_instance|fail)) (hc:=(by first|infer_instance|fail)) ?_)
   |(refine g_bi ?_;first|refine s_min (by rfl) (by rfl) ?_|refine s_max (by rfl) (by rfl) ?_)
   |(refine df ?_;first|refine qb (by rfl) (by rfl) ?_|refine qc (by rfl) (by rfl) ?_|refine qd (by rfl) (by rfl) ?_|refine qj (by rfl) (by rfl) (by constructor<;>omega) ?_|refine qW (by rfl) (by rfl) (by constructor<;>omega) ?_|refine qf (by(conv=>lhs;whnf);done) (by(conv=>lhs;whnf);done) (jx:=(by first|infer_instance|fail)) (jy:=(by first|infer_instance|fail)) (by first|omega|(simp only[AD,AN,Ae,BM];omega)) ?_|refine qa (by rfl) (by rfl) (by constructor<;>omega) ?_|refine jV (by rfl) (by rfl) ?_|refine ij (by rfl) (by rfl) ?_|refine jU (by rfl) (by rfl) ?_|refine qX (by rfl) (by rfl) ?_|refine iu (by rfl) (by rfl) ?_|refine iy (by rfl) (by rfl) ?_|refine iw (by rfl) (by rfl) ?_|refine Wg (by rfl) (by rfl) (by omega) (by omega) ?_|refine Wh (by rfl) (by rfl) (by omega) ?_|refine iz (by rfl) (by rfl) (by decide) (by omega) ?_|refine al (by rfl) (by rfl) (by decide) ?_)
   |(refine xZ ?_;first|refine ef (by rfl) (by rfl) (by decide) ?_|refine QF (by rfl) (by rfl) (by omega) ?_|refine eh (by rfl) (by rfl) (by omega) (by omega) ?_)
   |(refine xX ?_;first|refine qY (by rfl) ?_|refine qZ (by rfl) (by constructor<;>omega) ?_|refine j0 (by rfl) ?_)
   |(refine XP ?_;first|refine YJ (by rfl) (by rfl) (hB:=(by first|infer_instance|fail)) (hu:=(by first|infer_instance|fail)) (hf:=(by first|infer_instance|fail)) (hlen:=(by first|infer_instance|fail)) (hcs:=(by first|infer_instance|fail)) ?_|refine Sv (by rfl) (by rfl) (by repeat(first|exact AI|apply AL)) (by omega) (hu:=(by first|infer_instance|fail)) ?_|refine YK (by rfl) (by rfl) (by repeat(first|exact AI|apply AL)) (by omega) (hu:=(by first|infer_instance|fail)) ?_)
   |(refine xc ?_;first|refine qh ?_|refine qg (by(conv=>lhs;whnf);done) (hC0:=(by first|infer_instance|fail)) (hf:=(by first|infer_instance|fail)) (by decide) ?_)
   |(refine de ?_;first|refine Yb ?_|refine VO ?_)
   |(refine XQ ?_;first|refine jI (by rfl) (by rfl) (by omega) ?_|refine jJ (by rfl) (by rfl) (by omega) ?_|refine Wj (by(conv=>lhs;whnf);done) (by rfl) (by rfl) (jx:=(by first|infer_instance|fail)) (by omega) (by omega) (by omega) ?_|refine cw (by(conv=>lhs;whnf);done) (by rfl) (jx:=(by first|infer_instance|fail)) (by omega) (by omega) ?_|refine YM (by rfl) ?_)
   |(refine kj ?_;first|refine cz (by rfl) ?_|refine cy (by rfl) ?_|refine Sb (by rfl) (by omega) ?_|refine il (by rfl) ?_|refine YI (by rfl) (by repeat(first|exact AI|apply AL)) (hs:=(by first|infer_instance|fail)) ?_)
   |(refine db ?_;first|refine ed (by(conv=>lhs;whnf);done) (by rfl) (jx:=(by first|infer_instance|fail)) (by omega) (by omega) ?_)
  exact hB.out):A:=h ⟨k⟩
theorem E5 {A B:Prop} (k:B) (h:OU B→A:=by
  intro hB
  repeat(first
   |refine AE ?_
   |refine xB ?_
   |refine DT ?_
   |refine CK (by kernel_rfl) ?_
   |refine Ib ?_
   |refine H9 ?_
   |refine KF ?_
   |refine Gd ?_
   |refine GL (by decide+kernel) ?_
   |refine Ia (by rfl) ?_
   |refine HL (by rfl) ?_)
  exact hB.out):A:=h ⟨k⟩
theorem JB {A B:Prop} (k:B) (h:OU B→A:=by
  intro hB
  refine E5 ?_
  exact hB.out):A:=h ⟨k⟩
theorem Ju {A:Prop} {B:Nat→Prop} (k: ∀ b,B b) (h:Kq B→A:=by
  intro hB
  refine E5 ?_
  first|refine Yc (by rfl) fun b=>?_|refine CA fun b=>?_
  refine E5 ?_
  exact hB.out b):A:=h ⟨k⟩
theorem Ij {A:Prop} {B:Nat→Prop} (k: ∀ b,B b) (h:Kq B→A:=by
  intro hB
  refine Ju fun b=>?_
  exact hB.out b):A:=h ⟨k⟩
theorem Nt {A B:Prop} (k:B) (h:OU B→A:=by
  intro hB
  repeat(first
   |refine AE ?_
   |refine xB ?_
   |refine DT ?_
   |refine CK (by kernel_rfl) ?_
   |refine Ib ?_
   |refine H9 ?_
   |refine KF ?_
   |refine Gd ?_
   |refine Ia (by rfl) ?_
   |refine HL (by rfl) ?_)
  exact hB.out):A:=h ⟨k⟩
theorem WM {A B:Prop} (k:B) (h:OU B→A:=by
  intro hB
  refine Nt ?_
  exact hB.out):A:=h ⟨k⟩
end
end Go.Q
namespace Go.Proofs
open Go Go.Q
attribute [local irreducible] EY AU BH Fk
def GQ (a n:Nat):Nat:=fV (Wc a n) (YG a (32 - n))
instance Gj (a n:Nat) [hs:Ay (n≤32)]:C9 Tryz.prog 259 [.raw (.int .u32 (a:Int)),.raw (.int .u64 (n:Int))] (.raw (.int .u32 (GQ a n:Nat))):=⟨by
 refine Av Tryz.func259 Tryz.ntmps259 rfl (rs:= [.tmp 4]) rfl rfl fun hb LF=>?_
 have hn:=hs.out
 refine E5 ?_
 refine Wg (a:=32) (by rfl) (by rfl) hn (by decide) ?_
 refine JB ?_
 refine Aw (.of_eq ?_)
 rfl⟩
instance yT (a:Nat):C9 Tryz.prog 259 [.raw (.int .u32 (a:Int)),.raw (.int .u64 2)] (.raw (.int .u32 (GQ a 2:Nat))):=by
 have:Ay ((2:Nat)≤32):=⟨by decide⟩
 exact Gj a 2
instance yS (a:Nat):C9 Tryz.prog 259 [.raw (.int .u32 (a:Int)),.raw (.int .u64 6)] (.raw (.int .u32 (GQ a 6:Nat))):=by
 have:Ay ((6:Nat)≤32):=⟨by decide⟩
 exact Gj a 6
instance yR (a:Nat):C9 Tryz.prog 259 [.raw (.int .u32 (a:Int)),.raw (.int .u64 7)] (.raw (.int .u32 (GQ a 7:Nat))):=by
 have:Ay ((7:Nat)≤32):=⟨by decide⟩
 exact Gj a 7
instance wh (a:Nat):C9 Tryz.prog 259 [.raw (.int .u32 (a:Int)),.raw (.int .u64 11)] (.raw (.int .u32 (GQ a 11:Nat))):=by
 have:Ay ((11:Nat)≤32):=⟨by decide⟩
 exact Gj a 11
instance wg (a:Nat):C9 Tryz.prog 259 [.raw (.int .u32 (a:Int)),.raw (.int .u64 13)] (.raw (.int .u32 (GQ a 13:Nat))):=by
 have:Ay ((13:Nat)≤32):=⟨by decide⟩
 exact Gj a 13
instance we (a:Nat):C9 Tryz.prog 259 [.raw (.int .u32 (a:Int)),.raw (.int .u64 17)] (.raw (.int .u32 (GQ a 17:Nat))):=by
 have:Ay ((17:Nat)≤32):=⟨by decide⟩
 exact Gj a 17
instance wc (a:Nat):C9 Tryz.prog 259 [.raw (.int .u32 (a:Int)),.raw (.int .u64 18)] (.raw (.int .u32 (GQ a 18:Nat))):=by
 have:Ay ((18:Nat)≤32):=⟨by decide⟩
 exact Gj a 18
instance wb (a:Nat):C9 Tryz.prog 259 [.raw (.int .u32 (a:Int)),.raw (.int .u64 19)] (.raw (.int .u32 (GQ a 19:Nat))):=by
 have:Ay ((19:Nat)≤32):=⟨by decide⟩
 exact Gj a 19
instance wa (a:Nat):C9 Tryz.prog 259 [.raw (.int .u32 (a:Int)),.raw (.int .u64 22)] (.raw (.int .u32 (GQ a 22:Nat))):=by
 have:Ay ((22:Nat)≤32):=⟨by decide⟩
 exact Gj a 22
instance wY (a:Nat):C9 Tryz.prog 259 [.raw (.int .u32 (a:Int)),.raw (.int .u64 25)] (.raw (.int .u32 (GQ a 25:Nat))):=by
 have:Ay ((25:Nat)≤32):=⟨by decide⟩
 exact Gj a 25
theorem Bp {α:Type} (f:α→Nat→α) (a:α) (k:Nat):(List.range (k+1)).foldl f a=f ((List.range k).foldl f a) k:=by
 rw[EI,CB];rfl
instance vv (n:Int) [hs:Ay (0≤n∧n≤1000)]:C9 Tryz.prog 256 [.raw (.int .i64 n)] (.str (List.replicate n.toNat 0)):=⟨by
 refine Av Tryz.func256 Tryz.ntmps256 rfl (rs:= [.tmp 2]) rfl rfl fun hb LF=>?_
 obtain⟨h0,h1⟩:=hs.out
 refine AX ?_
 refine AZ (σ:=Nat × Str) (fun k=>k.1≤n.toNat∧k.2=List.replicate k.1 0) (fun k=>n.toNat - k.1) (fun k=> [(0,.raw (.int .i64 n)),(3,.str k.2),(4,.raw (.int .i64 k.1))]) (fun _=>LF) (0,[]) ⟨by simp,by simp⟩ ⟨rfl,rfl,rfl⟩ (.refl _) ?_
 rintro⟨k,s⟩ ⟨hk,he⟩
 dsimp only at hk he
 have hl:s.length=k:=by rw[he];simp
 refine AX ?_
 refine A6 (fun hc=>?_) (fun hc=>?_)
 ·refine AX ?_
  refine⟨(k+1,s++ [0]),⟨by dsimp only;omega,by dsimp only;rw[he,Xw]⟩,by dsimp only;omega,⟨rfl,rfl,rfl⟩,.refl _⟩
 ·refine AX ?_
  refine Aw (.of_eq ?_)
  rw[he,show k=n.toNat by omega]⟩
def FI (bits:Nat) (j:Nat):Str:=(List.range j).map fun i=>UInt8.ofNat (bits / 2 ^ (min (8*(7 - i)) 64))
def JE (s:Str):Str:=(s++ [128])++List.replicate ((120 - (s.length+1) % 64) % 64) 0++FI (s.length*8) 8
theorem TQ (s:Str):(JE s).length=s.length+1+(120 - (s.length+1) % 64) % 64+8:=by simp[JE,FI];omega
instance vJ (s:Str) [hs:Ay (s.length≤1000000)]:C9 Tryz.prog 204 [.str s] (.str (JE s)):=⟨by
 refine Av Tryz.func204 Tryz.ntmps204 rfl (rs:= [.tmp 2]) rfl rfl fun hb LF=>?_
 have hl:=hs.out
 have e1:(((120:Int) - (((s++ [128]).length % 64:Nat):Int)).tmod 64)=(((120 - (s.length+1) % 64) % 64:Nat):Int):=by
  rw[AD,Ax]
  have:(120:Int) - (((s.length+1) % 64:Nat):Int)=((120 - (s.length+1) % 64:Nat):Int):=by omega
  rw[this];exact(Int.ofNat_tmod _ _).symm
 have i1:Ay (0≤(((120 - (s.length+1) % 64) % 64:Nat):Int)∧(((120 - (s.length+1) % 64) % 64:Nat):Int)≤1000):=⟨by omega,by omega⟩
 refine AX ?_
 refine al (by rfl) (by rfl) (by decide) ?_
 refine Bq ?_
 refine Ga (v:= .int .i64 (((120 - (s.length+1) % 64) % 64:Nat):Int)) (by rfl) (by rfl) (fun w=>?_) ?_
 ·have h3:(64:Int)≠0:=by decide
  simp only[binOp,ne_eq,not_true_eq_false,if_false,Op.intDiv,h3,e1];rfl
 have hz:(List.replicate (((120 - (s.length+1) % 64) % 64:Nat):Int).toNat (0:UInt8)).length=(120 - (s.length+1) % 64) % 64:=by rw[List.length_replicate];omega
 refine Bq ?_
 refine Wh (b:=8) (by rfl) (by rfl) (by omega) ?_
 refine Bq ?_
 refine AZ (σ:=Nat × Str) (fun k=>k.1≤8∧k.2=(s++ [128])++List.replicate ((120 - (s.length+1) % 64) % 64) 0++FI (s.length*8) k.1) (fun k=>8 - k.1) (fun k=> [(3,.str k.2),(4,.raw (.int .u64 ((s.length*8:Nat):Int))),(5,.raw (.int .i64 (7 - (k.1:Int))))]) (fun _=>LF) (0,(s++ [128])++List.replicate ((120 - (s.length+1) % 64) % 64) 0) ⟨by simp,by simp[FI]⟩ ⟨rfl,rfl,rfl⟩ (.refl _) ?_
 rintro⟨k,o⟩ ⟨hk,he⟩
 dsimp only at hk he
 have hol:o.length≤1000100:=by rw[he];simp[FI];omega
 refine AX ?_
 refine A6 (fun hc=>?_) (fun hc=>?_)
 ·refine AX ?_
  have e8:(8:Int)*(7 - (k:Int))=((8*(7 - k):Nat):Int):=by omega
  refine Sb (a:=8*(7 - k)) (by show PV.raw (.int .i64 ((8:Int)*(7 - (k:Int))))=_;rw[e8]) (by omega) ?_
  refine Bq ?_
  refine⟨(k+1,o++ [UInt8.ofNat (s.length*8 / 2 ^ (min (8*(7 - k)) 64))]),⟨by dsimp only;omega,?_⟩,by dsimp only;omega,⟨rfl,rfl,?_⟩,.refl _⟩
  ·dsimp only
   rw[he,FI,FI,EI,Au,←AV];rfl
  ·show PV.raw (Value.int .i64 _)=PV.raw (Value.int .i64 _)
   congr 2;dsimp only;omega
 ·refine AX ?_
  refine Aw (.of_eq ?_)
  rw[he,show k=8 by omega,JE]⟩
def rK:List Nat:= [1116352408,1899447441,3049323471,3921009573,961987163,1508970993,2453635748,2870763221,3624381080,310598401,607225278,1426881987,1925078388,2162078206,2614888103,3248222580,3835390401,4022224774,264347078,604807628,770255983,1249150122,1555081692,1996064986,2554220882,2821834349,2952996808,3210313671,3336571891,3584528711,113926993,338241895,666307205,773529912,1294757372,1396182291,1695183700,1986661051,2177026350,2456956037,2730485921,2820302411,3259730800,3345764771,3516065817,3600352804,4094571909,275423344,430227734,506948616,659060556,883997877,958139571,1322822218,1537002063,1747873779,1955562222,2024104815,2227730452,2361852424,2428436474,2756734187,3204031479,3329325298]
instance pK:C9 Tryz.prog 258 [] (.agg (eW rK)):=⟨by
 refine Av Tryz.func258 Tryz.ntmps258 rfl (rs:= [.cell 0 253]) rfl rfl fun hb LF=>?_
 refine Ju fun b=>?_
 refine KN [.const (.int .u32 1116352408),.const (.int .u32 1899447441),.const (.int .u32 3049323471),.const (.int .u32 3921009573),.const (.int .u32 961987163),.const (.int .u32 1508970993),.const (.int .u32 2453635748),.const (.int .u32 2870763221),.const (.int .u32 3624381080),.const (.int .u32 310598401),.const (.int .u32 607225278),.const (.int .u32 1426881987),.const (.int .u32 1925078388),.const (.int .u32 2162078206),.const (.int .u32 2614888103),.const (.int .u32 3248222580),.const (.int .u32 3835390401),.const (.int .u32 4022224774),.const (.int .u32 264347078),.const (.int .u32 604807628),.const (.int .u32 770255983),.const (.int .u32 1249150122),.const (.int .u32 1555081692),.const (.int .u32 1996064986),.const (.int .u32 2554220882),.const (.int .u32 2821834349),.const (.int .u32 2952996808),.const (.int .u32 3210313671),.const (.int .u32 3336571891),.const (.int .u32 3584528711),.const (.int .u32 113926993),.const (.int .u32 338241895),.const (.int .u32 666307205),.const (.int .u32 773529912),.const (.int .u32 1294757372),.const (.int .u32 1396182291),.const (.int .u32 1695183700),.const (.int .u32 1986661051),.const (.int .u32 2177026350),.const (.int .u32 2456956037),.const (.int .u32 2730485921),.const (.int .u32 2820302411),.const (.int .u32 3259730800),.const (.int .u32 3345764771),.const (.int .u32 3516065817),.const (.int .u32 3600352804),.const (.int .u32 4094571909),.const (.int .u32 275423344),.const (.int .u32 430227734),.const (.int .u32 506948616),.const (.int .u32 659060556),.const (.int .u32 883997877),.const (.int .u32 958139571),.const (.int .u32 1322822218),.const (.int .u32 1537002063),.const (.int .u32 1747873779),.const (.int .u32 1955562222),.const (.int .u32 2024104815),.const (.int .u32 2227730452),.const (.int .u32 2361852424),.const (.int .u32 2428436474),.const (.int .u32 2756734187),.const (.int .u32 3204031479),.const (.int .u32 3329325298)] rK rfl rfl rfl rfl ?_
 have i1:Cx (eW rK) 64:=⟨rfl⟩
 have i2:Cx (eW (List.replicate 64 0)) 64:=⟨rfl⟩
 refine JB ?_
 exact Fi rfl (.refl _) (hn:=(rfl:(eW rK).length=64))⟩
def Yh (b:Str) (t:Nat):Nat:=fV (fV (fV (YG ((b.getD (4*(t:Int)).toNat 0).toNat % 4294967296) 24) (YG ((b.getD (4*(t:Int)+1).toNat 0).toNat % 4294967296) 16)) (YG ((b.getD (4*(t:Int)+2).toNat 0).toNat % 4294967296) 8)) ((b.getD (4*(t:Int)+3).toNat 0).toNat % 4294967296)
def L8 (b:Str) (w:List Nat) (t:Nat):List Nat:=w.set t (Yh b t)
def TL (w:List Nat) (t:Nat):Nat:=
 let x:=w.getD (t+1) 0
 let y:=w.getD (t+14) 0
 Nk (Nk (Nk (Lq (Lq (GQ y 17) (GQ y 19)) (Wc y 10)) (w.getD (t+9) 0)) (Lq (Lq (GQ x 7) (GQ x 18)) (Wc x 3))) (w.getD t 0)
theorem TK (v:List Nat) (k:Nat):TL v k=Nk (Nk (Nk (Lq (Lq (GQ (v.getD (((k+16:Nat):Int) - 2).toNat 0) 17) (GQ (v.getD (((k+16:Nat):Int) - 2).toNat 0) 19)) (Wc (v.getD (((k+16:Nat):Int) - 2).toNat 0) 10)) (v.getD (((k+16:Nat):Int) - 7).toNat 0)) (Lq (Lq (GQ (v.getD (((k+16:Nat):Int) - 15).toNat 0) 7) (GQ (v.getD (((k+16:Nat):Int) - 15).toNat 0) 18)) (Wc (v.getD (((k+16:Nat):Int) - 15).toNat 0) 3))) (v.getD (((k+16:Nat):Int) - 16).toNat 0):=by
 have e2:(((k+16:Nat):Int) - 2).toNat=k+14:=by omega
 have e7:(((k+16:Nat):Int) - 7).toNat=k+9:=by omega
 have e15:(((k+16:Nat):Int) - 15).toNat=k+1:=by omega
 have e16:(((k+16:Nat):Int) - 16).toNat=k:=by omega
 rw[e2,e7,e15,e16];rfl
def QJ (w:List Nat) (t:Nat):List Nat:=w.set (t+16) (TL w t)
def GU (b:Str):List Nat:=(List.range 48).foldl QJ ((List.range 16).foldl (L8 b) (List.replicate 64 0))
theorem Vv (b:Str) (k:Nat):((List.range k).foldl (L8 b) (List.replicate 64 0)).length=64:=by
 induction k with
 |zero=>rfl
 |succ k ih=>rw[Bp,L8,CT,ih]
theorem Vu {w:List Nat} (h:w.length=64) (k:Nat):((List.range k).foldl QJ w).length=64:=by
 induction k with
 |zero=>exact h
 |succ k ih=>rw[Bp,QJ,CT,ih]
theorem TM (b:Str):(GU b).length=64:=Vu (Vv b 16) 48
instance qU (s:Str) [hs:Ay (s.length=64)]:C9 Tryz.prog 257 [.str s] (.agg (eW (GU s))):=⟨by
 refine Av Tryz.func257 Tryz.ntmps257 rfl (rs:= [.cell 2 253]) rfl rfl fun hb LF=>?_
 have hl:=hs.out
 have i2:Cx (eW (List.replicate 64 0)) 64:=⟨rfl⟩
 refine Ju fun b=>?_
 refine Ij fun b2=>?_
 refine AZ (σ:=Nat × List Nat) (fun k=>k.1≤16∧k.2.length=64∧k.2=(List.range k.1).foldl (L8 s) (List.replicate 64 0)) (fun k=>16 - k.1) (fun k=> [(0,.str s),(2,.raw (.pointer (some ⟨b,0,none⟩))),(3,.raw (.pointer (some ⟨b2,0,none⟩))),(4,.raw (.int .i64 k.1))]) (fun k=> .box b2 253 (eW k.2):: .box b 253 (eW (List.replicate 64 0))::LF) (0,List.replicate 64 0) ⟨by simp,by simp,by simp⟩ ⟨rfl,rfl,rfl,rfl⟩ (.refl _) ?_
 rintro⟨k,w⟩ ⟨hk,hw,he⟩
 dsimp only at hk hw he ⊢
 refine E5 ?_
 refine A6 (fun hc=>?_) (fun hc=>?_)
 ·refine Nt ?_
  refine BX 31 ?_ ?_
  ·decide+kernel
  refine JB ?_
  refine⟨(k+1,w.set k (Yh s k)),⟨by dsimp only;omega,by dsimp only;rw[CT,hw],by dsimp only;rw[Bp,←he];rfl⟩,by dsimp only;omega,⟨rfl,rfl,rfl,rfl⟩,.refl _⟩
 have hkk:k=16:=by omega
 subst hkk
 refine E5 ?_
 refine AZ (σ:=Nat × List Nat) (fun k=>k.1≤48∧k.2.length=64∧k.2=(List.range k.1).foldl QJ w) (fun k=>48 - k.1) (fun k=> [(2,.raw (.pointer (some ⟨b,0,none⟩))),(3,.raw (.pointer (some ⟨b2,0,none⟩))),(5,.raw (.int .i64 ((k.1+16:Nat):Int)))]) (fun k=> .box b2 253 (eW k.2):: .box b 253 (eW (List.replicate 64 0))::LF) (0,w) ⟨by simp,hw,by simp⟩ ⟨rfl,rfl,rfl⟩ (.refl _) ?_
 rintro⟨k,v⟩ ⟨hk,hv,hve⟩
 dsimp only at hk hv hve ⊢
 have i3:Cx (eW v) 64:=⟨by rw[Gq,hv]⟩
 refine E5 ?_
 refine A6 (fun hc=>?_) (fun hc=>?_)
 ·refine Nt ?_
  refine GL (by decide+kernel) ?_
  refine WM ?_
  refine BX 29 ?_ ?_
  ·decide+kernel
  refine JB ?_
  refine⟨(k+1,v.set (k+16) (TL v k)),⟨by dsimp only;omega,by dsimp only;rw[CT,hv],by dsimp only;rw[Bp,←hve];rfl⟩,by dsimp only;omega,⟨rfl,rfl,?_⟩,?_⟩
  ·show PV.raw (Value.int .i64 _)=PV.raw (Value.int .i64 _)
   congr 2
  ·dsimp only;rw[TK];exact .refl _
 ·refine E5 ?_
  refine Fi rfl (.of_eq ?_) (hn:=(by rw[Gq,hv]:(eW v).length=64))
  have hkk:k=48:=by omega
  subst hkk
  rw[GU,hve,he]⟩
def yW (w v:List Nat) (t:Nat):Nat:=Nk (Nk (Nk (Nk (v.getD 7 0) (Lq (Lq (GQ (v.getD 4 0) 6) (GQ (v.getD 4 0) 11)) (GQ (v.getD 4 0) 25))) (Lq (Xq (v.getD 4 0) (v.getD 5 0)) (Xq (oH (v.getD 4 0)) (v.getD 6 0)))) (rK.getD t 0)) (w.getD t 0)
def zt (v:List Nat):Nat:=Nk (Lq (Lq (GQ (v.getD 0 0) 2) (GQ (v.getD 0 0) 13)) (GQ (v.getD 0 0) 22)) (Lq (Lq (Xq (v.getD 0 0) (v.getD 1 0)) (Xq (v.getD 0 0) (v.getD 2 0))) (Xq (v.getD 1 0) (v.getD 2 0)))
def Mr (w v:List Nat) (t:Nat):List Nat:= [Nk (yW w v t) (zt v),v.getD 0 0,v.getD 1 0,v.getD 2 0,Nk (v.getD 3 0) (yW w v t),v.getD 4 0,v.getD 5 0,v.getD 6 0]
def L9 (h:List Nat) (b:Str):List Nat:=(List.range 64).foldl (Mr (GU b)) h
def Yp (v x:List Nat) (i:Nat):List Nat:=x.set i (Nk (x.getD i 0) (v.getD i 0))
def NY (h:List Nat) (b:Str):List Nat:=(List.range 8).foldl (Yp (L9 h b)) h
theorem fy {v h:List Nat} (hh:h.length=8) (k:Nat):((List.range k).foldl (Yp v) h).length=8:=by
 induction k with
 |zero=>exact hh
 |succ k ih=>rw[Bp,Yp,CT,ih]
theorem Oh {h:List Nat} {b:Str} (hh:h.length=8):(NY h b).length=8:=fy hh 8
theorem zu {ρ:Env} {x0 x1 x2 x3 x4 x5 x6 x7:Operand} {a0 a1 a2 a3 a4 a5 a6 a7:Nat} (h0:ρ.ev x0= .raw (.int .u32 (a0:Int))) (h1:ρ.ev x1= .raw (.int .u32 (a1:Int))) (h2:ρ.ev x2= .raw (.int .u32 (a2:Int))) (h3:ρ.ev x3= .raw (.int .u32 (a3:Int))) (h4:ρ.ev x4= .raw (.int .u32 (a4:Int))) (h5:ρ.ev x5= .raw (.int .u32 (a5:Int))) (h6:ρ.ev x6= .raw (.int .u32 (a6:Int))) (h7:ρ.ev x7= .raw (.int .u32 (a7:Int))):
  [x0,x1,x2,x3,x4,x5,x6,x7].map ρ.ev=eW [a0,a1,a2,a3,a4,a5,a6,a7]:=by simp[eW,h0,h1,h2,h3,h4,h5,h6,h7]
instance yQ (h:List Nat) (s:Str) [hs:Ay (s.length=64)] [hh:Ay (h.length=8)]:C9 Tryz.prog 205 [.agg (eW h),.str s] (.agg (eW (NY h s))):=⟨by
 refine Av Tryz.func205 Tryz.ntmps205 rfl (rs:= [.cell 4 216]) rfl rfl fun hb LF=>?_
 have hl:=hh.out
 have hsl:=TM s
 have j1:Cx (eW (List.replicate 64 0)) 64:=⟨rfl⟩
 have j2:Cx (eW (List.replicate 8 0)) 8:=⟨rfl⟩
 have j3:Cx (eW h) 8:=⟨by rw[Gq,hl]⟩
 have j4:Cx (eW rK) 64:=⟨rfl⟩
 have j5:Cx (eW (GU s)) 64:=⟨by rw[Gq,hsl]⟩
 have hkl:rK.length=64:=rfl
 refine Ju fun b2=>?_
 refine Ij fun b4=>?_
 refine Ij fun b5=>?_
 refine Ij fun b6=>?_
 refine Ij fun b7=>?_
 refine AZ (σ:=Nat × List Nat) (fun k=>k.1≤64∧k.2.length=8∧k.2=(List.range k.1).foldl (Mr (GU s)) h) (fun k=>64 - k.1) (fun k=> [(2,.raw (.pointer (some ⟨b2,0,none⟩))),(4,.raw (.pointer (some ⟨b4,0,none⟩))),(5,.raw (.pointer (some ⟨b5,0,none⟩))),(6,.raw (.pointer (some ⟨b6,0,none⟩))),(7,.raw (.pointer (some ⟨b7,0,none⟩))),(8,.raw (.int .i64 k.1))]) (fun k=> .box b7 216 (eW k.2):: .box b6 253 (eW rK):: .box b5 253 (eW (GU s)):: .box b4 216 (eW (List.replicate 8 0)):: .box b2 216 (eW h)::LF) (0,h) ⟨by simp,hl,by simp⟩ ⟨rfl,rfl,rfl,rfl,rfl,rfl⟩ (.refl _) ?_
 rintro⟨k,v⟩ ⟨hk,hv,hve⟩
 dsimp only at hk hv hve ⊢
 have j6:Cx (eW v) 8:=⟨by rw[Gq,hv]⟩
 have j7:Cx (eW (Mr (GU s) v k)) 8:=⟨rfl⟩
 refine E5 ?_
 refine A6 (fun hc=>?_) (fun hc=>?_)
 ·refine Nt ?_
  refine GL (by decide+kernel) ?_
  refine WM ?_
  refine GL (by decide+kernel) ?_
  refine BG [(2,.raw (.pointer (some ⟨b2,0,none⟩))),(4,.raw (.pointer (some ⟨b4,0,none⟩))),(5,.raw (.pointer (some ⟨b5,0,none⟩))),(6,.raw (.pointer (some ⟨b6,0,none⟩))),(7,.raw (.pointer (some ⟨b7,0,none⟩))),(8,.raw (.int .i64 k)),(9,.raw (.int .u32 ((v.getD 0 0:Nat):Int))),(11,.raw (.int .u32 ((yW (GU s) v k:Nat):Int)))] (.box b7 216 (eW v):: .box b6 253 (eW rK):: .box b5 253 (eW (GU s)):: .box b4 216 (eW (List.replicate 8 0)):: .box b2 216 (eW h)::LF) ?_ ?_
  ·refine JB ?_
   exact⟨⟨rfl,rfl,rfl,rfl,rfl,rfl,rfl,rfl⟩,.refl _⟩
  refine Nt ?_
  refine GL (by decide+kernel) ?_
  refine BG [(2,.raw (.pointer (some ⟨b2,0,none⟩))),(4,.raw (.pointer (some ⟨b4,0,none⟩))),(5,.raw (.pointer (some ⟨b5,0,none⟩))),(6,.raw (.pointer (some ⟨b6,0,none⟩))),(7,.raw (.pointer (some ⟨b7,0,none⟩))),(8,.raw (.int .i64 k)),(11,.raw (.int .u32 ((yW (GU s) v k:Nat):Int))),(12,.raw (.int .u32 ((zt v:Nat):Int)))] (.box b7 216 (eW v):: .box b6 253 (eW rK):: .box b5 253 (eW (GU s)):: .box b4 216 (eW (List.replicate 8 0)):: .box b2 216 (eW h)::LF) ?_ ?_
  ·refine JB ?_
   exact⟨⟨rfl,rfl,rfl,rfl,rfl,rfl,rfl,rfl⟩,.refl _⟩
  refine E5 ?_
  refine KN [.tmp 82,.tmp 84,.tmp 86,.tmp 88,.tmp 92,.tmp 94,.tmp 96,.tmp 98] (Mr (GU s) v k) rfl (zu (by rfl) (by rfl) (by rfl) (by rfl) (by rfl) (by rfl) (by rfl) (by rfl)) (by simp[Mr]) (by simp[Mr]) ?_
  refine JB ?_
  refine⟨(k+1,Mr (GU s) v k),⟨by dsimp only;omega,rfl,by dsimp only;rw[Bp,←hve]⟩,by dsimp only;omega,⟨rfl,rfl,rfl,rfl,rfl,rfl⟩,.refl _⟩
 have hkk:k=64:=by omega
 subst hkk
 replace hve:v=L9 h s:=hve
 subst hve
 refine E5 ?_
 refine AZ (σ:=Nat × List Nat) (fun k=>k.1≤8∧k.2.length=8∧k.2=(List.range k.1).foldl (Yp (L9 h s)) h) (fun k=>8 - k.1) (fun k=> [(2,.raw (.pointer (some ⟨b2,0,none⟩))),(4,.raw (.pointer (some ⟨b4,0,none⟩))),(7,.raw (.pointer (some ⟨b7,0,none⟩))),(13,.raw (.int .i64 k.1))]) (fun k=> .box b7 216 (eW (L9 h s)):: .box b4 216 (eW (List.replicate 8 0)):: .box b2 216 (eW k.2)::LF) (0,h) ⟨by simp,hl,by simp⟩ ⟨rfl,rfl,rfl,rfl⟩ (.cons_cons _ (.cons _ (.cons _ (.refl _)))) ?_
 rintro⟨k,x⟩ ⟨hk,hx,hxe⟩
 dsimp only at hk hx hxe ⊢
 have j8:Cx (eW x) 8:=⟨by rw[Gq,hx]⟩
 refine E5 ?_
 refine A6 (fun hc=>?_) (fun hc=>?_)
 ·refine Nt ?_
  refine BX 9 ?_ ?_
  ·decide+kernel
  refine JB ?_
  refine⟨(k+1,x.set k (Nk (x.getD k 0) ((L9 h s).getD k 0))),⟨by dsimp only;omega,by dsimp only;rw[CT,hx],by dsimp only;rw[Bp,←hxe];rfl⟩,by dsimp only;omega,⟨rfl,rfl,rfl,rfl⟩,.refl _⟩
 ·refine E5 ?_
  refine Fi rfl (.of_eq ?_) (hn:=(by rw[Gq,hx]:(eW x).length=8))
  have hkk:k=8:=by omega
  subst hkk
  rw[NY,hxe]⟩
def rH:List Nat:= [1779033703,3144134277,1013904242,2773480762,1359893119,2600822924,528734635,1541459225]
def IA (m:Str) (n:Nat):List Nat:=(List.range n).foldl (fun h k=>NY h ((m.drop (64*k)).take 64)) rH
theorem Yo (m:Str) (n:Nat):(IA m n).length=8:=by
 unfold IA
 induction n with
 |zero=>rfl
 |succ n ih=>rw[Bp];exact Oh ih
def QQ (h:List Nat) (d:Dig) (i:Nat):Dig:=d.put i (UInt8.ofNat (Wc (h.getD (i / 4) 0) (24 - 8*(i % 4))))
def fA (s:Str):Dig:=(List.range 32).foldl (QQ (IA (JE s) ((JE s).length / 64))) Dig.zero
instance zd (s:Str) [hs:Ay (s.length≤1000000)]:C9 Tryz.prog 152 [.str s] (.agg (eDig (fA s))):=⟨by
 refine Av Tryz.func152 Tryz.ntmps152 rfl (rs:= [.cell 2 31]) rfl rfl fun hb LF=>?_
 have hl:=hs.out
 have hpl:=TQ s
 have j2:Cx (eW (List.replicate 8 0)) 8:=⟨rfl⟩
 have j3:Cx (eW rH) 8:=⟨rfl⟩
 refine Ju fun b2=>?_
 refine KN [.const (.int .u32 1779033703),.const (.int .u32 3144134277),.const (.int .u32 1013904242),.const (.int .u32 2773480762),.const (.int .u32 1359893119),.const (.int .u32 2600822924),.const (.int .u32 528734635),.const (.int .u32 1541459225)] rH rfl rfl (by simp[rH]) rfl ?_
 refine Ij fun b3=>?_
 unfold fA
 generalize JE s=m at hpl ⊢
 refine AZ (σ:=Nat) (fun k=>64*k≤m.length) (fun k=>m.length+64 - 64*k) (fun k=> [(2,.raw (.pointer (some ⟨b2,0,none⟩))),(3,.raw (.pointer (some ⟨b3,0,none⟩))),(4,.str m),(5,.raw (.int .i64 ((64*k:Nat):Int)))]) (fun k=> .box b3 216 (eW (IA m k)):: .box b2 31 (eDig Dig.zero)::LF) 0 (by simp) ⟨rfl,rfl,rfl,rfl⟩ (.refl _) ?_
 intro k hk
 have hbl:=Yo m k
 have j4:Cx (eW (IA m k)) 8:=⟨by rw[Gq,hbl]⟩
 have j5:Cx (eW (NY (IA m k) ((m.drop (64*k)).take (64*k+64 - 64*k)))) 8:=⟨by rw[Gq,Oh hbl]⟩
 refine E5 ?_
 refine A6 (fun hc=>?_) (fun hc=>?_)
 ·have hc':64*k+64≤m.length:=by omega
  have j6:Ay (((m.drop (64*k)).take (64*k+64 - 64*k)).length=64):=⟨by rw[Ab,B4];omega⟩
  have j7:Ay ((IA m k).length=8):=⟨hbl⟩
  refine Nt ?_
  refine BX 7 ?_ ?_
  ·decide+kernel
  refine JB ?_
  refine⟨k+1,by omega,by dsimp only;omega,⟨rfl,rfl,rfl,?_⟩,?_⟩
  ·show PV.raw (Value.int .i64 _)=PV.raw (Value.int .i64 _)
   congr 2
  ·dsimp only
   have e:IA m (k+1)=NY (IA m k) ((m.drop (64*k)).take (64*k+64 - 64*k)):=by
    rw[show 64*k+64 - 64*k=64 by omega];unfold IA;rw[Bp]
   rw[e];exact .refl _
 have hkk:k=m.length / 64:=by omega
 subst hkk
 refine Ju fun b6=>?_
 generalize IA m (m.length / 64)=h at hbl ⊢
 refine AZ (σ:=Nat × Dig) (fun k=>k.1≤32∧k.2=(List.range k.1).foldl (QQ h) Dig.zero) (fun k=>32 - k.1) (fun k=> [(2,.raw (.pointer (some ⟨b2,0,none⟩))),(3,.raw (.pointer (some ⟨b3,0,none⟩))),(6,.raw (.pointer (some ⟨b6,0,none⟩))),(7,.raw (.int .i64 k.1))]) (fun k=> .box b6 31 (eDig k.2):: .box b3 216 (eW h):: .box b2 31 (eDig Dig.zero)::LF) (0,Dig.zero) ⟨by simp,by simp⟩ ⟨rfl,rfl,rfl,rfl⟩ (.refl _) ?_
 rintro⟨k,d⟩ ⟨hk,hd⟩
 dsimp only at hk hd ⊢
 refine E5 ?_
 refine A6 (fun hc=>?_) (fun hc=>?_)
 ·refine E5 ?_
  have e8:(24:Int) - 8*((k % 4:Nat):Int)=((24 - 8*(k % 4):Nat):Int):=by omega
  refine Sb (a:=24 - 8*(k % 4)) (by show PV.raw (.int .i64 ((24:Int) - 8*((k % 4:Nat):Int)))=_;rw[e8]) (by omega) ?_
  refine JB ?_
  refine⟨(k+1,QQ h d k),⟨by dsimp only;omega,by dsimp only;rw[Bp,←hd]⟩,by dsimp only;omega,⟨rfl,rfl,rfl,rfl⟩,.refl _⟩
 ·refine E5 ?_
  refine Fi rfl (.of_eq ?_)
  have hkk:k=32:=by omega
  subst hkk
  rw[hd]⟩
def LU (l:List Str):Nat:=(l.map List.length).sum
def vF (l:List Str):Bool:=decide (40 < (l.length:Int))||decide (3000 < (LU l:Int))
theorem YA {l:List Str} {k:Nat} (h:k < l.length):LU (l.take (k+1))=LU (l.take k)+l[k].length:=by
 unfold LU;rw[A7 h,Au,FH];simp
theorem eR {l:List Str} {B:Nat} (h: ∀ s∈l,s.length≤B):LU l≤l.length*B:=by
 unfold LU
 induction l with
 |nil=>simp
 |cons x l ih=>
  have h1:=h x (by simp)
  have h2:=ih fun s hs=>h s (by simp[hs])
  simp only[Aq,Cr,AN,C7];omega
instance vo (l:List Str) (t:CD):C9 Tryz.prog 203 [.slice (l.map eS) t] (.raw (.bool (vF l))):=⟨by
 refine Av Tryz.func203 Tryz.ntmps203 rfl (rs:= [.tmp 2]) rfl rfl fun hb LF=>?_
 have hbs:=hb (.slice (l.map eS) t) (by simp)
 have hlen:l.length≤140737488355328:=hbs.slice_map
 have hel: ∀ s∈l,s.length≤140737488355328:=fun s hs=>(hbs.slice_at hs (c:= .str s) (by simp[eS])).str_len
 refine AX ?_
 refine AZ (σ:=Nat × Int) (fun k=>k.1≤l.length∧(l.length≤40→k.2=(LU (l.take k.1):Int))) (fun k=>l.length - k.1) (fun k=> [(0,.slice (l.map eS) t),(3,.raw (.int .i64 k.2)),(4,.raw (.int .i64 k.1))]) (fun _=>LF) (0,0) ⟨by simp,fun _=>by simp[LU]⟩ ⟨rfl,rfl,rfl⟩ (.refl _) ?_
 rintro⟨k,n⟩ ⟨hk,hn⟩
 dsimp only at hk hn ⊢
 obtain⟨v,hv⟩: ∃ v,v=Value.int .i64 n:=⟨_,rfl⟩
 rw[←hv]
 refine AX ?_
 refine A6 (fun hc=>?_) (fun hc=>?_)
 ·have hlt:k < l.length:=by omega
  refine AX ?_
  refine ar (by rfl) (by rfl) hv fun v1 hv1=>?_
  refine Bq ?_
  subst hv1
  refine⟨(k+1,IntKind.i64.wrap (n+(l[k].length:Int))),⟨by dsimp only;omega,fun h40=>?_⟩,by dsimp only;omega,⟨rfl,rfl,rfl⟩,.refl _⟩
  have h1:=hn h40
  have h2:=YA hlt
  have h3:=hel _ (AH hlt)
  have h4:=eR (l:=l.take k) (B:=140737488355328) fun s hs=>hel s (El hs)
  have h5:(l.take k).length≤40:=by rw[Ab];omega
  have h6:(l.take k).length*140737488355328≤40*140737488355328:=B8 _ h5
  dsimp only
  rw[IntWalk.i64_in _ (by omega),h1,h2];omega
 ·subst hv
  refine AX ?_
  rw[AB (by omega)]at hn
  refine Ao (fun hp=>?_) (fun hp=>?_)
  ·refine Bq ?_
   refine Aw (.of_eq ?_)
   rw[vF,hp,Bool.true_or]
  ·refine Bq ?_
   refine Aw (.of_eq ?_)
   have:=Bl hp
   rw[vF,hp,Fc,hn (by omega)]⟩
def Fq (c:Chg):Nat:=c.name.length+c.data.length
def SL (p:Pat):Nat:=p.author.length+p.message.length+(p.changes.map Fq).sum
def Yj (c:Chg):Bool:=vF c.lines||decide (40 < (c.over.length:Int))
def Ff (p:Pat):Bool:=p.changes.any Yj||decide (3000 < (SL p:Int))||decide (20 < (p.deps.length:Int))||decide (20 < (p.changes.length:Int))
def Hq (c:Chg):Nat:=1+c.lines.length+c.over.length
def E4 (p:Pat):Bool:=p.changes.any (fun c=>Yj c||decide (3000 < (Fq c:Int)))||decide (30000 < (SL p:Int))||decide (200 < (p.deps.length:Int))||decide (200 < (p.changes.length:Int))||decide (2000 < ((p.changes.map Hq).sum:Int))
theorem FQ {α:Type} {l:List α} {f:α→Nat} {B:Nat} (h: ∀ s∈l,f s≤B):(l.map f).sum≤l.length*B:=by
 induction l with
 |nil=>simp
 |cons x l ih=>
  have h1:=h x (by simp)
  have h2:=ih fun s hs=>h s (by simp[hs])
  simp only[Aq,Cr,AN,C7];omega
theorem KA {α:Type} {l:List α} {f:α→Nat} {k:Nat} (h:k < l.length):((l.take (k+1)).map f).sum=((l.take k).map f).sum+f l[k]:=by
 rw[A7 h,Au,FH];simp
instance ue (p:Pat):C9 Tryz.prog 151 [.agg (Ba p)] (.raw (.bool (Ff p))):=⟨by
 refine Av Tryz.func151 Tryz.ntmps151 rfl (rs:= [.tmp 2]) rfl rfl fun hb LF=>?_
 have hbp:=hb (.agg (Ba p)) (by simp)
 have ha:p.author.length≤140737488355328:=(hbp.agg_at (c:= .str p.author) (by simp[Ba])).str_len
 have hm:p.message.length≤140737488355328:=(hbp.agg_at (c:= .str p.message) (by simp[Ba])).str_len
 have hbc:=hbp.agg_at (c:= .slice (p.changes.map eChg) .ro) (by simp[Ba])
 have hlen:p.changes.length≤140737488355328:=hbc.slice_map
 have hcn: ∀ c∈p.changes,c.name.length≤140737488355328:=fun c hc=>(hbc.slice_at hc (c:= .str c.name) (by simp[eChg])).str_len
 have hcd: ∀ c∈p.changes,c.data.length≤140737488355328:=fun c hc=>(hbc.slice_at hc (c:= .str c.data) (by simp[eChg])).str_len
 refine Cy fun b=>?_
 refine AZ (σ:=Nat × Int) (fun k=>k.1≤p.changes.length∧(∀ i (h:i < p.changes.length),i < k.1→Yj p.changes[i]=false)∧(p.changes.length≤20→k.2=((p.author.length+p.message.length+((p.changes.take k.1).map Fq).sum:Nat):Int))) (fun k=>p.changes.length - k.1) (fun k=> [(1,.raw (.pointer (some ⟨b,0,none⟩))),(3,.raw (.int .i64 k.2)),(4,.raw (.int .i64 k.1))]) (fun _=> .box b 40 (Ba p)::LF) (0,(p.author.length:Int)+(p.message.length:Int)) ⟨by simp,by simp,fun _=>by simp⟩ ⟨rfl,rfl,rfl⟩ (.refl _) ?_
 rintro⟨k,n⟩ ⟨hk,hg,hn⟩
 dsimp only at hk hg hn ⊢
 obtain⟨v,hv⟩: ∃ v,v=Value.int .i64 n:=⟨_,rfl⟩
 rw[←hv]
 refine AX ?_
 refine A6 (fun hc=>?_) (fun hc=>?_)
 ·have hlt:k < p.changes.length:=by omega
  refine Cy fun b2=>?_
  refine BG [(33,.raw (.bool (Yj p.changes[k]))),(1,.raw (.pointer (some ⟨b,0,none⟩))),(3,.raw v),(4,.raw (.int .i64 k)),(5,.raw (.pointer (some ⟨b2,0,none⟩)))] (.box b2 73 (eChg p.changes[k]):: .box b 40 (Ba p)::LF) ?_ ?_
  ·repeat' (first|(refine A6 (fun h=>?_) (fun h=>?_)<;>refine AX ?_)|(refine AR (fun h=>?_) (fun h=>?_)<;>refine AX ?_)|(refine AO (fun h=>?_) (fun h=>?_)<;>refine AX ?_)|(refine Ao (fun h=>?_) (fun h=>?_)<;>(have h2:=h;(try simp only[AA,A8,AF,AJ]at h2);refine Bq ?_)))
   all_goals (refine⟨⟨Bh (by rfl) ?_,rfl,rfl,rfl,rfl⟩,.refl _⟩;simp_all[Yj])
  refine AX ?_
  refine AO (fun h=>?_) (fun h=>?_)
  ·refine AX ?_
   refine Aw (.of_eq ?_)
   have:p.changes.any Yj=true:=by rw[Bn];exact⟨_,AH hlt,h⟩
   rw[Ff,this];rfl
  refine AX ?_
  refine ar (by rfl) (by rfl) hv fun v1 hv1=>?_
  refine Bq ?_
  refine ar (by rfl) (by rfl) hv1 fun v2 hv2=>?_
  refine Bq ?_
  subst hv2
  refine⟨(k+1,IntKind.i64.wrap (IntKind.i64.wrap (n+(p.changes[k].name.length:Int))+(p.changes[k].data.length:Int))),⟨by dsimp only;omega,fun i hi hik=>?_,fun h20=>?_⟩,by dsimp only;omega,⟨rfl,rfl,rfl⟩,.cons _ (.refl _)⟩
  ·rcases BN i k with h'|h'
   ·exact hg i hi h'
   ·have:i=k:=by dsimp only at hik;omega
    subst this;exact h
  ·have h1:=hn h20
   have h2:=KA (f:=Fq) hlt
   have h3:=hcn _ (AH hlt)
   have h3':=hcd _ (AH hlt)
   have h4:=FQ (l:=p.changes.take k) (f:=Fq) (B:=281474976710656) fun c hc=>by
    have q1:=hcn c (El hc)
    have q2:=hcd c (El hc)
    unfold Fq;omega
   have h5:(p.changes.take k).length≤20:=by rw[Ab];omega
   have h6:(p.changes.take k).length*281474976710656≤20*281474976710656:=B8 _ h5
   dsimp only
   have h7:Fq p.changes[k]=p.changes[k].name.length+p.changes[k].data.length:=rfl
   rw[IntWalk.i64_in (n+_) (by omega),IntWalk.i64_in _ (by omega),h1,h2];omega
 ·subst hv
  refine AX ?_
  rw[AB (by omega)]at hn
  have hany:p.changes.any Yj=false:=by
   rw[Bc];intro c hc'
   obtain⟨i,hi,rfl⟩:=Ag.1 hc'
   simp[hg i hi (by omega)]
  have key:Ff p=(decide (3000 < n)||decide (20 < (p.deps.length:Int))||decide (20 < (p.changes.length:Int))):=by
   rw[Ff,hany,Fc]
   by_cases h20:p.changes.length≤20
   ·rw[hn h20];rfl
   ·have:decide (20 < (p.changes.length:Int))=true:=BC (by omega)
    rw[this,Bool.or_true,Bool.or_true]
  rw[key]
  clear key hany hn hg
  repeat' (first|(refine A6 (fun h=>?_) (fun h=>?_)<;>refine AX ?_)|(refine AR (fun h=>?_) (fun h=>?_)<;>refine AX ?_)|(refine AO (fun h=>?_) (fun h=>?_)<;>refine AX ?_)|(refine Ao (fun h=>?_) (fun h=>?_)<;>(have h2:=h;(try simp only[AA,A8,AF,AJ]at h2);refine Bq ?_)))
  all_goals (refine Aw (.of_eq ?_);first|(simp_all;done)|grind)⟩
theorem K9 (d:Nat) {s:Str} (h:s.length≤65536):P5 (d+1) (Cj s):= .inl ⟨rfl,rfl,h⟩
theorem aV (d:Nat) (n:Int):P5 (d+1) (GG n):=by
 unfold GG RP
 split
 ·exact .inl ⟨rfl,rfl,by decide⟩
 ·refine K9 d ?_
  have:=Om (n:=n) ⟨by omega,by omega⟩
  omega
theorem iR (d:Nat) (x:Dig):P5 (d+1) (KD x):=by
 unfold KD
 split
 ·exact K9 d (by decide)
 ·exact K9 d (by rw[x.len];decide)
theorem Mi {d:Nat} {l:List Sx} (h: ∀ y∈l,P5 d y):P5 (d+1) (E6 l):= .inr ⟨rfl,rfl,h⟩
theorem iQ (d:Nat) (x:Ident):P5 (d+2) (GF x):=Mi fun y hy=>by
 simp only[AG,Aa,or_false]at hy
 rcases hy with rfl|rfl
 ·exact iR d _
 ·exact aV d _
theorem mb (d:Nat) (l:List Ident):P5 (d+3) (J7 l):=Mi fun y hy=>by
 obtain⟨x,_,rfl⟩:=AY.1 hy
 exact iQ d x
theorem XC (d:Nat) (s:Str):Ic (d+1) (Cj s)=1:=rfl
theorem Tp (d:Nat) (n:Int):Ic (d+1) (GG n)=1:=by
 unfold GG RP
 split<;>rfl
theorem kG (d:Nat) (x:Dig):Ic (d+1) (KD x)=1:=by
 unfold KD;split<;>rfl
theorem Ow (d:Nat) (l:List Sx):Ic (d+1) (E6 l)=1+(l.map (Ic d)).sum:=rfl
theorem XB (d:Nat) (x:Ident):Ic (d+2) (GF x)=3:=by
 rw[GF,Ow];simp only[Aq,CC,Cr,IU,kG,Tp];rfl
theorem oJ (d:Nat) (l:List Ident):Ic (d+3) (J7 l)≤1+l.length*3:=by
 rw[J7,Ow,Cd]
 have:=FQ (l:=l) (f:=Ic (d+2) ∘ GF) (B:=3) fun x _=>by simp[XB]
 omega
theorem JY (d:Nat) {s:Str} (h:s.length≤140737488355328):(Dq (d+1) (Cj s)).length≤16+s.length:=by
 show(Hr s.length++58::s).length≤_
 have:=Kb h
 rw[AD,AN];omega
theorem bU (d:Nat) (n:Int):(Dq (d+1) (GG n)).length≤32:=by
 unfold GG RP
 split
 ·exact Cq (JY d (s:= []) (by decide)) (by decide)
 ·rename_i h
  have h1:=Om (n:=n) ⟨by omega,by omega⟩
  have h2:=JY d (s:=J9 n) (by omega)
  dsimp only;omega
theorem kN (d:Nat) (x:Dig):(Dq (d+1) (KD x)).length≤48:=by
 unfold KD
 split
 ·exact Cq (JY d (s:= []) (by decide)) (by decide)
 ·have h:=JY d (s:=x.bs) (by rw[x.len];decide)
  rw[x.len]at h;exact h
theorem Zo {α β:Type} (l:List α) (f:α→List β):(l.flatMap f).length=(l.map fun a=>(f a).length).sum:=by
 induction l with
 |nil=>rfl
 |cons x l ih=>simp[ih]
theorem NF (d:Nat) (l:List Sx):(Dq (d+1) (E6 l)).length=2+(l.map fun a=>(Dq d a).length).sum:=by
 show(40::(l.flatMap (Dq d)++ [41])).length=_
 rw[AN,AD,Zo,Ax];omega
theorem kM (d:Nat) (x:Ident):(Dq (d+2) (GF x)).length≤82:=by
 rw[GF,NF]
 have h1:=kN d x.patch
 have h2:=bU d x.n
 simp only[Aq,CC,Cr,IU];omega
theorem oU (d:Nat) (l:List Ident):(Dq (d+3) (J7 l)).length≤2+l.length*82:=by
 rw[J7,NF,Cd]
 have:=FQ (l:=l) (f:=(fun a=>(Dq (d+2) a).length) ∘ GF) (B:=82) fun x _=>kM d x
 omega
structure W4 (c:Chg):Prop where
 lines:c.lines.length≤40
 line: ∀ s∈c.lines,s.length≤3000
 over:c.over.length≤40
 name:c.name.length≤3000
 data:c.data.length≤3000
theorem W3 {c:Chg} {q:Sx→Prop} (h1: ∀ n,q (GG n)) (h2: ∀ x,q (GF x)) (h3:q (Cj c.name)) (h4:q (Cj c.data)) (h5:q (E6 (c.lines.map Cj))) (h6:q (J7 c.over)): ∀ y∈([GG c.kind]++K3 c++IW c)++L7 c,q y:=by
 intro y hy
 simp only[Ah,Aj]at hy
 rcases hy with ((rfl|hy)|hy)|hy
 ·exact h1 _
 ·unfold K3 at hy
  split at hy
  ·simp only[Aj]at hy;subst hy;exact h2 _
  ·cases hy
 ·unfold IW at hy
  repeat' split at hy
  all_goals simp only[AG,Aa,or_false]at hy
  ·subst hy;exact h1 _
  ·rcases hy with rfl|rfl
   ·exact h2 _
   ·exact h3
  ·subst hy;exact h1 _
  ·subst hy;exact h4
  ·rcases hy with rfl|rfl<;>exact h2 _
 ·unfold L7 at hy
  repeat' split at hy
  all_goals simp only[AG,Aa,or_false]at hy
  ·subst hy;exact h5
  ·subst hy;exact h6
theorem pO (c:Chg):(([GG c.kind]++K3 c++IW c)++L7 c).length≤5:=by
 have h1:=RL c
 have h2:=RK c
 have h3:(L7 c).length≤1:=by unfold L7;repeat' split
                             all_goals simp
 simp only[AD,Ax];omega
theorem s8 (d:Nat) {c:Chg} (h:W4 c):P5 (d+4) (Ku c):=
 Mi (W3 (fun n=>aV (d+2) n) (fun x=>iQ (d+1) x) (K9 (d+2) (by have:=h.name;omega)) (K9 (d+2) (by have:=h.data;omega))
  (Mi fun y hy=>by
   obtain⟨s,hs,rfl⟩:=AY.1 hy
   exact K9 (d+1) (by have:=h.line s hs;omega)) (mb d c.over))
theorem kH (d:Nat) (c:Chg):(([GG c.kind]++K3 c++IW c).map (Ic (d+3))).sum≤12:=by
 have h:=FQ (l:= [GG c.kind]++K3 c++IW c) (f:=Ic (d+3)) (B:=3) fun y hy=>by
  simp only[Ah,Aj]at hy
  rcases hy with (rfl|hy)|hy
  ·rw[Tp (d+2)];decide
  ·unfold K3 at hy
   split at hy
   ·simp only[Aj]at hy;subst hy;rw[XB (d+1)];decide
   ·cases hy
  ·unfold IW at hy
   repeat' split at hy
   all_goals simp only[AG,Aa,or_false]at hy
   ·subst hy;rw[Tp (d+2)];decide
   ·rcases hy with rfl|rfl
    ·rw[XB (d+1)];decide
    ·rw[XC (d+2)];decide
   ·subst hy;rw[Tp (d+2)];decide
   ·subst hy;rw[XC (d+2)];decide
   ·rcases hy with rfl|rfl<;>(rw[XB (d+1)];decide)
 have h1:=RL c
 have h2:=RK c
 simp only[AD,Ax]at h
 omega
theorem oM (d:Nat) (c:Chg):((L7 c).map (Ic (d+3))).sum≤3*Hq c:=by
 unfold L7 Hq
 repeat' split
 ·simp only[Aq,CC,Cr,IU]
  rw[Ow (d+2),Cd]
  have:=FQ (l:=c.lines) (f:=Ic (d+2) ∘ Cj) (B:=1) fun s _=>Al _
  omega
 ·simp only[Aq,CC,Cr,IU]
  have:=oJ d c.over
  omega
 ·simp
theorem tT (d:Nat) (c:Chg):Ic (d+4) (Ku c)≤13+3*Hq c:=by
 rw[Ku,Ow,Au,FH]
 have h1:=kH d c
 have h2:=oM d c
 omega
theorem Y9 {α:Type} {l:List α} {f g:α→Nat} {a b:Nat} (h: ∀ s∈l,f s≤a+b*g s):(l.map f).sum≤l.length*a+b*(l.map g).sum:=by
 induction l with
 |nil=>simp
 |cons x l ih=>
  have h1:=h x (by simp)
  have h2:=ih fun s hs=>h s (by simp[hs])
  simp only[Aq,Cr,AN,C7,Nat.mul_add];omega
theorem tZ (d:Nat) {c:Chg} (h:W4 c):(Dq (d+4) (Ku c)).length≤650000:=by
 rw[Ku,NF]
 have h1:=FQ (f:=fun y=>(Dq (d+3) y).length) (B:=121000) (W3 (c:=c) (q:=fun y=>(Dq (d+3) y).length≤121000) (fun n=>Cq (bU (d+2) n) (by decide)) (fun x=>Cq (kM (d+1) x) (by decide))
  (Cq (JY (d+2) (s:=c.name) (by have:=h.name;omega)) (by have:=h.name;omega)) (Cq (JY (d+2) (s:=c.data) (by have:=h.data;omega)) (by have:=h.data;omega))
  (by
   rw[NF (d+2),Cd]
   have:=FQ (l:=c.lines) (f:=(fun a=>(Dq (d+2) a).length) ∘ Cj) (B:=3016) fun s hs=>by
    have h3:=h.line s hs
    exact Cq (JY (d+1) (s:=s) (by omega)) (by omega)
   have:=h.lines;omega)
  (by have:=oU d c.over;have:=h.over;omega))
 have h2:=B8 121000 (pO c)
 omega
theorem IQ {α:Type} {l:List α} {f:α→Nat} {a:α} (h:a∈l):f a≤(l.map f).sum:=by
 induction l with
 |nil=>cases h
 |cons x l ih=>
  simp only[Aq,Cr]
  rcases AG.1 h with rfl|h
  ·omega
  ·have:=ih h;omega
theorem Jj {p:Pat} (h:Ff p=false):p.author.length≤3000∧p.message.length≤3000∧p.deps.length≤20∧p.changes.length≤20∧ ∀ c∈p.changes,W4 c:=by
 unfold Ff at h
 simp only[CH,A8,Bc]at h
 obtain⟨⟨⟨h1,h2⟩,h3⟩,h4⟩:=h
 have ht:SL p=p.author.length+p.message.length+(p.changes.map Fq).sum:=rfl
 refine⟨by omega,by omega,by omega,by omega,fun c hc=>?_⟩
 have h5:=h1 c hc
 simp only[Yj,vF,Hh,CH,A8]at h5
 obtain⟨⟨h6,h7⟩,h8⟩:=h5
 have h9:=IQ (f:=Fq) hc
 have h10:Fq c=c.name.length+c.data.length:=rfl
 refine⟨by omega,fun s hs=>?_,by omega,by omega,by omega⟩
 have:=IQ (f:=List.length) hs
 unfold LU at h7
 omega
theorem Xo {p:Pat} (h:Ff p=false):E4 p=false:=by
 obtain⟨h1,h2,h3,h4,h5⟩:=Jj h
 have hs:=FQ (l:=p.changes) (f:=Hq) (B:=81) fun c hc=>by have a:=(h5 c hc).lines;have b:=(h5 c hc).over;unfold Hq;omega
 unfold Ff at h
 unfold E4
 simp only[CH,A8,Bc]at h ⊢
 obtain⟨⟨⟨g1,g2⟩,g3⟩,g4⟩:=h
 refine⟨⟨⟨⟨fun c hc=>?_,by omega⟩,by omega⟩,by omega⟩,by omega⟩
 have k1:=g1 c hc
 have k2: ¬3000 < (Fq c:Int):=by
  have:=IQ (f:=Fq) hc
  have ht:SL p=p.author.length+p.message.length+(p.changes.map Fq).sum:=rfl
  omega
 simp only[Hh]at k1
 simp[k1,k2]
theorem EF {p:Pat} (h:E4 p=false):p.author.length≤30000∧p.message.length≤30000∧p.deps.length≤200∧p.changes.length≤200∧ ∀ c∈p.changes,W4 c:=by
 unfold E4 at h
 simp only[CH,A8,Bc]at h
 obtain⟨⟨⟨⟨h1,h2⟩,h3⟩,h4⟩,_⟩:=h
 have ht:SL p=p.author.length+p.message.length+(p.changes.map Fq).sum:=rfl
 refine⟨by omega,by omega,by omega,by omega,fun c hc=>?_⟩
 have h5:=h1 c hc
 simp only[Yj,vF,Hh,CH,A8]at h5
 obtain⟨⟨⟨h6,h7⟩,h8⟩,h9⟩:=h5
 have h10:Fq c=c.name.length+c.data.length:=rfl
 refine⟨by omega,fun s hs=>?_,by omega,by omega,by omega⟩
 have:=IQ (f:=List.length) hs
 unfold LU at h7
 omega
theorem pY {p:Pat} (h:E4 p=false):(p.changes.map Hq).sum≤2000:=by
 unfold E4 at h
 simp only[CH,A8]at h
 omega
theorem OH {p:Pat} (h:E4 p=false):W0 p:=by
 obtain⟨h1,h2,h3,h4,h5⟩:=EF h
 have hsum:=pY h
 refine⟨by omega,by omega,fun c hc=>⟨by have:=(h5 c hc).lines;omega,by have:=(h5 c hc).over;omega⟩,⟨?_,?_⟩,?_⟩
 ·refine Mi (d:=7) fun y hy=>?_
  simp only[AG,Aa,or_false]at hy
  rcases hy with rfl|rfl|rfl|rfl|rfl|rfl
  ·exact K9 6 (by decide)
  ·exact K9 6 (by omega)
  ·exact K9 6 (by omega)
  ·exact aV 6 _
  ·exact Mi fun y hy=>by obtain⟨x,_,rfl⟩:=AY.1 hy;exact iR 5 x
  ·exact Mi fun y hy=>by obtain⟨x,hx,rfl⟩:=AY.1 hy;exact s8 2 (h5 x hx)
 ·rw[Wx,Ow 7]
  simp only[Aq,CC,Cr,IU,XC 6,Tp 6,Ow 6,Cd]
  have e1:=FQ (l:=p.deps) (f:=Ic 6 ∘ KD) (B:=1) fun x _=>EE (kG 5 x)
  have e2:=Y9 (l:=p.changes) (f:=Ic 6 ∘ Ku) (g:=Hq) (a:=13) (b:=3) fun x _=>tT 2 x
  have e3:=B8 13 h4
  omega
 ·rw[Ni,Wx,NF 7]
  simp only[Aq,CC,Cr,IU]
  have e0:(Dq 7 (Cj [113,117,105,108,116,49])).length≤22:=JY 6 (s:= [113,117,105,108,116,49]) (by decide)
  have e1:(Dq 7 (Cj p.author)).length≤16+p.author.length:=JY 6 (s:=p.author) (by omega)
  have e2:(Dq 7 (Cj p.message)).length≤16+p.message.length:=JY 6 (s:=p.message) (by omega)
  have e3:(Dq 7 (GG p.time)).length≤32:=bU 6 p.time
  have e8:(Dq 7 (E6 (p.deps.map KD))).length=2+((p.deps.map KD).map fun a=>(Dq 6 a).length).sum:=NF 6 _
  have e9:(Dq 7 (E6 (p.changes.map Ku))).length=2+((p.changes.map Ku).map fun a=>(Dq 6 a).length).sum:=NF 6 _
  rw[Cd]at e8 e9
  have e4:=FQ (l:=p.deps) (f:=(fun a=>(Dq 6 a).length) ∘ KD) (B:=48) fun x _=>kN 5 x
  have e5:=FQ (l:=p.changes) (f:=(fun a=>(Dq 6 a).length) ∘ Ku) (B:=650000) fun x hx=>tZ 2 (h5 x hx)
  have e6:=B8 650000 h4
  have e7:=B8 48 h3
  omega
def CU (p:Pat):Str × Int:=if(CF p).2≠0 then([],(CF p).2)else KE p
theorem QO (p:Pat):(CU p).1.length≤65536:=by
 unfold CU KE
 split
 ·simp
 ·split
  ·simp
  ·dsimp only;omega
instance uh (p:Pat) [hs:Ay (E4 p=false)]:C9 Tryz.prog 55 [.agg (Ba p)] (.tuple [.str (CU p).1,.raw (.int .i64 (CU p).2)]):=⟨by
 have i1:Ay (W0 p):=⟨OH hs.out⟩
 refine Av Tryz.func55 Tryz.ntmps55 rfl (rs:= [.tmp 2,.tmp 3]) rfl rfl fun hb LF=>?_
 refine Cy fun b=>?_
 refine AR (fun h=>?_) (fun h=>?_)
 ·refine AX ?_
  refine HD ?_
  rw[CU,if_pos h]
  exact .refl _
 ·refine AX ?_
  refine HD ?_
  rw[CU,if_neg (by simp[h])]
  exact .refl _⟩
instance gl (p:Pat) [hs:Ay (E4 p=false)]:C9 Tryz.prog 19 [.agg (Ba p)] (.raw (.int .i64 (CU p).2)):=⟨by
 refine Av Tryz.func19 Tryz.ntmps19 rfl (rs:= [.tmp 2]) rfl rfl fun hb LF=>?_
 refine Cy fun b=>?_
 exact Aw (.refl _)⟩
def Ew (p:Pat):Dig × Int:=if(CU p).2≠0 then(Dig.zero,(CU p).2)else(fA (CU p).1,0)
instance zg (p:Pat) [hs:Ay (E4 p=false)]:C9 Tryz.prog 86 [.agg (Ba p)] (.tuple [.agg (eDig (Ew p).1),.raw (.int .i64 (Ew p).2)]):=⟨by
 have i1:Ay ((CU p).1.length≤1000000):=⟨by have:=QO p;omega⟩
 refine Av Tryz.func86 Tryz.ntmps86 rfl (rs:= [.cell 2 31,.tmp 3]) rfl rfl fun hb LF=>?_
 refine Cy fun b=>?_
 refine Et fun b2=>?_
 refine AR (fun h=>?_) (fun h=>?_)
 ·refine AX ?_
  refine LK rfl (.of_eq ?_)
  rw[Ew,if_pos h]
 ·refine AX ?_
  refine LK rfl (.of_eq ?_)
  rw[Ew,if_neg (by simp[h])]⟩
end Go.Proofs
namespace Go.Q
open Go
structure uY {α β:Type} (B:α→β→Prop):Prop where
 out: ∀ a b,B a b
section
variable {P:Program} {N:Nat} {all:Array Oper} {K:Env→List Res→Prop} {fl:List Bool} {os:List Oper} {ρ:Env} {L:List Res} {Q:PPost} {c:Code} {d:Nat} {ty:TypeId} {pos:String} {af:Array Edge}
theorem sb {T sz by_:Nat} [hE:Fu P T sz by_] {x0 x1 x2 x3:Operand} {a0 a1 a2 a3:PV} {α:Type} {f:α→List PV} {e0 e1 e2 e3:α} (q0:ρ.ev x0=a0) (q1:ρ.ev x1=a1) (q2:ρ.ev x2=a2) (q3:ρ.ev x3=a3) [hC0:Fw a0 f e0] [hC1:Fw a1 f e1] [hC2:Fw a2 f e2] [hC3:Fw a3 f e3] [hf:MZ f sz] (h24:4*sz≤16777216)
  (k: ∀ t,AU P N all K fl.tail os (CR ρ d (.slice ([e0,e1,e2,e3].map f) t)) (.tok t [e0,e1,e2,e3].length sz::L)) (hd:Nat.blt d N=true:=by rfl) (hfl:fl.headD true=true:=by rfl):AU P N all K fl (⟨some d,.buildSlice T 4 #[(0,x0),(1,x1),(2,x2),(3,x3)],ty,pos,af,none⟩::os) ρ L:=
 DY rfl (P7 hd) hfl (dJ (n:=4) (xs:= [x0,x1,x2,x3]) (cs:= [e0,e1,e2,e3].map f) rfl rfl h24 (by decide) (fun i h1 h2=>by
  match i,h1,h2 with
  |0,_,_=>exact⟨q0 ▸ hC0.out,hf.out e0⟩
  |1,_,_=>exact⟨q1 ▸ hC1.out,hf.out e1⟩
  |2,_,_=>exact⟨q2 ▸ hC2.out,hf.out e2⟩
  |3,_,_=>exact⟨q3 ▸ hC3.out,hf.out e3⟩
  |m+4,h1,_=>exact absurd h1 (by simp only[AN,Ae];omega)) k)
theorem mc {A:Prop} {B:Nat→CD→Prop} (k: ∀ b t,B b t) (h:uY B→A:=by
  intro hB
  refine iU ?_
  first|refine Yc (by rfl) fun b=>?_|refine CA fun b=>?_
  refine iU ?_
  refine sb (by(conv=>lhs;whnf);done) (by(conv=>lhs;whnf);done) (by(conv=>lhs;whnf);done) (by(conv=>lhs;whnf);done) (hC0:=(by first|infer_instance|fail)) (hC1:=(by first|infer_instance|fail)) (hC2:=(by first|infer_instance|fail)) (hC3:=(by first|infer_instance|fail)) (hf:=(by first|infer_instance|fail)) (by decide) fun t=>?_
  refine AX ?_
  exact hB.out b t):A:=h ⟨k⟩
end
end Go.Q
