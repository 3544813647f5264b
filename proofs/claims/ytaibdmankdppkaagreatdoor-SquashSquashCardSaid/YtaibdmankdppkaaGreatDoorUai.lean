/- Contracts: changes; what is checked of a patch but its encoding (the reference's layer 16). -/
import Derived.Test.YtaibdmankdppkaaGreatDoorUah
import Derived.Test.YtaibdmankdppkaaGreatDoorUae
set_option linter.unusedSimpArgs false
set_option linter.unusedVariables false
set_option maxHeartbeats 8000000
namespace Go.Proofs
open Go Go.Q
attribute [local irreducible] Eb AV BG Fu
theorem JQ {c:Chg} (h:C3 c=0):c.lines.length≤2000:=by
 unfold C3 at h
 split at h
 ·omega
 split at h
 ·omega
 rename_i h2
 split at h
 ·omega
 split at h
 ·omega
 split at h
 ·omega
 split at h
 ·omega
 split at h
 ·unfold Mn at h
  split at h
  ·omega
  split at h
  ·omega
  ·omega
 ·rename_i h7
  simp only[Bool.not_eq_false,Fl,BP,AB,Hn,h7,if_false]at h2
  omega
def DC:List Chg→List Atm→List Atm × Int
 | [],own=>(own,0)
 |c::l,own=>if C3 c≠0 then([],C3 c)else if FB c own≠0 then([],FB c own)else DC l (own++Dw c own.length)
theorem LZ {l:List Chg} {k:Nat} (hk:k < l.length) (own:List Atm):DC (l.drop k) own=if C3 l[k]≠0 then([],C3 l[k])else if FB l[k] own≠0 then([],FB l[k] own)else DC (l.drop (k+1)) (own++Dw l[k] own.length):=by
 rw[CP hk,DC]
instance uK (l:List Chg) (t:C9) [hs:Aw (l.length≤400)]:C6 Tryz.prog 163 [.slice (l.map eChg) t] (.tuple [.slice ((DC l []).1.map eAtm) .ro,.raw (.int .i64 (DC l []).2)]):=⟨by
 refine Av Tryz.func163 Tryz.ntmps163 rfl (rs:= [.tmp 2,.tmp 3]) rfl rfl fun hb LF=>?_
 have hl:=hs.out
 refine AW ?_
 refine EP 172 ?_
 refine AZ (σ:=Nat × C9 × List Atm) (fun k=>k.1≤l.length∧k.2.2.length≤k.1*4001∧DC l []=DC (l.drop k.1) k.2.2) (fun k=>l.length - k.1) (fun k=> [(0,.slice (l.map eChg) t),(4,.slice (k.2.2.map eAtm) k.2.1),(5,.raw (.int .i64 k.1))]) (fun k=> .tok k.2.1 k.2.2.length 172::LF) (0,.nil,[]) ⟨by simp,by simp,by simp⟩ ⟨rfl,rfl,rfl⟩ (.refl _) ?_
 rintro⟨k,v,own⟩ ⟨hk,hlen,he⟩
 dsimp only at hk hlen he
 refine AW ?_
 refine A7 (fun hc=>?_) (fun hc=>?_)
 ·have hlt:k < l.length:=by omega
  rw[LZ hlt]at he
  refine AW ?_
  refine AR (fun h1=>?_) (fun h1=>?_)
  ·refine AW ?_
   rw[if_pos h1]at he
   refine H2 (.tuple2 ?_ (.of_eq ?_))
   ·rw[he];exact .ro _ _
   ·rw[he]
  rw[if_neg (by simp[h1])]at he
  refine AW ?_
  refine AR (fun h2=>?_) (fun h2=>?_)
  ·refine AW ?_
   rw[if_pos h2]at he
   refine H2 (.tuple2 ?_ (.of_eq ?_))
   ·rw[he];exact .ro _ _
   ·rw[he]
  rw[if_neg (by simp[h2])]at he
  have hll:l[k].lines.length≤2000:=JQ h1
  have hmm:=Ly l[k] own.length
  have:Aw (l[k].lines.length≤2000∧(0:Int)≤own.length∧(own.length:Int)≤1000000000):=⟨hll,by omega,by omega⟩
  refine H3 fun v'=>?_
  refine⟨(k+1,v',own++Dw l[k] own.length),⟨by dsimp only;omega,by dsimp only;rw[AD];omega,he⟩,by dsimp only;omega,⟨rfl,rfl,rfl⟩,.refl _⟩
 ·refine AW ?_
  have hkk:l.drop k= []:=CJ (by omega)
  rw[hkk]at he
  refine H2 (.tuple2 ?_ (.of_eq ?_))
  ·rw[he];exact .ro _ _
  ·rw[he];rfl⟩
def CB (p:Pat):List Atm × Int:=
 if JZ p.author=false then([],5)else if 1000 < (p.message.length:Int)then([],4)else if p.time < 0∨1099511627776 < p.time then([],2)else
 if Ie p.deps≠0 then([],Ie p.deps)else if(p.changes.length:Int)=0 then([],1)else if 400 < (p.changes.length:Int)then([],4)else DC p.changes []
instance vc (p:Pat):C6 Tryz.prog 113 [.agg (Bh p)] (.tuple [.slice ((CB p).1.map eAtm) .ro,.raw (.int .i64 (CB p).2)]):=⟨by
 refine Av Tryz.func113 Tryz.ntmps113 rfl (rs:= [.tmp 2,.tmp 3]) rfl rfl fun hb LF=>?_
 refine Cz fun b=>?_
 refine AO (fun h1=>?_) (fun h1=>?_)
 ·refine AW ?_
  rw[CB,if_pos (by simpa using h1)]
  refine H2 ?_;exact .tuple2 (.ro _ _) (.refl _)
 rw[CB,if_neg (by simpa using h1)]
 refine AW ?_
 refine A7 (fun h2=>?_) (fun h2=>?_)
 ·refine AW ?_
  rw[if_pos h2]
  refine H2 ?_;exact .tuple2 (.ro _ _) (.refl _)
 rw[if_neg h2]
 refine AW ?_
 refine BM [(20,.raw (.bool (decide (p.time < 0∨1099511627776 < p.time)))),(1,.raw (.pointer (some ⟨b,0,none⟩)))] (.box b 40 (Bh p)::LF) ?_ ?_
 ·repeat' (first|(refine A7 (fun h=>?_) (fun h=>?_)<;>refine AW ?_)|(refine AR (fun h=>?_) (fun h=>?_)<;>refine AW ?_)|(refine AO (fun h=>?_) (fun h=>?_)<;>refine AW ?_)|(refine Aq (fun h=>?_) (fun h=>?_)<;>(have h2:=h;(try simp only[AB,A8,AH,AK]at h2);refine Bu ?_)))
  all_goals (refine⟨⟨Bp (by rfl) ?_,rfl⟩,.refl _⟩;first|(simp_all;done)|(simp_all;omega)|grind)
 refine AW ?_
 refine A7 (fun h3=>?_) (fun h3=>?_)
 ·refine AW ?_
  rw[if_pos h3]
  refine H2 ?_;exact .tuple2 (.ro _ _) (.refl _)
 rw[if_neg h3]
 refine AW ?_
 refine AR (fun h4=>?_) (fun h4=>?_)
 ·refine AW ?_
  rw[if_pos h4]
  refine H2 ?_;exact .tuple2 (.ro _ _) (.refl _)
 rw[if_neg (by simp[h4])]
 refine AW ?_
 refine A7 (fun h5=>?_) (fun h5=>?_)
 ·refine AW ?_
  rw[if_pos h5]
  refine H2 ?_;exact .tuple2 (.ro _ _) (.refl _)
 rw[if_neg h5]
 refine AW ?_
 refine A7 (fun h6=>?_) (fun h6=>?_)
 ·refine AW ?_
  rw[if_pos h6]
  refine H2 ?_;exact .tuple2 (.ro _ _) (.refl _)
 rw[if_neg h6]
 have:Aw (p.changes.length≤400):=⟨by omega⟩
 refine AW ?_
 refine H2 ?_;exact .refl _⟩
def PN:Nat→Nat→Str
 |0,n=> [UInt8.ofNat (48+n)]
 |f+1,n=>if n < 10 then [UInt8.ofNat (48+n)]else PN f (n / 10)++ [UInt8.ofNat (48+n % 10)]
theorem TS: ∀ (f n:Nat),n≤f→PN f n=PN n n
 |0,n,h=>by have:n=0:=by omega
            subst this;rfl
 |f+1,n,h=>by
  by_cases hn:n < 10
  ·cases n with
   |zero=>simp[PN]
   |succ m=>simp only[PN,hn,if_true]
  ·obtain⟨m,rfl⟩: ∃ m,n=m+1:=⟨n - 1,by omega⟩
   simp only[PN,hn,if_false]
   rw[TS f ((m+1) / 10) (by omega),TS m ((m+1) / 10) (by omega)]
def Ho (n:Nat):Str:=PN n n
theorem IG {n:Nat} (h:n < 10):Ho n= [UInt8.ofNat (48+n)]:=by
 unfold Ho
 cases n with
 |zero=>simp[PN]
 |succ m=>simp only[PN,h,if_true]
theorem MA {n:Nat} (h: ¬n < 10):Ho n=Ho (n / 10)++ [UInt8.ofNat (48+n % 10)]:=by
 obtain⟨m,rfl⟩: ∃ m,n=m+1:=⟨n - 1,by omega⟩
 unfold Ho
 simp only[PN,h,if_false]
 rw[TS m ((m+1) / 10) (by omega)]
theorem Yo: ∀ (m n:Nat),n < 10 ^ (m+1)→(Ho n).length≤m+1
 |0,n,h=>by rw[IG (by omega)];simp
 |m+1,n,h=>by
  by_cases hn:n < 10
  ·rw[IG hn];simp
  ·rw[MA hn,AD]
   have:=Yo m (n / 10) (by rw[Nat.div_lt_iff_lt_mul (by omega)];rw[Nat.pow_succ]at h;omega)
   simp only[AN,Af];omega
theorem KZ {n:Nat} (h:n≤140737488355328):(Ho n).length≤15:=Yo 14 n (by omega)
theorem SK: ∀ (n:Nat),n≤140737488355328→Q.Fn Tryz.prog 282 [.raw (.int .i64 (n:Int))] (.str (Ho n)):=by
 intro n
 induction n using Nat.strongRecOn with
 |_ n ih=>
 intro hn
 have ih': ∀ m:Nat,[Aw (m < n)]→C6 Tryz.prog 282 [.raw (.int .i64 (m:Int))] (.str (Ho m)):=fun m h=>⟨ih m h.out (by have:=h.out;omega)⟩
 refine Av Tryz.func282 Tryz.ntmps282 rfl (rs:= [.tmp 2]) rfl rfl fun hb LF=>?_
 refine AW ?_
 refine A7 (fun h2=>?_) (fun h2=>?_)
 ·refine AW ?_
  refine Ax (.of_eq ?_)
  rw[IG (by omega)]
 ·have:Aw (n / 10 < n):=⟨by omega⟩
  have hl:=KZ (n:=n / 10) (by omega)
  refine AW ?_
  refine YR (n:=10) (by rfl) (by rfl) (by decide) (by omega) ?_
  refine Bu ?_
  refine YP (n:=10) (by rfl) (by rfl) (by decide) ?_
  refine Bu ?_
  refine Ax (.of_eq ?_)
  rw[MA (n:=n) (by omega)]
def J2 (n:Int):Str:=if n < 0 then 45::Ho (-n).toNat else Ho n.toNat
theorem Oj {n:Int} (h: -140737488355328≤n∧n≤140737488355328):(J2 n).length≤16:=by
 unfold J2
 split
 ·have:=KZ (n:=(-n).toNat) (by omega)
  simp only[AN];omega
 ·have:=KZ (n:=n.toNat) (by omega)
  omega
instance uq (n:Int) [hs:Aw (-140737488355328≤n∧n≤140737488355328)]:C6 Tryz.prog 282 [.raw (.int .i64 n)] (.str (J2 n)):=⟨by
 obtain⟨h0,h1⟩:=hs.out
 by_cases hn:n < 0
 ·have h3:C6 Tryz.prog 282 [.raw (.int .i64 (-n))] (.str (Ho (-n).toNat)):=⟨by
   have:=SK (-n).toNat (by omega)
   rwa [show(((-n).toNat:Nat):Int)= -n by omega]at this⟩
  refine Av Tryz.func282 Tryz.ntmps282 rfl (rs:= [.tmp 2]) rfl rfl fun hb LF=>?_
  refine AW ?_
  refine A7 (fun h1=>?_) (fun h1=>?_)
  ·refine AW ?_
   refine A7 (fun h2=>?_) (fun h2=>?_)
   ·omega
   ·have hl:=KZ (n:=(-n).toNat) (by omega)
    refine AW ?_
    refine Ax (.of_eq ?_)
    rw[J2,if_pos hn];rfl
  ·omega
 ·have:=SK n.toNat (by omega)
  rw[show((n.toNat:Nat):Int)=n by omega]at this
  rw[J2,if_neg hn];exact this⟩
def Cj (s:Str):Sx:= .mk false s []
def ED (l:List Sx):Sx:= .mk true [] l
def RQ (n:Int):Sx × Int:=if n < -1099511627776∨1099511627776 < n then(Sx.zero,2)else(Cj (J2 n),0)
instance zh (n:Int):C6 Tryz.prog 223 [.raw (.int .i64 n)] (.tuple [.agg (eSx (RQ n).1),.raw (.int .i64 (RQ n).2)]):=⟨by
 refine Av Tryz.func223 Tryz.ntmps223 rfl (rs:= [.cell 2 196,.tmp 3]) rfl rfl fun hb LF=>?_
 refine Cz fun b=>?_
 refine BM [(9,.raw (.bool (decide (n < -1099511627776∨1099511627776 < n)))),(0,.raw (.int .i64 n)),(2,.raw (.pointer (some ⟨b,0,none⟩)))] (.box b 196 (eSx Sx.zero)::LF) ?_ ?_
 ·repeat' (first|(refine A7 (fun h=>?_) (fun h=>?_)<;>refine AW ?_)|(refine AR (fun h=>?_) (fun h=>?_)<;>refine AW ?_)|(refine AO (fun h=>?_) (fun h=>?_)<;>refine AW ?_)|(refine Aq (fun h=>?_) (fun h=>?_)<;>(have h2:=h;(try simp only[AB,A8,AH,AK]at h2);refine Bu ?_)))
  all_goals (refine⟨⟨Bp (by rfl) ?_,rfl,rfl⟩,.refl _⟩;first|(simp_all;done)|(simp_all;omega)|grind)
 refine AW ?_
 refine A7 (fun h=>?_) (fun h=>?_)
 ·refine AW ?_
  refine LN rfl (.of_eq ?_)
  rw[RQ,if_pos h]
 ·have:Aw (-140737488355328≤n∧n≤140737488355328):=⟨by omega⟩
  refine AW ?_
  refine LN rfl (.of_eq ?_)
  rw[RQ,if_neg h];rfl⟩
instance xt (s:Str):C6 Tryz.prog 168 [.str s] (.agg (eSx (Cj s))):=⟨by
 refine Av Tryz.func168 Tryz.ntmps168 rfl (rs:= [.cell 2 196]) rfl rfl fun hb LF=>?_
 refine Cz fun b=>?_
 refine Fp rfl (.of_eq ?_)
 rfl⟩
instance xN (l:List Sx) (t:C9):C6 Tryz.prog 167 [.slice (l.map eSx) t] (.agg (eSx (ED l))):=⟨by
 refine Av Tryz.func167 Tryz.ntmps167 rfl (rs:= [.cell 2 196]) rfl rfl fun hb LF=>?_
 refine Cz fun b=>?_
 refine Fp rfl (.of_eq ?_)
 rfl⟩
def GI (n:Int):Sx:=(RQ n).1
instance tV (n:Int):C6 Tryz.prog 169 [.raw (.int .i64 n)] (.agg (eSx (GI n))):=⟨by
 refine Av Tryz.func169 Tryz.ntmps169 rfl (rs:= [.cell 2 196]) rfl rfl fun hb LF=>?_
 refine Cz fun b=>?_
 refine Ew fun b2=>?_
 refine Fp rfl (.of_eq ?_)
 rfl⟩
instance y9 (d:Dig):C6 Tryz.prog 218 [.agg (eDig d)] (.str d.bs):=⟨by
 refine Av Tryz.func218 Tryz.ntmps218 rfl (rs:= [.tmp 2]) rfl rfl fun hb LF=>?_
 refine Cz fun b=>?_
 refine Ax (.of_eq ?_)
 rfl⟩
def KC (d:Dig):Sx:=if d=Dig.zero then Cj []else Cj d.bs
instance uH (d:Dig):C6 Tryz.prog 164 [.agg (eDig d)] (.agg (eSx (KC d))):=⟨by
 refine Av Tryz.func164 Tryz.ntmps164 rfl (rs:= [.cell 2 196]) rfl rfl fun hb LF=>?_
 refine Cz fun b=>?_
 refine Ew fun b2=>?_
 refine A7 (fun h=>?_) (fun h=>?_)
 ·refine AW ?_
  refine Fp rfl (.of_eq ?_)
  rw[KC,if_pos h]
 ·refine AW ?_
  refine Fp rfl (.of_eq ?_)
  rw[KC,if_neg h]⟩
def GH (x:Ident):Sx:=ED [KC x.patch,GI x.n]
instance mJ (x:Ident):C6 Tryz.prog 219 [.agg (eIdent x)] (.agg (eSx (GH x))):=⟨by
 refine Av Tryz.func219 Tryz.ntmps219 rfl (rs:= [.cell 2 196]) rfl rfl fun hb LF=>?_
 refine aZ fun b=>?_
 refine mi fun b2=>?_
 refine Bb 8 ?_ ?_
 ·decide+kernel
 refine Bu ?_
 refine Fp rfl (.of_eq ?_)
 rfl⟩
def J0 (l:List Ident):Sx:=ED (l.map GH)
instance xC (l:List Ident) (t:C9) [hs:Aw (l.length≤1000000)]:C6 Tryz.prog 220 [.slice (l.map eIdent) t] (.agg (eSx (J0 l))):=⟨by
 refine Av Tryz.func220 Tryz.ntmps220 rfl (rs:= [.cell 2 196]) rfl rfl fun hb LF=>?_
 have hlen:=hs.out
 refine Cz fun b=>?_
 refine EP 3 ?_
 refine AZ (σ:=Nat × C9 × List Sx) (fun k=>k.1≤l.length∧k.2.2=(l.take k.1).map GH) (fun k=>l.length - k.1) (fun k=> [(0,.slice (l.map eIdent) t),(2,.raw (.pointer (some ⟨b,0,none⟩))),(3,.slice (k.2.2.map eSx) k.2.1),(4,.raw (.int .i64 k.1))]) (fun k=> .tok k.2.1 k.2.2.length 3:: .box b 196 (eSx Sx.zero)::LF) (0,.nil,[]) ⟨by simp,by simp⟩ ⟨rfl,rfl,rfl,rfl⟩ (.refl _) ?_
 rintro⟨k,v,out⟩ ⟨hk,he⟩
 dsimp only at hk he
 have hol:out.length=k:=by rw[he];simp;omega
 refine AW ?_
 refine A7 (fun hc=>?_) (fun hc=>?_)
 ·have hlt:k < l.length:=by omega
  refine H3 fun v'=>?_
  refine⟨(k+1,v',out++ [GH l[k]]),⟨by dsimp only;omega,?_⟩,by dsimp only;omega,⟨rfl,rfl,rfl,rfl⟩,.refl _⟩
  dsimp only
  rw[A6 hlt,Al,he];rfl
 ·refine AW ?_
  refine Fp rfl (.of_eq ?_)
  rw[AA (by omega)]at he
  rw[J0,←he]⟩
def P4:Nat→Sx→Prop
 |0,_=>False
 |d+1,x=>(x.isList=false∧x.list= []∧x.atom.length≤65536)∨(x.isList=true∧x.atom= []∧ ∀ y∈x.list,P4 d y)
def IU:Nat→Sx→Nat
 |0,_=>0
 |d+1,x=>if x.isList then 1+(x.list.map (IU d)).sum else 1
def Dr:Nat→Sx→Str
 |0,_=> []
 |d+1,x=>if x.isList then 40::(x.list.flatMap (Dr d)++ [41])else Ho x.atom.length++58::x.atom
theorem L5 {l:List Nat} {k:Nat}:(l.take k).sum≤l.sum:=by
 conv=>rhs;rw[←CH k l,Df]
 omega
theorem Zz: ∀ (d:Nat) (x:Sx) (limit depth:Int),P4 d x→(IU d x:Int)≤limit→limit≤1000000→(d:Int)≤depth→depth≤1000→Q.Fn Tryz.prog 280 [.agg (eSx x),.raw (.int .i64 limit),.raw (.int .i64 depth)] (.raw (.int .i64 (IU d x:Int)))
 |0,x,limit,depth,hw,_,_,_,_=>hw.elim
 |d+1,x,limit,depth,hw,hn,hl,hd,hd2=>by
  have ih: ∀ (y:Sx) (lim dep:Int),[Aw (P4 d y∧(IU d y:Int)≤lim∧lim≤1000000∧(d:Int)≤dep∧dep≤1000)]→C6 Tryz.prog 280 [.agg (eSx y),.raw (.int .i64 lim),.raw (.int .i64 dep)] (.raw (.int .i64 (IU d y:Int))):=fun y lim dep h=>⟨by
   obtain⟨h1,h2,h3,h4,h5⟩:=h.out
   exact Zz d y lim dep h1 h2 h3 h4 h5⟩
  have hpos:1≤IU (d+1) x:=by unfold IU;split<;>omega
  refine Av Tryz.func280 Tryz.ntmps280 rfl (rs:= [.tmp 6]) rfl rfl fun hb LF=>?_
  refine Cz fun b=>?_
  refine Aq (fun hp=>?_) (fun hp=>?_)
  ·have:=Az hp;omega
  refine Bu ?_
  refine A7 (fun h1=>?_) (fun h1=>?_)
  ·omega
  refine AW ?_
  refine AO (fun h2=>?_) (fun h2=>?_)
  ·refine AW ?_
   refine Ax (.of_eq ?_)
   have:x.isList=false:=by simpa using h2
   simp[IU,this]
  have hL:x.isList=true:=by simpa using h2
  rcases hw with ⟨h3,_⟩|⟨_,_,hw⟩
  ·rw[hL]at h3;cases h3
  have hnd:IU (d+1) x=1+(x.list.map (IU d)).sum:=by simp[IU,hL]
  rw[hnd]at hn ⊢
  have hlen:x.list.length≤140737488355328:=by
   have:=(hb (.agg (eSx x)) (by simp)).agg_at (c:= .slice (x.list.map eSx) .ro) (by rw[Fq];simp)
   exact this.slice_map
  refine AW ?_
  refine AZ (σ:=Nat) (fun k=>k≤x.list.length) (fun k=>x.list.length - k) (fun k=> [(1,.raw (.int .i64 limit)),(2,.raw (.int .i64 depth)),(3,.raw (.pointer (some ⟨b,0,none⟩))),(7,.raw (.int .i64 ((1+((x.list.map (IU d)).take k).sum:Nat):Int))),(8,.raw (.int .i64 k))]) (fun _=> .box b 196 (eSx x)::LF) 0 (by simp) ⟨rfl,rfl,rfl,by simp;rfl,rfl⟩ (.refl _) ?_
  intro k hk
  have hsk:=L5 (l:=x.list.map (IU d)) (k:=k)
  have hsk1:=L5 (l:=x.list.map (IU d)) (k:=k+1)
  refine AW ?_
  refine Aq (fun hp=>?_) (fun hp=>?_)
  ·have hc:=Az hp
   have hlt:k < x.list.length:=by omega
   have e:((x.list.map (IU d)).take (k+1)).sum=((x.list.map (IU d)).take k).sum+IU d x.list[k]:=by
    rw[A6 (by simpa using hlt),Df];simp
   refine Bu ?_
   refine A7 (fun h4=>?_) (fun h4=>?_)
   ·have:Aw (P4 d x.list[k]∧(IU d x.list[k]:Int)≤limit - ((1+((x.list.map (IU d)).take k).sum:Nat):Int)∧limit - ((1+((x.list.map (IU d)).take k).sum:Nat):Int)≤1000000∧(d:Int)≤depth - 1∧depth - 1≤1000):=⟨hw _ (AG hlt),by omega,by omega,by omega,by omega⟩
    refine AW ?_
    refine⟨k+1,by omega,by dsimp only;omega,⟨rfl,rfl,rfl,?_,rfl⟩,.refl _⟩
    show PV.raw (Value.int .i64 _)=PV.raw (Value.int .i64 _)
    rw[e];congr 2;omega
   ·omega
  ·have hc:=Bf hp
   refine Bu ?_
   refine Ax (.of_eq ?_)
   rw[AA (by simp;omega)]
theorem aB: ∀ (d:Nat) (x:Sx),P4 d x→Q.Fn Tryz.prog 281 [.agg (eSx x)] (.raw (.int .i64 0))
 |0,x,hw=>hw.elim
 |d+1,x,hw=>by
  have ih: ∀ (y:Sx),[Aw (P4 d y)]→C6 Tryz.prog 281 [.agg (eSx y)] (.raw (.int .i64 0)):=fun y h=>⟨aB d y h.out⟩
  refine Av Tryz.func281 Tryz.ntmps281 rfl (rs:= [.tmp 2]) rfl rfl fun hb LF=>?_
  have hlen:x.list.length≤140737488355328:=by
   have:=(hb (.agg (eSx x)) (by simp)).agg_at (c:= .slice (x.list.map eSx) .ro) (by rw[Fq];simp)
   exact this.slice_map
  refine Cz fun b=>?_
  refine AO (fun h2=>?_) (fun h2=>?_)
  ·have hL:x.isList=false:=by simpa using h2
   rcases hw with ⟨_,h3,h4⟩|⟨h3,_⟩
   ·refine AW ?_
    refine A7 (fun h5=>?_) (fun h5=>?_)
    ·rw[h3]at h5;simp at h5
    refine AW ?_
    refine A7 (fun h6=>?_) (fun h6=>?_)
    ·omega
    refine AW ?_
    exact Ax (.refl _)
   ·rw[hL]at h3;cases h3
  have hL:x.isList=true:=by simpa using h2
  rcases hw with ⟨h3,_⟩|⟨_,ha,hw⟩
  ·rw[hL]at h3;cases h3
  refine AW ?_
  refine AR (fun h5=>?_) (fun h5=>?_)
  ·exact absurd ha h5
  refine AW ?_
  refine AZ (σ:=Nat) (fun k=>k≤x.list.length) (fun k=>x.list.length - k) (fun k=> [(1,.raw (.pointer (some ⟨b,0,none⟩))),(3,.raw (.int .i64 k))]) (fun _=> .box b 196 (eSx x)::LF) 0 (by simp) ⟨rfl,rfl⟩ (.refl _) ?_
  intro k hk
  refine AW ?_
  refine A7 (fun hc=>?_) (fun hc=>?_)
  ·have hlt:k < x.list.length:=by omega
   have:Aw (P4 d x.list[k]):=⟨hw _ (AG hlt)⟩
   refine AW ?_
   exact⟨k+1,by omega,by dsimp only;omega,⟨rfl,rfl⟩,.refl _⟩
  ·refine AW ?_
   exact Ax (.refl _)
def oI (x:Sx):Prop:=P4 8 x∧IU 8 x≤20000
instance vv (x:Sx) [hs:Aw (oI x)]:C6 Tryz.prog 221 [.agg (eSx x)] (.raw (.int .i64 0)):=⟨by
 obtain⟨h1,h2⟩:=hs.out
 have i1:C6 Tryz.prog 280 [.agg (eSx x),.raw (.int .i64 20000),.raw (.int .i64 12)] (.raw (.int .i64 (IU 8 x:Int))):=⟨Zz 8 x 20000 12 h1 (by omega) (by omega) (by omega) (by omega)⟩
 have i2:C6 Tryz.prog 281 [.agg (eSx x)] (.raw (.int .i64 0)):=⟨aB 8 x h1⟩
 refine Av Tryz.func221 Tryz.ntmps221 rfl (rs:= [.tmp 2]) rfl rfl fun hb LF=>?_
 refine Cz fun b=>?_
 refine A7 (fun h=>?_) (fun h=>?_)
 ·omega
 refine AW ?_
 exact Ax (.refl _)⟩
theorem Il {α β:Type} {l:List α} {f:α→List β} {k:Nat} (h:k < l.length):(l.take (k+1)).flatMap f=(l.take k).flatMap f++f l[k]:=by
 rw[A6 h,K0];simp
theorem JG {α β:Type} {l:List α} {f:α→List β} {k:Nat}:((l.take k).flatMap f).length≤(l.flatMap f).length:=by
 conv=>rhs;rw[←CH k l,K0,AD]
 omega
theorem Rs {α β:Type} {l:List α} {f:α→List β} {a:α} (h:a∈l):(f a).length≤(l.flatMap f).length:=by
 induction l with
 |nil=>cases h
 |cons x l ih=>
  rw[DT,AD]
  rcases AF.1 h with rfl|h
  ·omega
  ·have:=ih h;omega
theorem W2: ∀ (d:Nat) (x:Sx),P4 d x→(Dr d x).length≤1000000000→Q.Fn Tryz.prog 222 [.agg (eSx x)] (.str (Dr d x))
 |0,x,hw,_=>hw.elim
 |d+1,x,hw,hl=>by
  have ih: ∀ (y:Sx),[Aw (P4 d y∧(Dr d y).length≤1000000000)]→C6 Tryz.prog 222 [.agg (eSx y)] (.str (Dr d y)):=fun y h=>⟨W2 d y h.out.1 h.out.2⟩
  refine Av Tryz.func222 Tryz.ntmps222 rfl (rs:= [.tmp 2]) rfl rfl fun hb LF=>?_
  have hlen:x.list.length≤140737488355328:=by
   have:=(hb (.agg (eSx x)) (by simp)).agg_at (c:= .slice (x.list.map eSx) .ro) (by rw[Fq];simp)
   exact this.slice_map
  refine Cz fun b=>?_
  refine AO (fun h2=>?_) (fun h2=>?_)
  ·have hL:x.isList=false:=by simpa using h2
   rcases hw with ⟨_,h3,h4⟩|⟨h3,_⟩
   ·have:Aw (-140737488355328≤(x.atom.length:Int)∧(x.atom.length:Int)≤140737488355328):=⟨by omega,by omega⟩
    have hd:=Oj (n:=(x.atom.length:Int)) ⟨by omega,by omega⟩
    refine AW ?_
    refine Ax (.of_eq ?_)
    have e:J2 (x.atom.length:Int)=Ho x.atom.length:=by
     rw[J2,if_neg (by omega)];rfl
    simp[Dr,hL,e]
   ·rw[hL]at h3;cases h3
  have hL:x.isList=true:=by simpa using h2
  rcases hw with ⟨h3,_⟩|⟨_,ha,hw⟩
  ·rw[hL]at h3;cases h3
  have he:Dr (d+1) x=40::(x.list.flatMap (Dr d)++ [41]):=by simp[Dr,hL]
  rw[he]at hl ⊢
  simp only[AN,AD,Af]at hl
  refine AW ?_
  refine AZ (σ:=Nat × Str) (fun k=>k.1≤x.list.length∧k.2=40::(x.list.take k.1).flatMap (Dr d)) (fun k=>x.list.length - k.1) (fun k=> [(1,.raw (.pointer (some ⟨b,0,none⟩))),(3,.str k.2),(4,.raw (.int .i64 k.1))]) (fun _=> .box b 196 (eSx x)::LF) (0,[40]) ⟨by simp,by simp⟩ ⟨rfl,rfl,rfl⟩ (.refl _) ?_
  rintro⟨k,s⟩ ⟨hk,hs⟩
  dsimp only at hk hs
  have hsl:s.length≤1+(x.list.flatMap (Dr d)).length:=by
   rw[hs,AN]
   have:=JG (l:=x.list) (f:=Dr d) (k:=k)
   omega
  refine AW ?_
  refine A7 (fun hc=>?_) (fun hc=>?_)
  ·have hlt:k < x.list.length:=by omega
   have hel:(Dr d x.list[k]).length≤(x.list.flatMap (Dr d)).length:=Rs (AG hlt)
   have:Aw (P4 d x.list[k]∧(Dr d x.list[k]).length≤1000000000):=⟨hw _ (AG hlt),by omega⟩
   refine AW ?_
   refine⟨(k+1,s++Dr d x.list[k]),⟨by dsimp only;omega,?_⟩,by dsimp only;omega,⟨rfl,rfl,rfl⟩,.refl _⟩
   dsimp only
   rw[Il hlt,hs,B2]
  ·refine AW ?_
   refine Ax (.of_eq ?_)
   rw[hs,AA (by omega)];rfl
instance um (x:Sx) [hs:Aw (oI x∧(Dr 8 x).length≤1000000000)]:C6 Tryz.prog 166 [.agg (eSx x)] (.tuple [.str (Dr 8 x),.raw (.int .i64 0)]):=⟨by
 obtain⟨h1,h2⟩:=hs.out
 have:Aw (oI x):=⟨h1⟩
 have i2:C6 Tryz.prog 222 [.agg (eSx x)] (.str (Dr 8 x)):=⟨W2 8 x h1.1 h2⟩
 refine Av Tryz.func166 Tryz.ntmps166 rfl (rs:= [.tmp 2,.tmp 3]) rfl rfl fun hb LF=>?_
 refine Cz fun b=>?_
 refine H2 ?_
 exact .refl _⟩
def K2 (c:Chg):List Sx:=if 2≤c.kind∧c.kind≤6 then [GH c.file]else []
def IK (c:Chg):List Sx:=if c.kind=1 then [GI c.type]else if c.kind=2 then [GH c.parent,Cj c.name]else if c.kind=3 then [GI c.mode]else if c.kind=4 then [Cj c.data]else if c.kind=5∨c.kind=6 then [GH c.after,GH c.before]else []
def L7 (c:Chg):List Sx:=if c.kind=5 then [ED (c.lines.map Cj)]else if c.kind≠1 then [J0 c.over]else []
def Kv (c:Chg):Sx:=ED (([GI c.kind]++K2 c++IK c)++L7 c)
theorem RK (c:Chg):(K2 c).length≤1:=by unfold K2;split<;>simp
theorem RJ (c:Chg):(IK c).length≤2:=by
 unfold IK
 repeat' split
 all_goals simp
instance uM (c:Chg) [hs:Aw (c.lines.length≤100000∧c.over.length≤100000)]:C6 Tryz.prog 165 [.agg (eChg c)] (.agg (eSx (Kv c))):=⟨by
 refine Av Tryz.func165 Tryz.ntmps165 rfl (rs:= [.cell 2 196]) rfl rfl fun hb LF=>?_
 obtain⟨hl1,hl2⟩:=hs.out
 have i1:Aw (c.over.length≤1000000):=⟨by omega⟩
 have hc1:=RK c
 have hc2:=RJ c
 refine aZ fun b=>?_
 refine Bw fun b2=>?_
 refine sH fun t=>?_
 refine BM [(17,.raw (.bool (decide (2≤c.kind∧c.kind≤6)))),(1,.raw (.pointer (some ⟨b,0,none⟩))),(2,.raw (.pointer (some ⟨b2,0,none⟩))),(3,.slice ([GI c.kind].map eSx) t)] (.tok t [GI c.kind].length 3:: .box b2 196 (eSx Sx.zero):: .box b 73 (eChg c)::LF) ?_ ?_
 ·repeat' (first|(refine A7 (fun h=>?_) (fun h=>?_)<;>refine AW ?_)|(refine AR (fun h=>?_) (fun h=>?_)<;>refine AW ?_)|(refine AO (fun h=>?_) (fun h=>?_)<;>refine AW ?_)|(refine Aq (fun h=>?_) (fun h=>?_)<;>(have h2:=h;(try simp only[AB,A8,AH,AK]at h2);refine Bu ?_)))
  all_goals (refine⟨⟨Bp (by rfl) ?_,rfl,rfl,rfl⟩,.refl _⟩;first|(simp_all;done)|(simp_all;omega)|grind)
 refine AW ?_
 refine Cx (σ:=C9 × List Sx) (fun s=>s.2= [GI c.kind]++K2 c) (fun s=> [(1,.raw (.pointer (some ⟨b,0,none⟩))),(2,.raw (.pointer (some ⟨b2,0,none⟩))),(3,.slice (s.2.map eSx) s.1)]) (fun s=> .tok s.1 s.2.length 3:: .box b2 196 (eSx Sx.zero):: .box b 73 (eChg c)::LF) ?_ ?_
 ·refine A7 (fun h=>?_) (fun h=>?_)
  ·refine H3 fun t'=>?_
   exact⟨(t',[GI c.kind]++ [GH c.file]),by dsimp only;rw[K2,if_pos h],⟨rfl,rfl,rfl⟩,.refl _⟩
  ·refine AW ?_
   exact⟨(t,[GI c.kind]),by dsimp only;rw[K2,if_neg h];rfl,⟨rfl,rfl,rfl⟩,.refl _⟩
 rintro⟨t,out⟩ ho
 dsimp only at ho
 have hol:out.length≤2:=by rw[ho,AD,B9];omega
 refine AW ?_
 refine Cx (σ:=C9 × List Sx) (fun s=>s.2= [GI c.kind]++K2 c++IK c) (fun s=> [(1,.raw (.pointer (some ⟨b,0,none⟩))),(2,.raw (.pointer (some ⟨b2,0,none⟩))),(3,.slice (s.2.map eSx) s.1)]) (fun s=> .tok s.1 s.2.length 3:: .box b2 196 (eSx Sx.zero):: .box b 73 (eChg c)::LF) ?_ ?_
 ·refine A7 (fun h1=>?_) (fun h1=>?_)
  ·refine H3 fun t'=>?_
   exact⟨(t',out++ [GI c.type]),by dsimp only;rw[IK,if_pos h1,ho],⟨rfl,rfl,rfl⟩,.refl _⟩
  refine AW ?_
  refine A7 (fun h2=>?_) (fun h2=>?_)
  ·refine PG ?_
   refine Bb 8 ?_ ?_
   ·decide+kernel
   refine GG fun t'=>?_
   exact⟨(t',out++ [GH c.parent,Cj c.name]),by dsimp only;rw[IK,if_neg h1,if_pos h2,ho],⟨rfl,rfl,rfl⟩,.refl _⟩
  refine AW ?_
  refine A7 (fun h3=>?_) (fun h3=>?_)
  ·refine H3 fun t'=>?_
   exact⟨(t',out++ [GI c.mode]),by dsimp only;rw[IK,if_neg h1,if_neg h2,if_pos h3,ho],⟨rfl,rfl,rfl⟩,.refl _⟩
  refine AW ?_
  refine A7 (fun h4=>?_) (fun h4=>?_)
  ·refine H3 fun t'=>?_
   exact⟨(t',out++ [Cj c.data]),by dsimp only;rw[IK,if_neg h1,if_neg h2,if_neg h3,if_pos h4,ho],⟨rfl,rfl,rfl⟩,.refl _⟩
  refine AW ?_
  refine A7 (fun h5=>?_) (fun h5=>?_)
  ·refine PG ?_
   refine Ka (t:=true) (by show PV.raw (.bool (decide (c.kind=5)))=_;rw[BO h5]) (fun _=>?_) (by simp)
   refine PG ?_
   refine Bb 8 ?_ ?_
   ·decide+kernel
   refine GG fun t'=>?_
   exact⟨(t',out++ [GH c.after,GH c.before]),by dsimp only;rw[IK,if_neg h1,if_neg h2,if_neg h3,if_neg h4,if_pos (.inl h5),ho],⟨rfl,rfl,rfl⟩,.refl _⟩
  refine AW ?_
  refine A7 (fun h6=>?_) (fun h6=>?_)
  ·refine PG ?_
   refine Bb 8 ?_ ?_
   ·decide+kernel
   refine GG fun t'=>?_
   exact⟨(t',out++ [GH c.after,GH c.before]),by dsimp only;rw[IK,if_neg h1,if_neg h2,if_neg h3,if_neg h4,if_pos (.inr h6),ho],⟨rfl,rfl,rfl⟩,.refl _⟩
  ·refine AW ?_
   exact⟨(t,out),by dsimp only;rw[IK,if_neg h1,if_neg h2,if_neg h3,if_neg h4,if_neg (by rintro(h|h);exact h5 h;exact h6 h),BQ,ho],⟨rfl,rfl,rfl⟩,.refl _⟩
 clear ho hol
 rintro⟨t,out⟩ ho
 dsimp only at ho
 have hol:out.length≤4:=by rw[ho,AD,AD,B9];omega
 refine AW ?_
 refine A7 (fun h5=>?_) (fun h5=>?_)
 ·refine AW ?_
  refine EP 3 ?_
  refine AZ (σ:=Nat × C9 × List Sx) (fun k=>k.1≤c.lines.length∧k.2.2=(c.lines.take k.1).map Cj) (fun k=>c.lines.length - k.1) (fun k=> [(1,.raw (.pointer (some ⟨b,0,none⟩))),(2,.raw (.pointer (some ⟨b2,0,none⟩))),(3,.slice (out.map eSx) t),(4,.slice (k.2.2.map eSx) k.2.1),(5,.raw (.int .i64 k.1))]) (fun k=> .tok k.2.1 k.2.2.length 3:: .tok t out.length 3:: .box b2 196 (eSx Sx.zero):: .box b 73 (eChg c)::LF) (0,.nil,[]) ⟨by simp,by simp⟩ ⟨rfl,rfl,rfl,rfl,rfl⟩ (.refl _) ?_
  rintro⟨k,v,l⟩ ⟨hk,he⟩
  dsimp only at hk he
  have hll:l.length=k:=by rw[he];simp;omega
  refine AW ?_
  refine A7 (fun hc=>?_) (fun hc=>?_)
  ·have hlt:k < c.lines.length:=by omega
   refine H3 fun v'=>?_
   refine⟨(k+1,v',l++ [Cj c.lines[k]]),⟨by dsimp only;omega,?_⟩,by dsimp only;omega,⟨rfl,rfl,rfl,rfl,rfl⟩,.refl _⟩
   dsimp only
   rw[A6 hlt,Al,he];rfl
  ·refine H3 fun v'=>?_
   refine Fp rfl (.of_eq ?_)
   rw[AA (by omega)]at he
   rw[Kv,L7,if_pos h5,←he,ho]
 ·refine AW ?_
  refine AR (fun h6=>?_) (fun h6=>?_)
  ·refine H3 fun v'=>?_
   refine Fp rfl (.of_eq ?_)
   rw[Kv,L7,if_neg h5,if_pos h6,ho]
  ·refine AW ?_
   refine Fp rfl (.of_eq ?_)
   rw[Kv,L7,if_neg h5,if_neg (by simp[h6]),BQ,ho]⟩
def X2 (p:Pat):Sx:=ED [Cj [113,117,105,108,116,49],Cj p.author,Cj p.message,GI p.time,ED (p.deps.map KC),ED (p.changes.map Kv)]
def Na (p:Pat):Str:=Dr 8 (X2 p)
structure W3 (p:Pat):Prop where
 deps:p.deps.length≤100000
 chgs:p.changes.length≤100000
 chg: ∀ c∈p.changes,c.lines.length≤100000∧c.over.length≤100000
 ok:oI (X2 p)
 len:(Na p).length≤1000000000
def KD (p:Pat):Str × Int:=if 65536 < ((Na p).length:Int)then([],4)else(Na p,0)
instance uG (p:Pat) [hs:Aw (W3 p)]:C6 Tryz.prog 114 [.agg (Bh p)] (.tuple [.str (KD p).1,.raw (.int .i64 (KD p).2)]):=⟨by
 refine Av Tryz.func114 Tryz.ntmps114 rfl (rs:= [.tmp 2,.tmp 3]) rfl rfl fun hb LF=>?_
 have hd:=hs.out.deps
 have hch:=hs.out.chgs
 refine Cz fun b=>?_
 refine EP 3 ?_
 refine EP 3 ?_
 refine AZ (σ:=Nat × C9 × List Sx) (fun k=>k.1≤p.deps.length∧k.2.2=(p.deps.take k.1).map KC) (fun k=>p.deps.length - k.1) (fun k=> [(1,.raw (.pointer (some ⟨b,0,none⟩))),(4,.slice (k.2.2.map eSx) k.2.1),(5,.slice [] .nil),(6,.raw (.int .i64 k.1))]) (fun k=> .tok k.2.1 k.2.2.length 3:: .tok .nil 0 3:: .box b 40 (Bh p)::LF) (0,.nil,[]) ⟨by simp,by simp⟩ ⟨rfl,rfl,rfl,rfl⟩ (.refl _) ?_
 rintro⟨k,v,l⟩ ⟨hk,he⟩
 dsimp only at hk he
 have hll:l.length=k:=by rw[he];simp;omega
 refine AW ?_
 refine A7 (fun hc=>?_) (fun hc=>?_)
 ·have hlt:k < p.deps.length:=by omega
  refine H3 fun v'=>?_
  refine⟨(k+1,v',l++ [KC p.deps[k]]),⟨by dsimp only;omega,?_⟩,by dsimp only;omega,⟨rfl,rfl,rfl,rfl⟩,.refl _⟩
  dsimp only
  rw[A6 hlt,Al,he];rfl
 rw[AA (by omega)]at he
 clear hll
 refine AW ?_
 refine AZ (σ:=Nat × C9 × List Sx) (fun k=>k.1≤p.changes.length∧k.2.2=(p.changes.take k.1).map Kv) (fun k=>p.changes.length - k.1) (fun k=> [(1,.raw (.pointer (some ⟨b,0,none⟩))),(4,.slice (l.map eSx) v),(5,.slice (k.2.2.map eSx) k.2.1),(7,.raw (.int .i64 k.1))]) (fun k=> .tok k.2.1 k.2.2.length 3:: .box b 40 (Bh p)::LF) (0,.nil,[]) ⟨by simp,by simp⟩ ⟨rfl,rfl,rfl,rfl⟩ (.cons _ (.refl _)) ?_
 rintro⟨k,v,m⟩ ⟨hk,hm⟩
 dsimp only at hk hm
 have hml:m.length=k:=by rw[hm];simp;omega
 refine AW ?_
 refine A7 (fun hc=>?_) (fun hc=>?_)
 ·have hlt:k < p.changes.length:=by omega
  have:Aw (p.changes[k].lines.length≤100000∧p.changes[k].over.length≤100000):=⟨hs.out.chg _ (AG hlt)⟩
  refine H3 fun v'=>?_
  refine⟨(k+1,v',m++ [Kv p.changes[k]]),⟨by dsimp only;omega,?_⟩,by dsimp only;omega,⟨rfl,rfl,rfl,rfl⟩,.refl _⟩
  dsimp only
  rw[A6 hlt,Al,hm];rfl
 rw[AA (by omega)]at hm
 have e:X2 p=ED [Cj [113,117,105,108,116,49],Cj p.author,Cj p.message,GI p.time,ED l,ED m]:=by rw[X2,←he,←hm]
 have i1:Aw (oI (ED [Cj [113,117,105,108,116,49],Cj p.author,Cj p.message,GI p.time,ED l,ED m])∧(Dr 8 (ED [Cj [113,117,105,108,116,49],Cj p.author,Cj p.message,GI p.time,ED l,ED m])).length≤1000000000):=by
  rw[←e];exact⟨hs.out.ok,hs.out.len⟩
 refine AW ?_
 refine A7 (fun h=>?_) (fun h=>?_)
 ·refine AW ?_
  refine H2 ?_
  rw[←e]at h
  have h':65536 < ((Na p).length:Int):=h
  rw[KD,if_pos h']
  exact .refl _
 ·refine AW ?_
  refine H2 ?_
  rw[←e]at h
  have h': ¬65536 < ((Na p).length:Int):=h
  rw[KD,if_neg h',Na,e]
  exact .refl _⟩
end Go.Proofs
namespace Go.Q
open Go
section
variable {P:Program} {N:Nat} {all:Array Oper} {K:Env→List Res→Prop} {fl:List Bool} {os:List Oper} {ρ:Env} {L:List Res} {Q:PPost} {c:Code} {d:Nat} {ty:TypeId} {pos:String} {af:Array Edge}
theorem fC {T n E sz by_:Nat} [hT:Uz P T n E] [hE:Eg P E sz by_] {x y:Operand} {b off:Nat} {kk:IntKind} {i:Nat} (hx:ρ.ev x= .raw (.pointer (some ⟨b,off,none⟩))) (hy:ρ.ev y= .raw (.int kk (@OfNat.ofNat Int i _))) (hi:i < n)
  (k:AV P N all K fl.tail os (CV ρ d (.raw (.pointer (some ⟨b,off+(@OfNat.ofNat Nat i _)*sz,none⟩)))) L) (hd:Nat.blt d N=true:=by rfl):AV P N all K fl (⟨some d,.indexAddr T x y,ty,pos,af,none⟩::os) ρ L:=
 QK (i:=i) hx hy hi k hd
theorem fE {T n E sz by_:Nat} [hT:Uz P T n E] [hE:Eg P E sz by_] {x y:Operand} {b off:Nat} {kk:IntKind} {i:Int} (hx:ρ.ev x= .raw (.pointer (some ⟨b,off,none⟩))) (hy:ρ.ev y= .raw (.int kk i)) (h0:0≤i) (hi:i.toNat < n)
  (k:AV P N all K fl.tail os (CV ρ d (.raw (.pointer (some ⟨b,off+i.toNat*sz,none⟩)))) L) (hd:Nat.blt d N=true:=by rfl):AV P N all K fl (⟨some d,.indexAddr T x y,ty,pos,af,none⟩::os) ρ L:=
 QK (i:=i.toNat) hx (by rw[hy,Int.toNat_of_nonneg h0]) hi k hd
theorem fB {T:TypeId} [hT:S3 P T] {x y:Operand} {s:Str} {ax:PV} {kk:IntKind} {n:Int} (hx:ρ.ev x=ax) [jx:K6 ax s] (hy:ρ.ev y= .raw (.int kk n)) (h0:0≤n) (hn:n.toNat < s.length) (k:AV P N all K fl.tail os (CV ρ d (.raw (.int .u8 ((s.getD n.toNat 0).toNat:Int)))) L) (hd:Nat.blt d N=true:=by rfl):
  AV P N all K fl (⟨some d,.index T x y,ty,pos,af,none⟩::os) ρ L:=
 YZ (n:=n.toNat) hx (by rw[hy,Int.toNat_of_nonneg h0]) hn (by have e:s[n.toNat]=s.getD n.toNat 0:=by simp[List.getD,hn]
                                                              rw[e];exact k) hd
theorem KL {T n E by_:Nat} {z:List PV} [hT:Uz P T n E] [hE:Eg P E 1 by_] [hZ:Ck P T z] {parts:Array (Nat × Operand)} (xs:List Operand) (ws:List Nat) (hp:parts=(xs.zipIdx.map fun p=>(p.2,p.1)).toArray) (hx:xs.map ρ.ev=eW ws) (hz:z.length=ws.length) (hn:xs.length=ws.length)
  (k:AV P N all K fl.tail os (CV ρ d (.agg (eW ws))) L) (hd:Nat.blt d N=true:=by rfl):AV P N all K fl (⟨some d,.build T parts,ty,pos,af,none⟩::os) ρ L:=by
 subst hp;exact jQ ws hx hz hn k hd
theorem jB {T T':TypeId} {x y:Operand} {m n:Nat} (hx:ρ.ev x= .raw (.int .i64 (m:Int))) (hy:ρ.ev y= .raw (.int .i64 (@OfNat.ofNat Int n _))) (hn:n≠0) (hm:m≤9223372036854775807) (k:AV P N all K fl.tail os (CV ρ d (.raw (.int .i64 ((m / (@OfNat.ofNat Nat n _):Nat):Int)))) L) (hd:Nat.blt d N=true:=by rfl):
  AV P N all K fl (⟨some d,.binOp .quo T x y T',ty,pos,af,none⟩::os) ρ L:=YR (n:=n) hx hy hn hm k hd
theorem ar {T T':TypeId} {x y:Operand} {m n:Nat} (hx:ρ.ev x= .raw (.int .i64 (m:Int))) (hy:ρ.ev y= .raw (.int .i64 (@OfNat.ofNat Int n _))) (hn:n≠0) (k:AV P N all K fl.tail os (CV ρ d (.raw (.int .i64 ((m % (@OfNat.ofNat Nat n _):Nat):Int)))) L) (hd:Nat.blt d N=true:=by rfl):
  AV P N all K fl (⟨some d,.binOp .rem T x y T',ty,pos,af,none⟩::os) ρ L:=YP (n:=n) hx hy hn k hd
theorem xG {A B:Prop} (k:B) (h:OU B→A:=by
  intro hB
  first
   |(refine ko ?_;first|refine KB (by(conv=>lhs;whnf);done) ?_)
   |(refine Zf ?_;first|refine VU (by(conv=>lhs;whnf);done) ?_)
   |(refine kp ?_;first|refine dF (by rfl) (by repeat(first|exact AI|apply AL)) (by omega) ?_|refine YV (by rfl) (by repeat(first|exact AI|apply AL)) (hl:=(by first|infer_instance|fail)) ?_|refine dI (by rfl) (by repeat(first|exact AI|apply AL)) (by omega) ?_)
   |(refine rE ?_;first|refine av (by rfl) (hr:=(by first|infer_instance|fail)) ?_|refine dK (by rfl) (by(conv=>lhs;whnf);done) ?_)
   |(refine rB ?_;first|refine jH (by rfl) ?_|refine jG (by(conv=>lhs;whnf);done) (jx:=(by first|infer_instance|fail)) ?_|refine jI (by rfl) ?_)
   |(refine bu ?_;first|refine XL (by(conv=>lhs;whnf);done) (hN0:=(by first|infer_instance|fail)) (hc:=(by first|infer_instance|fail)) ?_|refine dq (by(conv=>lhs;whnf);done) (by(conv=>lhs;whnf);done) (hN0:=(by first|infer_instance|fail)) (hN1:=(by first|infer_instance|fail)) (hc:=(by first|infer_instance|fail)) ?_|refine dp (by(conv=>lhs;whnf);done) (by(conv=>lhs;whnf);done) (by(conv=>lhs;whnf);done) (hN0:=(by first|infer_instance|fail)) (hN1:=(by first|infer_instance|fail)) (hN2:=(by first|infer_instance|fail)) (hc:=(by first|infer_instance|fail)) ?_|refine dr (hc:=(by first|infer_instance|fail)) ?_|refine dm (by(conv=>lhs;whnf);done) (by(conv=>lhs;whnf);done) (by(conv=>lhs;whnf);done) (by(conv=>lhs;whnf);done) (hN0:=(by first|infer_instance|fail)) (hN1:=(by first|infer_instance|fail)) (hN2:=(by first|infer_instance|fail)) (hN3:=(by first|infer_instance|fail)) (hc:=(by first|infer_instance|fail)) ?_|refine j_call5 (by(conv=>lhs;whnf);done) (by(conv=>lhs;whnf);done) (by(conv=>lhs;whnf);done) (by(conv=>lhs;whnf);done) (by(conv=>lhs;whnf);done) (hN0:=(by first|infer_instance|fail)) (hN1:=(by first|infer_instance|fail)) (hN2:=(by first|infer_instance|fail)) (hN3:=(by first|infer_instance|fail)) (hN4:=(by first|infer_instance|fail)) (hc:=(by first|infer_instance|fail)) ?_|refine j_call6 (by(conv=>lhs;whnf);done) (by(conv=>lhs;whnf);done) (by(conv=>lhs;whnf);done) (by(conv=>lhs;whnf);done) (by(conv=>lhs;whnf);done) (by(conv=>lhs;whnf);done) (hN0:=(by first|infer_instance|fail)) (hN1:=(by first|infer_instance|fail)) (hN2:=(by first|infer_instance|fail)) (hN3:=(by first|infer_instance|fail)) (hN4:=(by first|infer_instance|fail)) (hN5:=(by first|infer_instance|fail)) (hc:=(by first|infer_instance|fail)) ?_)
   |(refine g_bi ?_;first|refine s_min (by rfl) (by rfl) ?_|refine s_max (by rfl) (by rfl) ?_)
   |(refine dy ?_;first|refine qd (by rfl) (by rfl) ?_|refine qe (by rfl) (by rfl) ?_|refine qf (by rfl) (by rfl) ?_|refine qk (by rfl) (by rfl) (by constructor<;>omega) ?_|refine qX (by rfl) (by rfl) (by constructor<;>omega) ?_|refine qh (by(conv=>lhs;whnf);done) (by(conv=>lhs;whnf);done) (jx:=(by first|infer_instance|fail)) (jy:=(by first|infer_instance|fail)) (by first|omega|(simp only[AD,AN,Af,BN];omega)) ?_|refine qb (by rfl) (by rfl) (by constructor<;>omega) ?_|refine ja (by rfl) (by rfl) ?_|refine ir (by rfl) (by rfl) ?_|refine jZ (by rfl) (by rfl) ?_|refine qY (by rfl) (by rfl) ?_|refine j0 (by rfl) (by rfl) ?_|refine jA (by rfl) (by rfl) ?_|refine j9 (by rfl) (by rfl) ?_|refine Wj (by rfl) (by rfl) (by omega) (by omega) ?_|refine Wm (by rfl) (by rfl) (by omega) ?_|refine jB (by rfl) (by rfl) (by decide) (by omega) ?_|refine ar (by rfl) (by rfl) (by decide) ?_)
   |(refine xc ?_;first|refine fC (by rfl) (by rfl) (by decide) ?_|refine QK (by rfl) (by rfl) (by omega) ?_|refine fE (by rfl) (by rfl) (by omega) (by omega) ?_)
   |(refine xZ ?_;first|refine qZ (by rfl) ?_|refine qa (by rfl) (by constructor<;>omega) ?_|refine jC (by rfl) ?_)
   |(refine XT ?_;first|refine YL (by rfl) (by rfl) (hB:=(by first|infer_instance|fail)) (hu:=(by first|infer_instance|fail)) (hf:=(by first|infer_instance|fail)) (hlen:=(by first|infer_instance|fail)) (hcs:=(by first|infer_instance|fail)) ?_|refine Sv (by rfl) (by rfl) (by repeat(first|exact AI|apply AL)) (by omega) (hu:=(by first|infer_instance|fail)) ?_|refine YM (by rfl) (by rfl) (by repeat(first|exact AI|apply AL)) (by omega) (hu:=(by first|infer_instance|fail)) ?_)
   |(refine xe ?_;first|refine qj ?_|refine qi (by(conv=>lhs;whnf);done) (hC0:=(by first|infer_instance|fail)) (hf:=(by first|infer_instance|fail)) (by decide) ?_)
   |(refine dx ?_;first|refine Yc ?_|refine VS ?_)
   |(refine XU ?_;first|refine jL (by rfl) (by rfl) (by omega) ?_|refine jM (by rfl) (by rfl) (by omega) ?_|refine Wu (by(conv=>lhs;whnf);done) (by rfl) (by rfl) (jx:=(by first|infer_instance|fail)) (by omega) (by omega) (by omega) ?_|refine dN (by(conv=>lhs;whnf);done) (by rfl) (jx:=(by first|infer_instance|fail)) (by omega) (by omega) ?_|refine YO (by rfl) ?_)
   |(refine kq ?_;first|refine dQ (by rfl) ?_|refine dP (by rfl) ?_|refine Sd (by rfl) (by omega) ?_|refine iu (by rfl) ?_|refine YK (by rfl) (by repeat(first|exact AI|apply AL)) (hs:=(by first|infer_instance|fail)) ?_)
   |(refine dw ?_;first|refine fB (by(conv=>lhs;whnf);done) (by rfl) (jx:=(by first|infer_instance|fail)) (by omega) (by omega) ?_)
  exact hB.out):A:=h ⟨k⟩
theorem EC {A B:Prop} (k:B) (h:OU B→A:=by
  intro hB
  repeat(first
   |refine AE ?_
   |refine xG ?_
   |refine DP ?_
   |refine CC (by kernel_rfl) ?_
   |refine IR ?_
   |refine HG ?_
   |refine KE ?_
   |refine Gl ?_
   |refine GN (by decide+kernel) ?_
   |refine IQ (by rfl) ?_
   |refine HP (by rfl) ?_)
  exact hB.out):A:=h ⟨k⟩
theorem J4 {A B:Prop} (k:B) (h:OU B→A:=by
  intro hB
  refine EC ?_
  exact hB.out):A:=h ⟨k⟩
theorem Jr {A:Prop} {B:Nat→Prop} (k: ∀ b,B b) (h:Ks B→A:=by
  intro hB
  refine EC ?_
  first|refine Yd (by rfl) fun b=>?_|refine Bw fun b=>?_
  refine EC ?_
  exact hB.out b):A:=h ⟨k⟩
theorem IY {A:Prop} {B:Nat→Prop} (k: ∀ b,B b) (h:Ks B→A:=by
  intro hB
  refine Jr fun b=>?_
  exact hB.out b):A:=h ⟨k⟩
theorem Nn {A B:Prop} (k:B) (h:OU B→A:=by
  intro hB
  repeat(first
   |refine AE ?_
   |refine xG ?_
   |refine DP ?_
   |refine CC (by kernel_rfl) ?_
   |refine IR ?_
   |refine HG ?_
   |refine KE ?_
   |refine Gl ?_
   |refine IQ (by rfl) ?_
   |refine HP (by rfl) ?_)
  exact hB.out):A:=h ⟨k⟩
theorem WY {A B:Prop} (k:B) (h:OU B→A:=by
  intro hB
  refine Nn ?_
  exact hB.out):A:=h ⟨k⟩
end
end Go.Q
namespace Go.Proofs
open Go Go.Q
attribute [local irreducible] Eb AV BG Fu
def GX (a n:Nat):Nat:=fi (Wh a n) (YJ a (32 - n))
instance Gq (a n:Nat) [hs:Aw (n≤32)]:C6 Tryz.prog 259 [.raw (.int .u32 (a:Int)),.raw (.int .u64 (n:Int))] (.raw (.int .u32 (GX a n:Nat))):=⟨by
 refine Av Tryz.func259 Tryz.ntmps259 rfl (rs:= [.tmp 4]) rfl rfl fun hb LF=>?_
 have hn:=hs.out
 refine EC ?_
 refine Wj (a:=32) (by rfl) (by rfl) hn (by decide) ?_
 refine J4 ?_
 refine Ax (.of_eq ?_)
 rfl⟩
instance yT (a:Nat):C6 Tryz.prog 259 [.raw (.int .u32 (a:Int)),.raw (.int .u64 2)] (.raw (.int .u32 (GX a 2:Nat))):=by
 have:Aw ((2:Nat)≤32):=⟨by decide⟩
 exact Gq a 2
instance yS (a:Nat):C6 Tryz.prog 259 [.raw (.int .u32 (a:Int)),.raw (.int .u64 6)] (.raw (.int .u32 (GX a 6:Nat))):=by
 have:Aw ((6:Nat)≤32):=⟨by decide⟩
 exact Gq a 6
instance yR (a:Nat):C6 Tryz.prog 259 [.raw (.int .u32 (a:Int)),.raw (.int .u64 7)] (.raw (.int .u32 (GX a 7:Nat))):=by
 have:Aw ((7:Nat)≤32):=⟨by decide⟩
 exact Gq a 7
instance wu (a:Nat):C6 Tryz.prog 259 [.raw (.int .u32 (a:Int)),.raw (.int .u64 11)] (.raw (.int .u32 (GX a 11:Nat))):=by
 have:Aw ((11:Nat)≤32):=⟨by decide⟩
 exact Gq a 11
instance wt (a:Nat):C6 Tryz.prog 259 [.raw (.int .u32 (a:Int)),.raw (.int .u64 13)] (.raw (.int .u32 (GX a 13:Nat))):=by
 have:Aw ((13:Nat)≤32):=⟨by decide⟩
 exact Gq a 13
instance wm (a:Nat):C6 Tryz.prog 259 [.raw (.int .u32 (a:Int)),.raw (.int .u64 17)] (.raw (.int .u32 (GX a 17:Nat))):=by
 have:Aw ((17:Nat)≤32):=⟨by decide⟩
 exact Gq a 17
instance wj (a:Nat):C6 Tryz.prog 259 [.raw (.int .u32 (a:Int)),.raw (.int .u64 18)] (.raw (.int .u32 (GX a 18:Nat))):=by
 have:Aw ((18:Nat)≤32):=⟨by decide⟩
 exact Gq a 18
instance wi (a:Nat):C6 Tryz.prog 259 [.raw (.int .u32 (a:Int)),.raw (.int .u64 19)] (.raw (.int .u32 (GX a 19:Nat))):=by
 have:Aw ((19:Nat)≤32):=⟨by decide⟩
 exact Gq a 19
instance wh (a:Nat):C6 Tryz.prog 259 [.raw (.int .u32 (a:Int)),.raw (.int .u64 22)] (.raw (.int .u32 (GX a 22:Nat))):=by
 have:Aw ((22:Nat)≤32):=⟨by decide⟩
 exact Gq a 22
instance wg (a:Nat):C6 Tryz.prog 259 [.raw (.int .u32 (a:Int)),.raw (.int .u64 25)] (.raw (.int .u32 (GX a 25:Nat))):=by
 have:Aw ((25:Nat)≤32):=⟨by decide⟩
 exact Gq a 25
theorem Bt {α:Type} (f:α→Nat→α) (a:α) (k:Nat):(List.range (k+1)).foldl f a=f ((List.range k).foldl f a) k:=by
 rw[ER,Bk];rfl
instance w0 (n:Int) [hs:Aw (0≤n∧n≤1000)]:C6 Tryz.prog 256 [.raw (.int .i64 n)] (.str (List.replicate n.toNat 0)):=⟨by
 refine Av Tryz.func256 Tryz.ntmps256 rfl (rs:= [.tmp 2]) rfl rfl fun hb LF=>?_
 obtain⟨h0,h1⟩:=hs.out
 refine AW ?_
 refine AZ (σ:=Nat × Str) (fun k=>k.1≤n.toNat∧k.2=List.replicate k.1 0) (fun k=>n.toNat - k.1) (fun k=> [(0,.raw (.int .i64 n)),(3,.str k.2),(4,.raw (.int .i64 k.1))]) (fun _=>LF) (0,[]) ⟨by simp,by simp⟩ ⟨rfl,rfl,rfl⟩ (.refl _) ?_
 rintro⟨k,s⟩ ⟨hk,he⟩
 dsimp only at hk he
 have hl:s.length=k:=by rw[he];simp
 refine AW ?_
 refine A7 (fun hc=>?_) (fun hc=>?_)
 ·refine AW ?_
  refine⟨(k+1,s++ [0]),⟨by dsimp only;omega,by dsimp only;rw[he,Xx]⟩,by dsimp only;omega,⟨rfl,rfl,rfl⟩,.refl _⟩
 ·refine AW ?_
  refine Ax (.of_eq ?_)
  rw[he,show k=n.toNat by omega]⟩
def FO (bits:Nat) (j:Nat):Str:=(List.range j).map fun i=>UInt8.ofNat (bits / 2 ^ (min (8*(7 - i)) 64))
def J7 (s:Str):Str:=(s++ [128])++List.replicate ((120 - (s.length+1) % 64) % 64) 0++FO (s.length*8) 8
theorem TN (s:Str):(J7 s).length=s.length+1+(120 - (s.length+1) % 64) % 64+8:=by simp[J7,FO];omega
instance vO (s:Str) [hs:Aw (s.length≤1000000)]:C6 Tryz.prog 204 [.str s] (.str (J7 s)):=⟨by
 refine Av Tryz.func204 Tryz.ntmps204 rfl (rs:= [.tmp 2]) rfl rfl fun hb LF=>?_
 have hl:=hs.out
 have e1:(((120:Int) - (((s++ [128]).length % 64:Nat):Int)).tmod 64)=(((120 - (s.length+1) % 64) % 64:Nat):Int):=by
  rw[AD,B9]
  have:(120:Int) - (((s.length+1) % 64:Nat):Int)=((120 - (s.length+1) % 64:Nat):Int):=by omega
  rw[this];exact(Int.ofNat_tmod _ _).symm
 have i1:Aw (0≤(((120 - (s.length+1) % 64) % 64:Nat):Int)∧(((120 - (s.length+1) % 64) % 64:Nat):Int)≤1000):=⟨by omega,by omega⟩
 refine AW ?_
 refine ar (by rfl) (by rfl) (by decide) ?_
 refine Bu ?_
 refine Gk (v:= .int .i64 (((120 - (s.length+1) % 64) % 64:Nat):Int)) (by rfl) (by rfl) (fun w=>?_) ?_
 ·have h3:(64:Int)≠0:=by decide
  simp only[binOp,ne_eq,not_true_eq_false,if_false,Op.intDiv,h3,e1];rfl
 have hz:(List.replicate (((120 - (s.length+1) % 64) % 64:Nat):Int).toNat (0:UInt8)).length=(120 - (s.length+1) % 64) % 64:=by rw[List.length_replicate];omega
 refine Bu ?_
 refine Wm (b:=8) (by rfl) (by rfl) (by omega) ?_
 refine Bu ?_
 refine AZ (σ:=Nat × Str) (fun k=>k.1≤8∧k.2=(s++ [128])++List.replicate ((120 - (s.length+1) % 64) % 64) 0++FO (s.length*8) k.1) (fun k=>8 - k.1) (fun k=> [(3,.str k.2),(4,.raw (.int .u64 ((s.length*8:Nat):Int))),(5,.raw (.int .i64 (7 - (k.1:Int))))]) (fun _=>LF) (0,(s++ [128])++List.replicate ((120 - (s.length+1) % 64) % 64) 0) ⟨by simp,by simp[FO]⟩ ⟨rfl,rfl,rfl⟩ (.refl _) ?_
 rintro⟨k,o⟩ ⟨hk,he⟩
 dsimp only at hk he
 have hol:o.length≤1000100:=by rw[he];simp[FO];omega
 refine AW ?_
 refine A7 (fun hc=>?_) (fun hc=>?_)
 ·refine AW ?_
  have e8:(8:Int)*(7 - (k:Int))=((8*(7 - k):Nat):Int):=by omega
  refine Sd (a:=8*(7 - k)) (by show PV.raw (.int .i64 ((8:Int)*(7 - (k:Int))))=_;rw[e8]) (by omega) ?_
  refine Bu ?_
  refine⟨(k+1,o++ [UInt8.ofNat (s.length*8 / 2 ^ (min (8*(7 - k)) 64))]),⟨by dsimp only;omega,?_⟩,by dsimp only;omega,⟨rfl,rfl,?_⟩,.refl _⟩
  ·dsimp only
   rw[he,FO,FO,ER,Al,←AX];rfl
  ·show PV.raw (Value.int .i64 _)=PV.raw (Value.int .i64 _)
   congr 2;dsimp only;omega
 ·refine AW ?_
  refine Ax (.of_eq ?_)
  rw[he,show k=8 by omega,J7]⟩
def rK:List Nat:= [1116352408,1899447441,3049323471,3921009573,961987163,1508970993,2453635748,2870763221,3624381080,310598401,607225278,1426881987,1925078388,2162078206,2614888103,3248222580,3835390401,4022224774,264347078,604807628,770255983,1249150122,1555081692,1996064986,2554220882,2821834349,2952996808,3210313671,3336571891,3584528711,113926993,338241895,666307205,773529912,1294757372,1396182291,1695183700,1986661051,2177026350,2456956037,2730485921,2820302411,3259730800,3345764771,3516065817,3600352804,4094571909,275423344,430227734,506948616,659060556,883997877,958139571,1322822218,1537002063,1747873779,1955562222,2024104815,2227730452,2361852424,2428436474,2756734187,3204031479,3329325298]
instance pR:C6 Tryz.prog 258 [] (.agg (eW rK)):=⟨by
 refine Av Tryz.func258 Tryz.ntmps258 rfl (rs:= [.cell 0 253]) rfl rfl fun hb LF=>?_
 refine Jr fun b=>?_
 refine KL [.const (.int .u32 1116352408),.const (.int .u32 1899447441),.const (.int .u32 3049323471),.const (.int .u32 3921009573),.const (.int .u32 961987163),.const (.int .u32 1508970993),.const (.int .u32 2453635748),.const (.int .u32 2870763221),.const (.int .u32 3624381080),.const (.int .u32 310598401),.const (.int .u32 607225278),.const (.int .u32 1426881987),.const (.int .u32 1925078388),.const (.int .u32 2162078206),.const (.int .u32 2614888103),.const (.int .u32 3248222580),.const (.int .u32 3835390401),.const (.int .u32 4022224774),.const (.int .u32 264347078),.const (.int .u32 604807628),.const (.int .u32 770255983),.const (.int .u32 1249150122),.const (.int .u32 1555081692),.const (.int .u32 1996064986),.const (.int .u32 2554220882),.const (.int .u32 2821834349),.const (.int .u32 2952996808),.const (.int .u32 3210313671),.const (.int .u32 3336571891),.const (.int .u32 3584528711),.const (.int .u32 113926993),.const (.int .u32 338241895),.const (.int .u32 666307205),.const (.int .u32 773529912),.const (.int .u32 1294757372),.const (.int .u32 1396182291),.const (.int .u32 1695183700),.const (.int .u32 1986661051),.const (.int .u32 2177026350),.const (.int .u32 2456956037),.const (.int .u32 2730485921),.const (.int .u32 2820302411),.const (.int .u32 3259730800),.const (.int .u32 3345764771),.const (.int .u32 3516065817),.const (.int .u32 3600352804),.const (.int .u32 4094571909),.const (.int .u32 275423344),.const (.int .u32 430227734),.const (.int .u32 506948616),.const (.int .u32 659060556),.const (.int .u32 883997877),.const (.int .u32 958139571),.const (.int .u32 1322822218),.const (.int .u32 1537002063),.const (.int .u32 1747873779),.const (.int .u32 1955562222),.const (.int .u32 2024104815),.const (.int .u32 2227730452),.const (.int .u32 2361852424),.const (.int .u32 2428436474),.const (.int .u32 2756734187),.const (.int .u32 3204031479),.const (.int .u32 3329325298)] rK rfl rfl rfl rfl ?_
 have i1:DA (eW rK) 64:=⟨rfl⟩
 have i2:DA (eW (List.replicate 64 0)) 64:=⟨rfl⟩
 refine J4 ?_
 exact Fp rfl (.refl _) (hn:=(rfl:(eW rK).length=64))⟩
def Yi (b:Str) (t:Nat):Nat:=fi (fi (fi (YJ ((b.getD (4*(t:Int)).toNat 0).toNat % 4294967296) 24) (YJ ((b.getD (4*(t:Int)+1).toNat 0).toNat % 4294967296) 16)) (YJ ((b.getD (4*(t:Int)+2).toNat 0).toNat % 4294967296) 8)) ((b.getD (4*(t:Int)+3).toNat 0).toNat % 4294967296)
def L8 (b:Str) (w:List Nat) (t:Nat):List Nat:=w.set t (Yi b t)
def TJ (w:List Nat) (t:Nat):Nat:=
 let x:=w.getD (t+1) 0
 let y:=w.getD (t+14) 0
 Nf (Nf (Nf (Ln (Ln (GX y 17) (GX y 19)) (Wh y 10)) (w.getD (t+9) 0)) (Ln (Ln (GX x 7) (GX x 18)) (Wh x 3))) (w.getD t 0)
theorem TI (v:List Nat) (k:Nat):TJ v k=Nf (Nf (Nf (Ln (Ln (GX (v.getD (((k+16:Nat):Int) - 2).toNat 0) 17) (GX (v.getD (((k+16:Nat):Int) - 2).toNat 0) 19)) (Wh (v.getD (((k+16:Nat):Int) - 2).toNat 0) 10)) (v.getD (((k+16:Nat):Int) - 7).toNat 0)) (Ln (Ln (GX (v.getD (((k+16:Nat):Int) - 15).toNat 0) 7) (GX (v.getD (((k+16:Nat):Int) - 15).toNat 0) 18)) (Wh (v.getD (((k+16:Nat):Int) - 15).toNat 0) 3))) (v.getD (((k+16:Nat):Int) - 16).toNat 0):=by
 have e2:(((k+16:Nat):Int) - 2).toNat=k+14:=by omega
 have e7:(((k+16:Nat):Int) - 7).toNat=k+9:=by omega
 have e15:(((k+16:Nat):Int) - 15).toNat=k+1:=by omega
 have e16:(((k+16:Nat):Int) - 16).toNat=k:=by omega
 rw[e2,e7,e15,e16];rfl
def QP (w:List Nat) (t:Nat):List Nat:=w.set (t+16) (TJ w t)
def GY (b:Str):List Nat:=(List.range 48).foldl QP ((List.range 16).foldl (L8 b) (List.replicate 64 0))
theorem Vx (b:Str) (k:Nat):((List.range k).foldl (L8 b) (List.replicate 64 0)).length=64:=by
 induction k with
 |zero=>rfl
 |succ k ih=>rw[Bt,L8,Ct,ih]
theorem Vw {w:List Nat} (h:w.length=64) (k:Nat):((List.range k).foldl QP w).length=64:=by
 induction k with
 |zero=>exact h
 |succ k ih=>rw[Bt,QP,Ct,ih]
theorem TK (b:Str):(GY b).length=64:=Vw (Vx b 16) 48
instance qV (s:Str) [hs:Aw (s.length=64)]:C6 Tryz.prog 257 [.str s] (.agg (eW (GY s))):=⟨by
 refine Av Tryz.func257 Tryz.ntmps257 rfl (rs:= [.cell 2 253]) rfl rfl fun hb LF=>?_
 have hl:=hs.out
 have i2:DA (eW (List.replicate 64 0)) 64:=⟨rfl⟩
 refine Jr fun b=>?_
 refine IY fun b2=>?_
 refine AZ (σ:=Nat × List Nat) (fun k=>k.1≤16∧k.2.length=64∧k.2=(List.range k.1).foldl (L8 s) (List.replicate 64 0)) (fun k=>16 - k.1) (fun k=> [(0,.str s),(2,.raw (.pointer (some ⟨b,0,none⟩))),(3,.raw (.pointer (some ⟨b2,0,none⟩))),(4,.raw (.int .i64 k.1))]) (fun k=> .box b2 253 (eW k.2):: .box b 253 (eW (List.replicate 64 0))::LF) (0,List.replicate 64 0) ⟨by simp,by simp,by simp⟩ ⟨rfl,rfl,rfl,rfl⟩ (.refl _) ?_
 rintro⟨k,w⟩ ⟨hk,hw,he⟩
 dsimp only at hk hw he ⊢
 refine EC ?_
 refine A7 (fun hc=>?_) (fun hc=>?_)
 ·refine Nn ?_
  refine Bb 31 ?_ ?_
  ·decide+kernel
  refine J4 ?_
  refine⟨(k+1,w.set k (Yi s k)),⟨by dsimp only;omega,by dsimp only;rw[Ct,hw],by dsimp only;rw[Bt,←he];rfl⟩,by dsimp only;omega,⟨rfl,rfl,rfl,rfl⟩,.refl _⟩
 have hkk:k=16:=by omega
 subst hkk
 refine EC ?_
 refine AZ (σ:=Nat × List Nat) (fun k=>k.1≤48∧k.2.length=64∧k.2=(List.range k.1).foldl QP w) (fun k=>48 - k.1) (fun k=> [(2,.raw (.pointer (some ⟨b,0,none⟩))),(3,.raw (.pointer (some ⟨b2,0,none⟩))),(5,.raw (.int .i64 ((k.1+16:Nat):Int)))]) (fun k=> .box b2 253 (eW k.2):: .box b 253 (eW (List.replicate 64 0))::LF) (0,w) ⟨by simp,hw,by simp⟩ ⟨rfl,rfl,rfl⟩ (.refl _) ?_
 rintro⟨k,v⟩ ⟨hk,hv,hve⟩
 dsimp only at hk hv hve ⊢
 have i3:DA (eW v) 64:=⟨by rw[Gz,hv]⟩
 refine EC ?_
 refine A7 (fun hc=>?_) (fun hc=>?_)
 ·refine Nn ?_
  refine GN (by decide+kernel) ?_
  refine WY ?_
  refine Bb 29 ?_ ?_
  ·decide+kernel
  refine J4 ?_
  refine⟨(k+1,v.set (k+16) (TJ v k)),⟨by dsimp only;omega,by dsimp only;rw[Ct,hv],by dsimp only;rw[Bt,←hve];rfl⟩,by dsimp only;omega,⟨rfl,rfl,?_⟩,?_⟩
  ·show PV.raw (Value.int .i64 _)=PV.raw (Value.int .i64 _)
   congr 2
  ·dsimp only;rw[TI];exact .refl _
 ·refine EC ?_
  refine Fp rfl (.of_eq ?_) (hn:=(by rw[Gz,hv]:(eW v).length=64))
  have hkk:k=48:=by omega
  subst hkk
  rw[GY,hve,he]⟩
def yW (w v:List Nat) (t:Nat):Nat:=Nf (Nf (Nf (Nf (v.getD 7 0) (Ln (Ln (GX (v.getD 4 0) 6) (GX (v.getD 4 0) 11)) (GX (v.getD 4 0) 25))) (Ln (Xt (v.getD 4 0) (v.getD 5 0)) (Xt (oO (v.getD 4 0)) (v.getD 6 0)))) (rK.getD t 0)) (w.getD t 0)
def rT2 (v:List Nat):Nat:=Nf (Ln (Ln (GX (v.getD 0 0) 2) (GX (v.getD 0 0) 13)) (GX (v.getD 0 0) 22)) (Ln (Ln (Xt (v.getD 0 0) (v.getD 1 0)) (Xt (v.getD 0 0) (v.getD 2 0))) (Xt (v.getD 1 0) (v.getD 2 0)))
def Ml (w v:List Nat) (t:Nat):List Nat:= [Nf (yW w v t) (rT2 v),v.getD 0 0,v.getD 1 0,v.getD 2 0,Nf (v.getD 3 0) (yW w v t),v.getD 4 0,v.getD 5 0,v.getD 6 0]
def L9 (h:List Nat) (b:Str):List Nat:=(List.range 64).foldl (Ml (GY b)) h
def Yq (v x:List Nat) (i:Nat):List Nat:=x.set i (Nf (x.getD i 0) (v.getD i 0))
def NT (h:List Nat) (b:Str):List Nat:=(List.range 8).foldl (Yq (L9 h b)) h
theorem gL {v h:List Nat} (hh:h.length=8) (k:Nat):((List.range k).foldl (Yq v) h).length=8:=by
 induction k with
 |zero=>exact hh
 |succ k ih=>rw[Bt,Yq,Ct,ih]
theorem Oh {h:List Nat} {b:Str} (hh:h.length=8):(NT h b).length=8:=gL hh 8
theorem hx8 {ρ:Env} {x0 x1 x2 x3 x4 x5 x6 x7:Operand} {a0 a1 a2 a3 a4 a5 a6 a7:Nat} (h0:ρ.ev x0= .raw (.int .u32 (a0:Int))) (h1:ρ.ev x1= .raw (.int .u32 (a1:Int))) (h2:ρ.ev x2= .raw (.int .u32 (a2:Int))) (h3:ρ.ev x3= .raw (.int .u32 (a3:Int))) (h4:ρ.ev x4= .raw (.int .u32 (a4:Int))) (h5:ρ.ev x5= .raw (.int .u32 (a5:Int))) (h6:ρ.ev x6= .raw (.int .u32 (a6:Int))) (h7:ρ.ev x7= .raw (.int .u32 (a7:Int))):
  [x0,x1,x2,x3,x4,x5,x6,x7].map ρ.ev=eW [a0,a1,a2,a3,a4,a5,a6,a7]:=by simp[eW,h0,h1,h2,h3,h4,h5,h6,h7]
instance yQ (h:List Nat) (s:Str) [hs:Aw (s.length=64)] [hh:Aw (h.length=8)]:C6 Tryz.prog 205 [.agg (eW h),.str s] (.agg (eW (NT h s))):=⟨by
 refine Av Tryz.func205 Tryz.ntmps205 rfl (rs:= [.cell 4 216]) rfl rfl fun hb LF=>?_
 have hl:=hh.out
 have hsl:=TK s
 have j1:DA (eW (List.replicate 64 0)) 64:=⟨rfl⟩
 have j2:DA (eW (List.replicate 8 0)) 8:=⟨rfl⟩
 have j3:DA (eW h) 8:=⟨by rw[Gz,hl]⟩
 have j4:DA (eW rK) 64:=⟨rfl⟩
 have j5:DA (eW (GY s)) 64:=⟨by rw[Gz,hsl]⟩
 have hkl:rK.length=64:=rfl
 refine Jr fun b2=>?_
 refine IY fun b4=>?_
 refine IY fun b5=>?_
 refine IY fun b6=>?_
 refine IY fun b7=>?_
 refine AZ (σ:=Nat × List Nat) (fun k=>k.1≤64∧k.2.length=8∧k.2=(List.range k.1).foldl (Ml (GY s)) h) (fun k=>64 - k.1) (fun k=> [(2,.raw (.pointer (some ⟨b2,0,none⟩))),(4,.raw (.pointer (some ⟨b4,0,none⟩))),(5,.raw (.pointer (some ⟨b5,0,none⟩))),(6,.raw (.pointer (some ⟨b6,0,none⟩))),(7,.raw (.pointer (some ⟨b7,0,none⟩))),(8,.raw (.int .i64 k.1))]) (fun k=> .box b7 216 (eW k.2):: .box b6 253 (eW rK):: .box b5 253 (eW (GY s)):: .box b4 216 (eW (List.replicate 8 0)):: .box b2 216 (eW h)::LF) (0,h) ⟨by simp,hl,by simp⟩ ⟨rfl,rfl,rfl,rfl,rfl,rfl⟩ (.refl _) ?_
 rintro⟨k,v⟩ ⟨hk,hv,hve⟩
 dsimp only at hk hv hve ⊢
 have j6:DA (eW v) 8:=⟨by rw[Gz,hv]⟩
 have j7:DA (eW (Ml (GY s) v k)) 8:=⟨rfl⟩
 refine EC ?_
 refine A7 (fun hc=>?_) (fun hc=>?_)
 ·refine Nn ?_
  refine GN (by decide+kernel) ?_
  refine WY ?_
  refine GN (by decide+kernel) ?_
  refine BM [(2,.raw (.pointer (some ⟨b2,0,none⟩))),(4,.raw (.pointer (some ⟨b4,0,none⟩))),(5,.raw (.pointer (some ⟨b5,0,none⟩))),(6,.raw (.pointer (some ⟨b6,0,none⟩))),(7,.raw (.pointer (some ⟨b7,0,none⟩))),(8,.raw (.int .i64 k)),(9,.raw (.int .u32 ((v.getD 0 0:Nat):Int))),(11,.raw (.int .u32 ((yW (GY s) v k:Nat):Int)))] (.box b7 216 (eW v):: .box b6 253 (eW rK):: .box b5 253 (eW (GY s)):: .box b4 216 (eW (List.replicate 8 0)):: .box b2 216 (eW h)::LF) ?_ ?_
  ·refine J4 ?_
   exact⟨⟨rfl,rfl,rfl,rfl,rfl,rfl,rfl,rfl⟩,.refl _⟩
  refine Nn ?_
  refine GN (by decide+kernel) ?_
  refine BM [(2,.raw (.pointer (some ⟨b2,0,none⟩))),(4,.raw (.pointer (some ⟨b4,0,none⟩))),(5,.raw (.pointer (some ⟨b5,0,none⟩))),(6,.raw (.pointer (some ⟨b6,0,none⟩))),(7,.raw (.pointer (some ⟨b7,0,none⟩))),(8,.raw (.int .i64 k)),(11,.raw (.int .u32 ((yW (GY s) v k:Nat):Int))),(12,.raw (.int .u32 ((rT2 v:Nat):Int)))] (.box b7 216 (eW v):: .box b6 253 (eW rK):: .box b5 253 (eW (GY s)):: .box b4 216 (eW (List.replicate 8 0)):: .box b2 216 (eW h)::LF) ?_ ?_
  ·refine J4 ?_
   exact⟨⟨rfl,rfl,rfl,rfl,rfl,rfl,rfl,rfl⟩,.refl _⟩
  refine EC ?_
  refine KL [.tmp 82,.tmp 84,.tmp 86,.tmp 88,.tmp 92,.tmp 94,.tmp 96,.tmp 98] (Ml (GY s) v k) rfl (hx8 (by rfl) (by rfl) (by rfl) (by rfl) (by rfl) (by rfl) (by rfl) (by rfl)) (by simp[Ml]) (by simp[Ml]) ?_
  refine J4 ?_
  refine⟨(k+1,Ml (GY s) v k),⟨by dsimp only;omega,rfl,by dsimp only;rw[Bt,←hve]⟩,by dsimp only;omega,⟨rfl,rfl,rfl,rfl,rfl,rfl⟩,.refl _⟩
 have hkk:k=64:=by omega
 subst hkk
 replace hve:v=L9 h s:=hve
 subst hve
 refine EC ?_
 refine AZ (σ:=Nat × List Nat) (fun k=>k.1≤8∧k.2.length=8∧k.2=(List.range k.1).foldl (Yq (L9 h s)) h) (fun k=>8 - k.1) (fun k=> [(2,.raw (.pointer (some ⟨b2,0,none⟩))),(4,.raw (.pointer (some ⟨b4,0,none⟩))),(7,.raw (.pointer (some ⟨b7,0,none⟩))),(13,.raw (.int .i64 k.1))]) (fun k=> .box b7 216 (eW (L9 h s)):: .box b4 216 (eW (List.replicate 8 0)):: .box b2 216 (eW k.2)::LF) (0,h) ⟨by simp,hl,by simp⟩ ⟨rfl,rfl,rfl,rfl⟩ (.cons_cons _ (.cons _ (.cons _ (.refl _)))) ?_
 rintro⟨k,x⟩ ⟨hk,hx,hxe⟩
 dsimp only at hk hx hxe ⊢
 have j8:DA (eW x) 8:=⟨by rw[Gz,hx]⟩
 refine EC ?_
 refine A7 (fun hc=>?_) (fun hc=>?_)
 ·refine Nn ?_
  refine Bb 9 ?_ ?_
  ·decide+kernel
  refine J4 ?_
  refine⟨(k+1,x.set k (Nf (x.getD k 0) ((L9 h s).getD k 0))),⟨by dsimp only;omega,by dsimp only;rw[Ct,hx],by dsimp only;rw[Bt,←hxe];rfl⟩,by dsimp only;omega,⟨rfl,rfl,rfl,rfl⟩,.refl _⟩
 ·refine EC ?_
  refine Fp rfl (.of_eq ?_) (hn:=(by rw[Gz,hx]:(eW x).length=8))
  have hkk:k=8:=by omega
  subst hkk
  rw[NT,hxe]⟩
def rH:List Nat:= [1779033703,3144134277,1013904242,2773480762,1359893119,2600822924,528734635,1541459225]
def Hz (m:Str) (n:Nat):List Nat:=(List.range n).foldl (fun h k=>NT h ((m.drop (64*k)).take 64)) rH
theorem Yp (m:Str) (n:Nat):(Hz m n).length=8:=by
 unfold Hz
 induction n with
 |zero=>rfl
 |succ n ih=>rw[Bt];exact Oh ih
def QV (h:List Nat) (d:Dig) (i:Nat):Dig:=d.put i (UInt8.ofNat (Wh (h.getD (i / 4) 0) (24 - 8*(i % 4))))
def fR (s:Str):Dig:=(List.range 32).foldl (QV (Hz (J7 s) ((J7 s).length / 64))) Dig.zero
instance zg (s:Str) [hs:Aw (s.length≤1000000)]:C6 Tryz.prog 152 [.str s] (.agg (eDig (fR s))):=⟨by
 refine Av Tryz.func152 Tryz.ntmps152 rfl (rs:= [.cell 2 31]) rfl rfl fun hb LF=>?_
 have hl:=hs.out
 have hpl:=TN s
 have j2:DA (eW (List.replicate 8 0)) 8:=⟨rfl⟩
 have j3:DA (eW rH) 8:=⟨rfl⟩
 refine Jr fun b2=>?_
 refine KL [.const (.int .u32 1779033703),.const (.int .u32 3144134277),.const (.int .u32 1013904242),.const (.int .u32 2773480762),.const (.int .u32 1359893119),.const (.int .u32 2600822924),.const (.int .u32 528734635),.const (.int .u32 1541459225)] rH rfl rfl (by simp[rH]) rfl ?_
 refine IY fun b3=>?_
 unfold fR
 generalize J7 s=m at hpl ⊢
 refine AZ (σ:=Nat) (fun k=>64*k≤m.length) (fun k=>m.length+64 - 64*k) (fun k=> [(2,.raw (.pointer (some ⟨b2,0,none⟩))),(3,.raw (.pointer (some ⟨b3,0,none⟩))),(4,.str m),(5,.raw (.int .i64 ((64*k:Nat):Int)))]) (fun k=> .box b3 216 (eW (Hz m k)):: .box b2 31 (eDig Dig.zero)::LF) 0 (by simp) ⟨rfl,rfl,rfl,rfl⟩ (.refl _) ?_
 intro k hk
 have hbl:=Yp m k
 have j4:DA (eW (Hz m k)) 8:=⟨by rw[Gz,hbl]⟩
 have j5:DA (eW (NT (Hz m k) ((m.drop (64*k)).take (64*k+64 - 64*k)))) 8:=⟨by rw[Gz,Oh hbl]⟩
 refine EC ?_
 refine A7 (fun hc=>?_) (fun hc=>?_)
 ·have hc':64*k+64≤m.length:=by omega
  have j6:Aw (((m.drop (64*k)).take (64*k+64 - 64*k)).length=64):=⟨by rw[Ab,B8];omega⟩
  have j7:Aw ((Hz m k).length=8):=⟨hbl⟩
  refine Nn ?_
  refine Bb 7 ?_ ?_
  ·decide+kernel
  refine J4 ?_
  refine⟨k+1,by omega,by dsimp only;omega,⟨rfl,rfl,rfl,?_⟩,?_⟩
  ·show PV.raw (Value.int .i64 _)=PV.raw (Value.int .i64 _)
   congr 2
  ·dsimp only
   have e:Hz m (k+1)=NT (Hz m k) ((m.drop (64*k)).take (64*k+64 - 64*k)):=by
    rw[show 64*k+64 - 64*k=64 by omega];unfold Hz;rw[Bt]
   rw[e];exact .refl _
 have hkk:k=m.length / 64:=by omega
 subst hkk
 refine Jr fun b6=>?_
 generalize Hz m (m.length / 64)=h at hbl ⊢
 refine AZ (σ:=Nat × Dig) (fun k=>k.1≤32∧k.2=(List.range k.1).foldl (QV h) Dig.zero) (fun k=>32 - k.1) (fun k=> [(2,.raw (.pointer (some ⟨b2,0,none⟩))),(3,.raw (.pointer (some ⟨b3,0,none⟩))),(6,.raw (.pointer (some ⟨b6,0,none⟩))),(7,.raw (.int .i64 k.1))]) (fun k=> .box b6 31 (eDig k.2):: .box b3 216 (eW h):: .box b2 31 (eDig Dig.zero)::LF) (0,Dig.zero) ⟨by simp,by simp⟩ ⟨rfl,rfl,rfl,rfl⟩ (.refl _) ?_
 rintro⟨k,d⟩ ⟨hk,hd⟩
 dsimp only at hk hd ⊢
 refine EC ?_
 refine A7 (fun hc=>?_) (fun hc=>?_)
 ·refine EC ?_
  have e8:(24:Int) - 8*((k % 4:Nat):Int)=((24 - 8*(k % 4):Nat):Int):=by omega
  refine Sd (a:=24 - 8*(k % 4)) (by show PV.raw (.int .i64 ((24:Int) - 8*((k % 4:Nat):Int)))=_;rw[e8]) (by omega) ?_
  refine J4 ?_
  refine⟨(k+1,QV h d k),⟨by dsimp only;omega,by dsimp only;rw[Bt,←hd]⟩,by dsimp only;omega,⟨rfl,rfl,rfl,rfl⟩,.refl _⟩
 ·refine EC ?_
  refine Fp rfl (.of_eq ?_)
  have hkk:k=32:=by omega
  subst hkk
  rw[hd]⟩
def LX (l:List Str):Nat:=(l.map List.length).sum
def vK (l:List Str):Bool:=decide (40 < (l.length:Int))||decide (3000 < (LX l:Int))
theorem YD {l:List Str} {k:Nat} (h:k < l.length):LX (l.take (k+1))=LX (l.take k)+l[k].length:=by
 unfold LX;rw[A6 h,Al,Df];simp
theorem et {l:List Str} {B:Nat} (h: ∀ s∈l,s.length≤B):LX l≤l.length*B:=by
 unfold LX
 induction l with
 |nil=>simp
 |cons x l ih=>
  have h1:=h x (by simp)
  have h2:=ih fun s hs=>h s (by simp[hs])
  simp only[Ar,DM,AN,C8];omega
instance vu (l:List Str) (t:C9):C6 Tryz.prog 203 [.slice (l.map eS) t] (.raw (.bool (vK l))):=⟨by
 refine Av Tryz.func203 Tryz.ntmps203 rfl (rs:= [.tmp 2]) rfl rfl fun hb LF=>?_
 have hbs:=hb (.slice (l.map eS) t) (by simp)
 have hlen:l.length≤140737488355328:=hbs.slice_map
 have hel: ∀ s∈l,s.length≤140737488355328:=fun s hs=>(hbs.slice_at hs (c:= .str s) (by simp[eS])).str_len
 refine AW ?_
 refine AZ (σ:=Nat × Int) (fun k=>k.1≤l.length∧(l.length≤40→k.2=(LX (l.take k.1):Int))) (fun k=>l.length - k.1) (fun k=> [(0,.slice (l.map eS) t),(3,.raw (.int .i64 k.2)),(4,.raw (.int .i64 k.1))]) (fun _=>LF) (0,0) ⟨by simp,fun _=>by simp[LX]⟩ ⟨rfl,rfl,rfl⟩ (.refl _) ?_
 rintro⟨k,n⟩ ⟨hk,hn⟩
 dsimp only at hk hn ⊢
 obtain⟨v,hv⟩: ∃ v,v=Value.int .i64 n:=⟨_,rfl⟩
 rw[←hv]
 refine AW ?_
 refine A7 (fun hc=>?_) (fun hc=>?_)
 ·have hlt:k < l.length:=by omega
  refine AW ?_
  refine bA (by rfl) (by rfl) hv fun v1 hv1=>?_
  refine Bu ?_
  subst hv1
  refine⟨(k+1,IntKind.i64.wrap (n+(l[k].length:Int))),⟨by dsimp only;omega,fun h40=>?_⟩,by dsimp only;omega,⟨rfl,rfl,rfl⟩,.refl _⟩
  have h1:=hn h40
  have h2:=YD hlt
  have h3:=hel _ (AG hlt)
  have h4:=et (l:=l.take k) (B:=140737488355328) fun s hs=>hel s (E8 hs)
  have h5:(l.take k).length≤40:=by rw[Ab];omega
  have h6:(l.take k).length*140737488355328≤40*140737488355328:=B6 _ h5
  dsimp only
  rw[IntWalk.i64_in _ (by omega),h1,h2];omega
 ·subst hv
  refine AW ?_
  rw[AA (by omega)]at hn
  refine Aq (fun hp=>?_) (fun hp=>?_)
  ·refine Bu ?_
   refine Ax (.of_eq ?_)
   rw[vK,hp,Bool.true_or]
  ·refine Bu ?_
   refine Ax (.of_eq ?_)
   have:=Bf hp
   rw[vK,hp,Fi,hn (by omega)]⟩
def GL (c:Chg):Nat:=c.name.length+c.data.length
def RL (p:Pat):Nat:=p.author.length+p.message.length+(p.changes.map GL).sum
def bM (c:Chg):Bool:=vK c.lines||decide (40 < (c.over.length:Int))
def Fk (p:Pat):Bool:=p.changes.any bM||decide (3000 < (RL p:Int))||decide (20 < (p.deps.length:Int))||decide (20 < (p.changes.length:Int))
def Ic (c:Chg):Nat:=1+c.lines.length+c.over.length
def E6 (p:Pat):Bool:=p.changes.any (fun c=>bM c||decide (3000 < (GL c:Int)))||decide (30000 < (RL p:Int))||decide (200 < (p.deps.length:Int))||decide (200 < (p.changes.length:Int))||decide (2000 < ((p.changes.map Ic).sum:Int))
theorem FF {α:Type} {l:List α} {f:α→Nat} {B:Nat} (h: ∀ s∈l,f s≤B):(l.map f).sum≤l.length*B:=by
 induction l with
 |nil=>simp
 |cons x l ih=>
  have h1:=h x (by simp)
  have h2:=ih fun s hs=>h s (by simp[hs])
  simp only[Ar,DM,AN,C8];omega
theorem K9 {α:Type} {l:List α} {f:α→Nat} {k:Nat} (h:k < l.length):((l.take (k+1)).map f).sum=((l.take k).map f).sum+f l[k]:=by
 rw[A6 h,Al,Df];simp
instance ui (p:Pat):C6 Tryz.prog 151 [.agg (Bh p)] (.raw (.bool (Fk p))):=⟨by
 refine Av Tryz.func151 Tryz.ntmps151 rfl (rs:= [.tmp 2]) rfl rfl fun hb LF=>?_
 have hbp:=hb (.agg (Bh p)) (by simp)
 have ha:p.author.length≤140737488355328:=(hbp.agg_at (c:= .str p.author) (by simp[Bh])).str_len
 have hm:p.message.length≤140737488355328:=(hbp.agg_at (c:= .str p.message) (by simp[Bh])).str_len
 have hbc:=hbp.agg_at (c:= .slice (p.changes.map eChg) .ro) (by simp[Bh])
 have hlen:p.changes.length≤140737488355328:=hbc.slice_map
 have hcn: ∀ c∈p.changes,c.name.length≤140737488355328:=fun c hc=>(hbc.slice_at hc (c:= .str c.name) (by simp[eChg])).str_len
 have hcd: ∀ c∈p.changes,c.data.length≤140737488355328:=fun c hc=>(hbc.slice_at hc (c:= .str c.data) (by simp[eChg])).str_len
 refine Cz fun b=>?_
 refine AZ (σ:=Nat × Int) (fun k=>k.1≤p.changes.length∧(∀ i (h:i < p.changes.length),i < k.1→bM p.changes[i]=false)∧(p.changes.length≤20→k.2=((p.author.length+p.message.length+((p.changes.take k.1).map GL).sum:Nat):Int))) (fun k=>p.changes.length - k.1) (fun k=> [(1,.raw (.pointer (some ⟨b,0,none⟩))),(3,.raw (.int .i64 k.2)),(4,.raw (.int .i64 k.1))]) (fun _=> .box b 40 (Bh p)::LF) (0,(p.author.length:Int)+(p.message.length:Int)) ⟨by simp,by simp,fun _=>by simp⟩ ⟨rfl,rfl,rfl⟩ (.refl _) ?_
 rintro⟨k,n⟩ ⟨hk,hg,hn⟩
 dsimp only at hk hg hn ⊢
 obtain⟨v,hv⟩: ∃ v,v=Value.int .i64 n:=⟨_,rfl⟩
 rw[←hv]
 refine AW ?_
 refine A7 (fun hc=>?_) (fun hc=>?_)
 ·have hlt:k < p.changes.length:=by omega
  refine Cz fun b2=>?_
  refine BM [(33,.raw (.bool (bM p.changes[k]))),(1,.raw (.pointer (some ⟨b,0,none⟩))),(3,.raw v),(4,.raw (.int .i64 k)),(5,.raw (.pointer (some ⟨b2,0,none⟩)))] (.box b2 73 (eChg p.changes[k]):: .box b 40 (Bh p)::LF) ?_ ?_
  ·repeat' (first|(refine A7 (fun h=>?_) (fun h=>?_)<;>refine AW ?_)|(refine AR (fun h=>?_) (fun h=>?_)<;>refine AW ?_)|(refine AO (fun h=>?_) (fun h=>?_)<;>refine AW ?_)|(refine Aq (fun h=>?_) (fun h=>?_)<;>(have h2:=h;(try simp only[AB,A8,AH,AK]at h2);refine Bu ?_)))
   all_goals (refine⟨⟨Bp (by rfl) ?_,rfl,rfl,rfl,rfl⟩,.refl _⟩;simp_all[bM])
  refine AW ?_
  refine AO (fun h=>?_) (fun h=>?_)
  ·refine AW ?_
   refine Ax (.of_eq ?_)
   have:p.changes.any bM=true:=by rw[Bo];exact⟨_,AG hlt,h⟩
   rw[Fk,this];rfl
  refine AW ?_
  refine bA (by rfl) (by rfl) hv fun v1 hv1=>?_
  refine Bu ?_
  refine bA (by rfl) (by rfl) hv1 fun v2 hv2=>?_
  refine Bu ?_
  subst hv2
  refine⟨(k+1,IntKind.i64.wrap (IntKind.i64.wrap (n+(p.changes[k].name.length:Int))+(p.changes[k].data.length:Int))),⟨by dsimp only;omega,fun i hi hik=>?_,fun h20=>?_⟩,by dsimp only;omega,⟨rfl,rfl,rfl⟩,.cons _ (.refl _)⟩
  ·rcases BJ i k with h'|h'
   ·exact hg i hi h'
   ·have:i=k:=by dsimp only at hik;omega
    subst this;exact h
  ·have h1:=hn h20
   have h2:=K9 (f:=GL) hlt
   have h3:=hcn _ (AG hlt)
   have h3':=hcd _ (AG hlt)
   have h4:=FF (l:=p.changes.take k) (f:=GL) (B:=281474976710656) fun c hc=>by
    have q1:=hcn c (E8 hc)
    have q2:=hcd c (E8 hc)
    unfold GL;omega
   have h5:(p.changes.take k).length≤20:=by rw[Ab];omega
   have h6:(p.changes.take k).length*281474976710656≤20*281474976710656:=B6 _ h5
   dsimp only
   have h7:GL p.changes[k]=p.changes[k].name.length+p.changes[k].data.length:=rfl
   rw[IntWalk.i64_in (n+_) (by omega),IntWalk.i64_in _ (by omega),h1,h2];omega
 ·subst hv
  refine AW ?_
  rw[AA (by omega)]at hn
  have hany:p.changes.any bM=false:=by
   rw[Bl];intro c hc'
   obtain⟨i,hi,rfl⟩:=Ai.1 hc'
   simp[hg i hi (by omega)]
  have key:Fk p=(decide (3000 < n)||decide (20 < (p.deps.length:Int))||decide (20 < (p.changes.length:Int))):=by
   rw[Fk,hany,Fi]
   by_cases h20:p.changes.length≤20
   ·rw[hn h20];rfl
   ·have:decide (20 < (p.changes.length:Int))=true:=BO (by omega)
    rw[this,Bool.or_true,Bool.or_true]
  rw[key]
  clear key hany hn hg
  repeat' (first|(refine A7 (fun h=>?_) (fun h=>?_)<;>refine AW ?_)|(refine AR (fun h=>?_) (fun h=>?_)<;>refine AW ?_)|(refine AO (fun h=>?_) (fun h=>?_)<;>refine AW ?_)|(refine Aq (fun h=>?_) (fun h=>?_)<;>(have h2:=h;(try simp only[AB,A8,AH,AK]at h2);refine Bu ?_)))
  all_goals (refine Ax (.of_eq ?_);first|(simp_all;done)|grind)⟩
theorem K8 (d:Nat) {s:Str} (h:s.length≤65536):P4 (d+1) (Cj s):= .inl ⟨rfl,rfl,h⟩
theorem aY (d:Nat) (n:Int):P4 (d+1) (GI n):=by
 unfold GI RQ
 split
 ·exact .inl ⟨rfl,rfl,by decide⟩
 ·refine K8 d ?_
  have:=Oj (n:=n) ⟨by omega,by omega⟩
  omega
theorem iV (d:Nat) (x:Dig):P4 (d+1) (KC x):=by
 unfold KC
 split
 ·exact K8 d (by decide)
 ·exact K8 d (by rw[x.len];decide)
theorem Mc {d:Nat} {l:List Sx} (h: ∀ y∈l,P4 d y):P4 (d+1) (ED l):= .inr ⟨rfl,rfl,h⟩
theorem iU (d:Nat) (x:Ident):P4 (d+2) (GH x):=Mc fun y hy=>by
 simp only[AF,Aa,or_false]at hy
 rcases hy with rfl|rfl
 ·exact iV d _
 ·exact aY d _
theorem mg (d:Nat) (l:List Ident):P4 (d+3) (J0 l):=Mc fun y hy=>by
 obtain⟨x,_,rfl⟩:=AQ.1 hy
 exact iU d x
theorem XG (d:Nat) (s:Str):IU (d+1) (Cj s)=1:=rfl
theorem Tl (d:Nat) (n:Int):IU (d+1) (GI n)=1:=by
 unfold GI RQ
 split<;>rfl
theorem kN (d:Nat) (x:Dig):IU (d+1) (KC x)=1:=by
 unfold KC;split<;>rfl
theorem Ot (d:Nat) (l:List Sx):IU (d+1) (ED l)=1+(l.map (IU d)).sum:=rfl
theorem XF (d:Nat) (x:Ident):IU (d+2) (GH x)=3:=by
 rw[GH,Ot];simp only[Ar,CF,DM,Jo,kN,Tl];rfl
theorem oU (d:Nat) (l:List Ident):IU (d+3) (J0 l)≤1+l.length*3:=by
 rw[J0,Ot,CU]
 have:=FF (l:=l) (f:=IU (d+2) ∘ GH) (B:=3) fun x _=>by simp[XF]
 omega
theorem JU (d:Nat) {s:Str} (h:s.length≤140737488355328):(Dr (d+1) (Cj s)).length≤16+s.length:=by
 show(Ho s.length++58::s).length≤_
 have:=KZ h
 rw[AD,AN];omega
theorem bk (d:Nat) (n:Int):(Dr (d+1) (GI n)).length≤32:=by
 unfold GI RQ
 split
 ·exact CT (JU d (s:= []) (by decide)) (by decide)
 ·rename_i h
  have h1:=Oj (n:=n) ⟨by omega,by omega⟩
  have h2:=JU d (s:=J2 n) (by omega)
  dsimp only;omega
theorem kV (d:Nat) (x:Dig):(Dr (d+1) (KC x)).length≤48:=by
 unfold KC
 split
 ·exact CT (JU d (s:= []) (by decide)) (by decide)
 ·have h:=JU d (s:=x.bs) (by rw[x.len];decide)
  rw[x.len]at h;exact h
theorem Zo {α β:Type} (l:List α) (f:α→List β):(l.flatMap f).length=(l.map fun a=>(f a).length).sum:=by
 induction l with
 |nil=>rfl
 |cons x l ih=>simp[ih]
theorem N9 (d:Nat) (l:List Sx):(Dr (d+1) (ED l)).length=2+(l.map fun a=>(Dr d a).length).sum:=by
 show(40::(l.flatMap (Dr d)++ [41])).length=_
 rw[AN,AD,Zo,B9];omega
theorem kU (d:Nat) (x:Ident):(Dr (d+2) (GH x)).length≤82:=by
 rw[GH,N9]
 have h1:=kV d x.patch
 have h2:=bk d x.n
 simp only[Ar,CF,DM,Jo];omega
theorem oa (d:Nat) (l:List Ident):(Dr (d+3) (J0 l)).length≤2+l.length*82:=by
 rw[J0,N9,CU]
 have:=FF (l:=l) (f:=(fun a=>(Dr (d+2) a).length) ∘ GH) (B:=82) fun x _=>kU d x
 omega
structure W7 (c:Chg):Prop where
 lines:c.lines.length≤40
 line: ∀ s∈c.lines,s.length≤3000
 over:c.over.length≤40
 name:c.name.length≤3000
 data:c.data.length≤3000
theorem W6 {c:Chg} {q:Sx→Prop} (h1: ∀ n,q (GI n)) (h2: ∀ x,q (GH x)) (h3:q (Cj c.name)) (h4:q (Cj c.data)) (h5:q (ED (c.lines.map Cj))) (h6:q (J0 c.over)): ∀ y∈([GI c.kind]++K2 c++IK c)++L7 c,q y:=by
 intro y hy
 simp only[Ah,Ae]at hy
 rcases hy with ((rfl|hy)|hy)|hy
 ·exact h1 _
 ·unfold K2 at hy
  split at hy
  ·simp only[Ae]at hy;subst hy;exact h2 _
  ·cases hy
 ·unfold IK at hy
  repeat' split at hy
  all_goals simp only[AF,Aa,or_false]at hy
  ·subst hy;exact h1 _
  ·rcases hy with rfl|rfl
   ·exact h2 _
   ·exact h3
  ·subst hy;exact h1 _
  ·subst hy;exact h4
  ·rcases hy with rfl|rfl<;>exact h2 _
 ·unfold L7 at hy
  repeat' split at hy
  all_goals simp only[AF,Aa,or_false]at hy
  ·subst hy;exact h5
  ·subst hy;exact h6
theorem pV (c:Chg):(([GI c.kind]++K2 c++IK c)++L7 c).length≤5:=by
 have h1:=RK c
 have h2:=RJ c
 have h3:(L7 c).length≤1:=by unfold L7;repeat' split
                             all_goals simp
 simp only[AD,B9];omega
theorem sG (d:Nat) {c:Chg} (h:W7 c):P4 (d+4) (Kv c):=
 Mc (W6 (fun n=>aY (d+2) n) (fun x=>iU (d+1) x) (K8 (d+2) (by have:=h.name;omega)) (K8 (d+2) (by have:=h.data;omega))
  (Mc fun y hy=>by
   obtain⟨s,hs,rfl⟩:=AQ.1 hy
   exact K8 (d+1) (by have:=h.line s hs;omega)) (mg d c.over))
theorem kO (d:Nat) (c:Chg):(([GI c.kind]++K2 c++IK c).map (IU (d+3))).sum≤12:=by
 have h:=FF (l:= [GI c.kind]++K2 c++IK c) (f:=IU (d+3)) (B:=3) fun y hy=>by
  simp only[Ah,Ae]at hy
  rcases hy with (rfl|hy)|hy
  ·rw[Tl (d+2)];decide
  ·unfold K2 at hy
   split at hy
   ·simp only[Ae]at hy;subst hy;rw[XF (d+1)];decide
   ·cases hy
  ·unfold IK at hy
   repeat' split at hy
   all_goals simp only[AF,Aa,or_false]at hy
   ·subst hy;rw[Tl (d+2)];decide
   ·rcases hy with rfl|rfl
    ·rw[XF (d+1)];decide
    ·rw[XG (d+2)];decide
   ·subst hy;rw[Tl (d+2)];decide
   ·subst hy;rw[XG (d+2)];decide
   ·rcases hy with rfl|rfl<;>(rw[XF (d+1)];decide)
 have h1:=RK c
 have h2:=RJ c
 simp only[AD,B9]at h
 omega
theorem oV (d:Nat) (c:Chg):((L7 c).map (IU (d+3))).sum≤3*Ic c:=by
 unfold L7 Ic
 repeat' split
 ·simp only[Ar,CF,DM,Jo]
  rw[Ot (d+2),CU]
  have:=FF (l:=c.lines) (f:=IU (d+2) ∘ Cj) (B:=1) fun s _=>An _
  omega
 ·simp only[Ar,CF,DM,Jo]
  have:=oU d c.over
  omega
 ·simp
theorem tX (d:Nat) (c:Chg):IU (d+4) (Kv c)≤13+3*Ic c:=by
 rw[Kv,Ot,Al,Df]
 have h1:=kO d c
 have h2:=oV d c
 omega
theorem YC {α:Type} {l:List α} {f g:α→Nat} {a b:Nat} (h: ∀ s∈l,f s≤a+b*g s):(l.map f).sum≤l.length*a+b*(l.map g).sum:=by
 induction l with
 |nil=>simp
 |cons x l ih=>
  have h1:=h x (by simp)
  have h2:=ih fun s hs=>h s (by simp[hs])
  simp only[Ar,DM,AN,C8,Nat.mul_add];omega
theorem te (d:Nat) {c:Chg} (h:W7 c):(Dr (d+4) (Kv c)).length≤650000:=by
 rw[Kv,N9]
 have h1:=FF (f:=fun y=>(Dr (d+3) y).length) (B:=121000) (W6 (c:=c) (q:=fun y=>(Dr (d+3) y).length≤121000) (fun n=>CT (bk (d+2) n) (by decide)) (fun x=>CT (kU (d+1) x) (by decide))
  (CT (JU (d+2) (s:=c.name) (by have:=h.name;omega)) (by have:=h.name;omega)) (CT (JU (d+2) (s:=c.data) (by have:=h.data;omega)) (by have:=h.data;omega))
  (by
   rw[N9 (d+2),CU]
   have:=FF (l:=c.lines) (f:=(fun a=>(Dr (d+2) a).length) ∘ Cj) (B:=3016) fun s hs=>by
    have h3:=h.line s hs
    exact CT (JU (d+1) (s:=s) (by omega)) (by omega)
   have:=h.lines;omega)
  (by have:=oa d c.over;have:=h.over;omega))
 have h2:=B6 121000 (pV c)
 omega
theorem IJ {α:Type} {l:List α} {f:α→Nat} {a:α} (h:a∈l):f a≤(l.map f).sum:=by
 induction l with
 |nil=>cases h
 |cons x l ih=>
  simp only[Ar,DM]
  rcases AF.1 h with rfl|h
  ·omega
  ·have:=ih h;omega
theorem LK {p:Pat} (h:Fk p=false):p.author.length≤3000∧p.message.length≤3000∧p.deps.length≤20∧p.changes.length≤20∧ ∀ c∈p.changes,W7 c:=by
 unfold Fk at h
 simp only[CG,A8,Bl]at h
 obtain⟨⟨⟨h1,h2⟩,h3⟩,h4⟩:=h
 have ht:RL p=p.author.length+p.message.length+(p.changes.map GL).sum:=rfl
 refine⟨by omega,by omega,by omega,by omega,fun c hc=>?_⟩
 have h5:=h1 c hc
 simp only[bM,vK,Jq,CG,A8]at h5
 obtain⟨⟨h6,h7⟩,h8⟩:=h5
 have h9:=IJ (f:=GL) hc
 have h10:GL c=c.name.length+c.data.length:=rfl
 refine⟨by omega,fun s hs=>?_,by omega,by omega,by omega⟩
 have:=IJ (f:=List.length) hs
 unfold LX at h7
 omega
theorem Xq {p:Pat} (h:Fk p=false):E6 p=false:=by
 obtain⟨h1,h2,h3,h4,h5⟩:=LK h
 have hs:=FF (l:=p.changes) (f:=Ic) (B:=81) fun c hc=>by have a:=(h5 c hc).lines;have b:=(h5 c hc).over;unfold Ic;omega
 unfold Fk at h
 unfold E6
 simp only[CG,A8,Bl]at h ⊢
 obtain⟨⟨⟨g1,g2⟩,g3⟩,g4⟩:=h
 refine⟨⟨⟨⟨fun c hc=>?_,by omega⟩,by omega⟩,by omega⟩,by omega⟩
 have k1:=g1 c hc
 have k2: ¬3000 < (GL c:Int):=by
  have:=IJ (f:=GL) hc
  have ht:RL p=p.author.length+p.message.length+(p.changes.map GL).sum:=rfl
  omega
 simp only[Jq]at k1
 simp[k1,k2]
theorem EY {p:Pat} (h:E6 p=false):p.author.length≤30000∧p.message.length≤30000∧p.deps.length≤200∧p.changes.length≤200∧ ∀ c∈p.changes,W7 c:=by
 unfold E6 at h
 simp only[CG,A8,Bl]at h
 obtain⟨⟨⟨⟨h1,h2⟩,h3⟩,h4⟩,_⟩:=h
 have ht:RL p=p.author.length+p.message.length+(p.changes.map GL).sum:=rfl
 refine⟨by omega,by omega,by omega,by omega,fun c hc=>?_⟩
 have h5:=h1 c hc
 simp only[bM,vK,Jq,CG,A8]at h5
 obtain⟨⟨⟨h6,h7⟩,h8⟩,h9⟩:=h5
 have h10:GL c=c.name.length+c.data.length:=rfl
 refine⟨by omega,fun s hs=>?_,by omega,by omega,by omega⟩
 have:=IJ (f:=List.length) hs
 unfold LX at h7
 omega
theorem pd {p:Pat} (h:E6 p=false):(p.changes.map Ic).sum≤2000:=by
 unfold E6 at h
 simp only[CG,A8]at h
 omega
theorem OG {p:Pat} (h:E6 p=false):W3 p:=by
 obtain⟨h1,h2,h3,h4,h5⟩:=EY h
 have hsum:=pd h
 refine⟨by omega,by omega,fun c hc=>⟨by have:=(h5 c hc).lines;omega,by have:=(h5 c hc).over;omega⟩,⟨?_,?_⟩,?_⟩
 ·refine Mc (d:=7) fun y hy=>?_
  simp only[AF,Aa,or_false]at hy
  rcases hy with rfl|rfl|rfl|rfl|rfl|rfl
  ·exact K8 6 (by decide)
  ·exact K8 6 (by omega)
  ·exact K8 6 (by omega)
  ·exact aY 6 _
  ·exact Mc fun y hy=>by obtain⟨x,_,rfl⟩:=AQ.1 hy;exact iV 5 x
  ·exact Mc fun y hy=>by obtain⟨x,hx,rfl⟩:=AQ.1 hy;exact sG 2 (h5 x hx)
 ·rw[X2,Ot 7]
  simp only[Ar,CF,DM,Jo,XG 6,Tl 6,Ot 6,CU]
  have e1:=FF (l:=p.deps) (f:=IU 6 ∘ KC) (B:=1) fun x _=>EN (kN 5 x)
  have e2:=YC (l:=p.changes) (f:=IU 6 ∘ Kv) (g:=Ic) (a:=13) (b:=3) fun x _=>tX 2 x
  have e3:=B6 13 h4
  omega
 ·rw[Na,X2,N9 7]
  simp only[Ar,CF,DM,Jo]
  have e0:(Dr 7 (Cj [113,117,105,108,116,49])).length≤22:=JU 6 (s:= [113,117,105,108,116,49]) (by decide)
  have e1:(Dr 7 (Cj p.author)).length≤16+p.author.length:=JU 6 (s:=p.author) (by omega)
  have e2:(Dr 7 (Cj p.message)).length≤16+p.message.length:=JU 6 (s:=p.message) (by omega)
  have e3:(Dr 7 (GI p.time)).length≤32:=bk 6 p.time
  have e8:(Dr 7 (ED (p.deps.map KC))).length=2+((p.deps.map KC).map fun a=>(Dr 6 a).length).sum:=N9 6 _
  have e9:(Dr 7 (ED (p.changes.map Kv))).length=2+((p.changes.map Kv).map fun a=>(Dr 6 a).length).sum:=N9 6 _
  rw[CU]at e8 e9
  have e4:=FF (l:=p.deps) (f:=(fun a=>(Dr 6 a).length) ∘ KC) (B:=48) fun x _=>kV 5 x
  have e5:=FF (l:=p.changes) (f:=(fun a=>(Dr 6 a).length) ∘ Kv) (B:=650000) fun x hx=>te 2 (h5 x hx)
  have e6:=B6 650000 h4
  have e7:=B6 48 h3
  omega
def CN (p:Pat):Str × Int:=if(CB p).2≠0 then([],(CB p).2)else KD p
theorem QU (p:Pat):(CN p).1.length≤65536:=by
 unfold CN KD
 split
 ·simp
 ·split
  ·simp
  ·dsimp only;omega
instance uo (p:Pat) [hs:Aw (E6 p=false)]:C6 Tryz.prog 55 [.agg (Bh p)] (.tuple [.str (CN p).1,.raw (.int .i64 (CN p).2)]):=⟨by
 have i1:Aw (W3 p):=⟨OG hs.out⟩
 refine Av Tryz.func55 Tryz.ntmps55 rfl (rs:= [.tmp 2,.tmp 3]) rfl rfl fun hb LF=>?_
 refine Cz fun b=>?_
 refine AR (fun h=>?_) (fun h=>?_)
 ·refine AW ?_
  refine H2 ?_
  rw[CN,if_pos h]
  exact .refl _
 ·refine AW ?_
  refine H2 ?_
  rw[CN,if_neg (by simp[h])]
  exact .refl _⟩
instance gv (p:Pat) [hs:Aw (E6 p=false)]:C6 Tryz.prog 19 [.agg (Bh p)] (.raw (.int .i64 (CN p).2)):=⟨by
 refine Av Tryz.func19 Tryz.ntmps19 rfl (rs:= [.tmp 2]) rfl rfl fun hb LF=>?_
 refine Cz fun b=>?_
 exact Ax (.refl _)⟩
def Ei (p:Pat):Dig × Int:=if(CN p).2≠0 then(Dig.zero,(CN p).2)else(fR (CN p).1,0)
instance zj (p:Pat) [hs:Aw (E6 p=false)]:C6 Tryz.prog 86 [.agg (Bh p)] (.tuple [.agg (eDig (Ei p).1),.raw (.int .i64 (Ei p).2)]):=⟨by
 have i1:Aw ((CN p).1.length≤1000000):=⟨by have:=QU p;omega⟩
 refine Av Tryz.func86 Tryz.ntmps86 rfl (rs:= [.cell 2 31,.tmp 3]) rfl rfl fun hb LF=>?_
 refine Cz fun b=>?_
 refine Ew fun b2=>?_
 refine AR (fun h=>?_) (fun h=>?_)
 ·refine AW ?_
  refine LN rfl (.of_eq ?_)
  rw[Ei,if_pos h]
 ·refine AW ?_
  refine LN rfl (.of_eq ?_)
  rw[Ei,if_neg (by simp[h])]⟩
end Go.Proofs
namespace Go.Q
open Go
structure ua {α β:Type} (B:α→β→Prop):Prop where
 out: ∀ a b,B a b
section
variable {P:Program} {N:Nat} {all:Array Oper} {K:Env→List Res→Prop} {fl:List Bool} {os:List Oper} {ρ:Env} {L:List Res} {Q:PPost} {c:Code} {d:Nat} {ty:TypeId} {pos:String} {af:Array Edge}
theorem tD (i:Nat) (x:PV) (hx:ρ i=x) (k:Bd x→Eb P N c Q ρ L):Eb P N c Q ρ L:=fun ro base a w g hs=>k (hx ▸ (hs.agr.slot i).bd) ro base a w g hs
theorem sl {T sz by_:Nat} [hE:GA P T sz by_] {x0 x1 x2 x3:Operand} {a0 a1 a2 a3:PV} {α:Type} {f:α→List PV} {e0 e1 e2 e3:α} (q0:ρ.ev x0=a0) (q1:ρ.ev x1=a1) (q2:ρ.ev x2=a2) (q3:ρ.ev x3=a3) [hC0:GB a0 f e0] [hC1:GB a1 f e1] [hC2:GB a2 f e2] [hC3:GB a3 f e3] [hf:NM f sz] (h24:4*sz≤16777216)
  (k: ∀ t,AV P N all K fl.tail os (CV ρ d (.slice ([e0,e1,e2,e3].map f) t)) (.tok t [e0,e1,e2,e3].length sz::L)) (hd:Nat.blt d N=true:=by rfl) (hfl:fl.headD true=true:=by rfl):AV P N all K fl (⟨some d,.buildSlice T 4 #[(0,x0),(1,x1),(2,x2),(3,x3)],ty,pos,af,none⟩::os) ρ L:=
 Dd rfl (P7 hd) hfl (da (n:=4) (xs:= [x0,x1,x2,x3]) (cs:= [e0,e1,e2,e3].map f) rfl rfl h24 (by decide) (fun i h1 h2=>by
  match i,h1,h2 with
  |0,_,_=>exact⟨q0 ▸ hC0.out,hf.out e0⟩
  |1,_,_=>exact⟨q1 ▸ hC1.out,hf.out e1⟩
  |2,_,_=>exact⟨q2 ▸ hC2.out,hf.out e2⟩
  |3,_,_=>exact⟨q3 ▸ hC3.out,hf.out e3⟩
  |m+4,h1,_=>exact absurd h1 (by simp only[AN,Af];omega)) k)
theorem mh {A:Prop} {B:Nat→C9→Prop} (k: ∀ b t,B b t) (h:ua B→A:=by
  intro hB
  refine iW ?_
  first|refine Yd (by rfl) fun b=>?_|refine Bw fun b=>?_
  refine iW ?_
  refine sl (by(conv=>lhs;whnf);done) (by(conv=>lhs;whnf);done) (by(conv=>lhs;whnf);done) (by(conv=>lhs;whnf);done) (hC0:=(by first|infer_instance|fail)) (hC1:=(by first|infer_instance|fail)) (hC2:=(by first|infer_instance|fail)) (hC3:=(by first|infer_instance|fail)) (hf:=(by first|infer_instance|fail)) (by decide) fun t=>?_
  refine AW ?_
  exact hB.out b t):A:=h ⟨k⟩
end
end Go.Q
