/- Contracts: changes; what is checked of a patch but its encoding (the reference's layer 16). -/
import Derived.Test.YtaibdmankdppkaaGreatDoorXah
import Derived.Test.YtaibdmankdppkaaGreatDoorXae
set_option linter.unusedSimpArgs false
set_option linter.unusedVariables false
set_option maxHeartbeats 8000000
namespace Go.Proofs
open Go Go.Q
attribute [local irreducible] ER AQ BG Fu
theorem JU {c:Chg} (h:Bz c=0):c.lines.length≤2000:=by
 unfold Bz at h
 split at h
 ·omega
 split at h
 ·omega
 rename_i h2
 split at h
 ·omega
 split at h
 ·omega
 split at h
 ·omega
 split at h
 ·omega
 split at h
 ·unfold Mg at h
  split at h
  ·omega
  split at h
  ·omega
  ·omega
 ·rename_i h7
  simp only[Bool.not_eq_false,Fo,BJ,AB,Hr,h7,if_false]at h2
  omega
def Cv:List Chg→List Atm→List Atm × Int
 | [],own=>(own,0)
 |c::l,own=>if Bz c≠0 then([],Bz c)else if Ey c own≠0 then([],Ey c own)else Cv l (own++DZ c own.length)
theorem LJ {l:List Chg} {k:Nat} (hk:k < l.length) (own:List Atm):Cv (l.drop k) own=if Bz l[k]≠0 then([],Bz l[k])else if Ey l[k] own≠0 then([],Ey l[k] own)else Cv (l.drop (k+1)) (own++DZ l[k] own.length):=by
 rw[CP hk,Cv]
instance tE (l:List Chg) (t:CN) [hs:B4 (l.length≤400)]:C9 Tryz.prog 163 [.slice (l.map eChg) t] (.tuple [.slice ((Cv l []).1.map eAtm) .ro,.raw (.int .i64 (Cv l []).2)]):=⟨by
 refine Au Tryz.func163 Tryz.ntmps163 rfl (rs:= [.tmp 2,.tmp 3]) rfl rfl fun hb LF=>?_
 have hl:=hs.out
 refine AY ?_
 refine EL 172 ?_
 refine Ab (σ:=Nat × CN × List Atm) (fun k=>k.1≤l.length∧k.2.2.length≤k.1*4001∧Cv l []=Cv (l.drop k.1) k.2.2) (fun k=>l.length - k.1) (fun k=> [(0,.slice (l.map eChg) t),(4,.slice (k.2.2.map eAtm) k.2.1),(5,.raw (.int .i64 k.1))]) (fun k=> .tok k.2.1 k.2.2.length 172::LF) (0,.nil,[]) ⟨by simp,by simp,by simp⟩ ⟨rfl,rfl,rfl⟩ (.refl _) ?_
 rintro⟨k,v,own⟩ ⟨hk,hlen,he⟩
 dsimp only at hk hlen he
 refine AY ?_
 refine A6 (fun hc=>?_) (fun hc=>?_)
 ·have hlt:k < l.length:=by omega
  rw[LJ hlt]at he
  refine AY ?_
  refine AX (fun h1=>?_) (fun h1=>?_)
  ·refine AY ?_
   rw[if_pos h1]at he
   refine HD (.tuple2 ?_ (.of_eq ?_))
   ·rw[he];exact .ro _ _
   ·rw[he]
  rw[if_neg (by simp[h1])]at he
  refine AY ?_
  refine AX (fun h2=>?_) (fun h2=>?_)
  ·refine AY ?_
   rw[if_pos h2]at he
   refine HD (.tuple2 ?_ (.of_eq ?_))
   ·rw[he];exact .ro _ _
   ·rw[he]
  rw[if_neg (by simp[h2])]at he
  have hll:l[k].lines.length≤2000:=JU h1
  have hmm:=Ln l[k] own.length
  have:B4 (l[k].lines.length≤2000∧(0:Int)≤own.length∧(own.length:Int)≤1000000000):=⟨hll,by omega,by omega⟩
  refine Hn fun v'=>?_
  refine⟨(k+1,v',own++DZ l[k] own.length),⟨by dsimp only;omega,by dsimp only;rw[AA];omega,he⟩,by dsimp only;omega,⟨rfl,rfl,rfl⟩,.refl _⟩
 ·refine AY ?_
  have hkk:l.drop k= []:=DB (by omega)
  rw[hkk]at he
  refine HD (.tuple2 ?_ (.of_eq ?_))
  ·rw[he];exact .ro _ _
  ·rw[he];rfl⟩
def Bo (p:Pat):List Atm × Int:=
 if Jc p.author=false then([],5)else if 1000 < (p.message.length:Int)then([],4)else if p.time < 0∨1099511627776 < p.time then([],2)else
 if H9 p.deps≠0 then([],H9 p.deps)else if(p.changes.length:Int)=0 then([],1)else if 400 < (p.changes.length:Int)then([],4)else Cv p.changes []
instance uQ (p:Pat):C9 Tryz.prog 113 [.agg (Ba p)] (.tuple [.slice ((Bo p).1.map eAtm) .ro,.raw (.int .i64 (Bo p).2)]):=⟨by
 refine Au Tryz.func113 Tryz.ntmps113 rfl (rs:= [.tmp 2,.tmp 3]) rfl rfl fun hb LF=>?_
 refine DC fun b=>?_
 refine AU (fun h1=>?_) (fun h1=>?_)
 ·refine AY ?_
  rw[Bo,if_pos (by simpa using h1)]
  refine HD ?_;exact .tuple2 (.ro _ _) (.refl _)
 rw[Bo,if_neg (by simpa using h1)]
 refine AY ?_
 refine A6 (fun h2=>?_) (fun h2=>?_)
 ·refine AY ?_
  rw[if_pos h2]
  refine HD ?_;exact .tuple2 (.ro _ _) (.refl _)
 rw[if_neg h2]
 refine AY ?_
 refine BR [(20,.raw (.bool (decide (p.time < 0∨1099511627776 < p.time)))),(1,.raw (.pointer (some ⟨b,0,none⟩)))] (.box b 40 (Ba p)::LF) ?_ ?_
 ·repeat' (first|(refine A6 (fun h=>?_) (fun h=>?_)<;>refine AY ?_)|(refine AX (fun h=>?_) (fun h=>?_)<;>refine AY ?_)|(refine AU (fun h=>?_) (fun h=>?_)<;>refine AY ?_)|(refine Ar (fun h=>?_) (fun h=>?_)<;>(have h2:=h;(try simp only[AB,A8,AG,AL]at h2);refine C8 ?_)))
  all_goals (refine⟨⟨C4 (by rfl) ?_,rfl⟩,.refl _⟩;first|(simp_all;done)|(simp_all;omega)|grind)
 refine AY ?_
 refine A6 (fun h3=>?_) (fun h3=>?_)
 ·refine AY ?_
  rw[if_pos h3]
  refine HD ?_;exact .tuple2 (.ro _ _) (.refl _)
 rw[if_neg h3]
 refine AY ?_
 refine AX (fun h4=>?_) (fun h4=>?_)
 ·refine AY ?_
  rw[if_pos h4]
  refine HD ?_;exact .tuple2 (.ro _ _) (.refl _)
 rw[if_neg (by simp[h4])]
 refine AY ?_
 refine A6 (fun h5=>?_) (fun h5=>?_)
 ·refine AY ?_
  rw[if_pos h5]
  refine HD ?_;exact .tuple2 (.ro _ _) (.refl _)
 rw[if_neg h5]
 refine AY ?_
 refine A6 (fun h6=>?_) (fun h6=>?_)
 ·refine AY ?_
  rw[if_pos h6]
  refine HD ?_;exact .tuple2 (.ro _ _) (.refl _)
 rw[if_neg h6]
 have:B4 (p.changes.length≤400):=⟨by omega⟩
 refine AY ?_
 refine HD ?_;exact .refl _⟩
def P5:Nat→Nat→Str
 |0,n=> [UInt8.ofNat (48+n)]
 |f+1,n=>if n < 10 then [UInt8.ofNat (48+n)]else P5 f (n / 10)++ [UInt8.ofNat (48+n % 10)]
theorem TB: ∀ (f n:Nat),n≤f→P5 f n=P5 n n
 |0,n,h=>by have:n=0:=by omega
            subst this;rfl
 |f+1,n,h=>by
  by_cases hn:n < 10
  ·cases n with
   |zero=>simp[P5]
   |succ m=>simp only[P5,hn,if_true]
  ·obtain⟨m,rfl⟩: ∃ m,n=m+1:=⟨n - 1,by omega⟩
   simp only[P5,hn,if_false]
   rw[TB f ((m+1) / 10) (by omega),TB m ((m+1) / 10) (by omega)]
def Hs (n:Nat):Str:=P5 n n
theorem IQ {n:Nat} (h:n < 10):Hs n= [UInt8.ofNat (48+n)]:=by
 unfold Hs
 cases n with
 |zero=>simp[P5]
 |succ m=>simp only[P5,h,if_true]
theorem Lr {n:Nat} (h: ¬n < 10):Hs n=Hs (n / 10)++ [UInt8.ofNat (48+n % 10)]:=by
 obtain⟨m,rfl⟩: ∃ m,n=m+1:=⟨n - 1,by omega⟩
 unfold Hs
 simp only[P5,h,if_false]
 rw[TB m ((m+1) / 10) (by omega)]
theorem YE: ∀ (m n:Nat),n < 10 ^ (m+1)→(Hs n).length≤m+1
 |0,n,h=>by rw[IQ (by omega)];simp
 |m+1,n,h=>by
  by_cases hn:n < 10
  ·rw[IQ hn];simp
  ·rw[Lr hn,AA]
   have:=YE m (n / 10) (by rw[Nat.div_lt_iff_lt_mul (by omega)];rw[Nat.pow_succ]at h;omega)
   simp only[AN,Af];omega
theorem KS {n:Nat} (h:n≤140737488355328):(Hs n).length≤15:=YE 14 n (by omega)
theorem S6: ∀ (n:Nat),n≤140737488355328→Q.Fn Tryz.prog 282 [.raw (.int .i64 (n:Int))] (.str (Hs n)):=by
 intro n
 induction n using Nat.strongRecOn with
 |_ n ih=>
 intro hn
 have ih': ∀ m:Nat,[B4 (m < n)]→C9 Tryz.prog 282 [.raw (.int .i64 (m:Int))] (.str (Hs m)):=fun m h=>⟨ih m h.out (by have:=h.out;omega)⟩
 refine Au Tryz.func282 Tryz.ntmps282 rfl (rs:= [.tmp 2]) rfl rfl fun hb LF=>?_
 refine AY ?_
 refine A6 (fun h2=>?_) (fun h2=>?_)
 ·refine AY ?_
  refine Az (.of_eq ?_)
  rw[IQ (by omega)]
 ·have:B4 (n / 10 < n):=⟨by omega⟩
  have hl:=KS (n:=n / 10) (by omega)
  refine AY ?_
  refine Xr (n:=10) (by rfl) (by rfl) (by decide) (by omega) ?_
  refine C8 ?_
  refine Xq (n:=10) (by rfl) (by rfl) (by decide) ?_
  refine C8 ?_
  refine Az (.of_eq ?_)
  rw[Lr (n:=n) (by omega)]
def J8 (n:Int):Str:=if n < 0 then 45::Hs (-n).toNat else Hs n.toNat
theorem OW {n:Int} (h: -140737488355328≤n∧n≤140737488355328):(J8 n).length≤16:=by
 unfold J8
 split
 ·have:=KS (n:=(-n).toNat) (by omega)
  simp only[AN];omega
 ·have:=KS (n:=n.toNat) (by omega)
  omega
instance ta (n:Int) [hs:B4 (-140737488355328≤n∧n≤140737488355328)]:C9 Tryz.prog 282 [.raw (.int .i64 n)] (.str (J8 n)):=⟨by
 obtain⟨h0,h1⟩:=hs.out
 by_cases hn:n < 0
 ·have h3:C9 Tryz.prog 282 [.raw (.int .i64 (-n))] (.str (Hs (-n).toNat)):=⟨by
   have:=S6 (-n).toNat (by omega)
   rwa [show(((-n).toNat:Nat):Int)= -n by omega]at this⟩
  refine Au Tryz.func282 Tryz.ntmps282 rfl (rs:= [.tmp 2]) rfl rfl fun hb LF=>?_
  refine AY ?_
  refine A6 (fun h1=>?_) (fun h1=>?_)
  ·refine AY ?_
   refine A6 (fun h2=>?_) (fun h2=>?_)
   ·omega
   ·have hl:=KS (n:=(-n).toNat) (by omega)
    refine AY ?_
    refine Az (.of_eq ?_)
    rw[J8,if_pos hn];rfl
  ·omega
 ·have:=S6 n.toNat (by omega)
  rw[show((n.toNat:Nat):Int)=n by omega]at this
  rw[J8,if_neg hn];exact this⟩
def Cb (s:Str):Sx:= .mk false s []
def E7 (l:List Sx):Sx:= .mk true [] l
def R7 (n:Int):Sx × Int:=if n < -1099511627776∨1099511627776 < n then(Sx.zero,2)else(Cb (J8 n),0)
instance ya (n:Int):C9 Tryz.prog 223 [.raw (.int .i64 n)] (.tuple [.agg (eSx (R7 n).1),.raw (.int .i64 (R7 n).2)]):=⟨by
 refine Au Tryz.func223 Tryz.ntmps223 rfl (rs:= [.cell 2 196,.tmp 3]) rfl rfl fun hb LF=>?_
 refine DC fun b=>?_
 refine BR [(9,.raw (.bool (decide (n < -1099511627776∨1099511627776 < n)))),(0,.raw (.int .i64 n)),(2,.raw (.pointer (some ⟨b,0,none⟩)))] (.box b 196 (eSx Sx.zero)::LF) ?_ ?_
 ·repeat' (first|(refine A6 (fun h=>?_) (fun h=>?_)<;>refine AY ?_)|(refine AX (fun h=>?_) (fun h=>?_)<;>refine AY ?_)|(refine AU (fun h=>?_) (fun h=>?_)<;>refine AY ?_)|(refine Ar (fun h=>?_) (fun h=>?_)<;>(have h2:=h;(try simp only[AB,A8,AG,AL]at h2);refine C8 ?_)))
  all_goals (refine⟨⟨C4 (by rfl) ?_,rfl,rfl⟩,.refl _⟩;first|(simp_all;done)|(simp_all;omega)|grind)
 refine AY ?_
 refine A6 (fun h=>?_) (fun h=>?_)
 ·refine AY ?_
  refine L6 rfl (.of_eq ?_)
  rw[R7,if_pos h]
 ·have:B4 (-140737488355328≤n∧n≤140737488355328):=⟨by omega⟩
  refine AY ?_
  refine L6 rfl (.of_eq ?_)
  rw[R7,if_neg h];rfl⟩
instance wc (s:Str):C9 Tryz.prog 168 [.str s] (.agg (eSx (Cb s))):=⟨by
 refine Au Tryz.func168 Tryz.ntmps168 rfl (rs:= [.cell 2 196]) rfl rfl fun hb LF=>?_
 refine DC fun b=>?_
 refine Fq rfl (.of_eq ?_)
 rfl⟩
instance vn (l:List Sx) (t:CN):C9 Tryz.prog 167 [.slice (l.map eSx) t] (.agg (eSx (E7 l))):=⟨by
 refine Au Tryz.func167 Tryz.ntmps167 rfl (rs:= [.cell 2 196]) rfl rfl fun hb LF=>?_
 refine DC fun b=>?_
 refine Fq rfl (.of_eq ?_)
 rfl⟩
def GD (n:Int):Sx:=(R7 n).1
instance sN (n:Int):C9 Tryz.prog 169 [.raw (.int .i64 n)] (.agg (eSx (GD n))):=⟨by
 refine Au Tryz.func169 Tryz.ntmps169 rfl (rs:= [.cell 2 196]) rfl rfl fun hb LF=>?_
 refine DC fun b=>?_
 refine FK fun b2=>?_
 refine Fq rfl (.of_eq ?_)
 rfl⟩
instance x9 (d:Dig):C9 Tryz.prog 218 [.agg (eDig d)] (.str d.bs):=⟨by
 refine Au Tryz.func218 Tryz.ntmps218 rfl (rs:= [.tmp 2]) rfl rfl fun hb LF=>?_
 refine DC fun b=>?_
 refine Az (.of_eq ?_)
 rfl⟩
def K8 (d:Dig):Sx:=if d=Dig.zero then Cb []else Cb d.bs
instance tB (d:Dig):C9 Tryz.prog 164 [.agg (eDig d)] (.agg (eSx (K8 d))):=⟨by
 refine Au Tryz.func164 Tryz.ntmps164 rfl (rs:= [.cell 2 196]) rfl rfl fun hb LF=>?_
 refine DC fun b=>?_
 refine FK fun b2=>?_
 refine A6 (fun h=>?_) (fun h=>?_)
 ·refine AY ?_
  refine Fq rfl (.of_eq ?_)
  rw[K8,if_pos h]
 ·refine AY ?_
  refine Fq rfl (.of_eq ?_)
  rw[K8,if_neg h]⟩
def GB (x:Ident):Sx:=E7 [K8 x.patch,GD x.n]
instance lH (x:Ident):C9 Tryz.prog 219 [.agg (eIdent x)] (.agg (eSx (GB x))):=⟨by
 refine Au Tryz.func219 Tryz.ntmps219 rfl (rs:= [.cell 2 196]) rfl rfl fun hb LF=>?_
 refine Zi fun b=>?_
 refine lh fun b2=>?_
 refine Bp 8 ?_ ?_
 ·decide+kernel
 refine C8 ?_
 refine Fq rfl (.of_eq ?_)
 rfl⟩
def J6 (l:List Ident):Sx:=E7 (l.map GB)
instance va (l:List Ident) (t:CN) [hs:B4 (l.length≤1000000)]:C9 Tryz.prog 220 [.slice (l.map eIdent) t] (.agg (eSx (J6 l))):=⟨by
 refine Au Tryz.func220 Tryz.ntmps220 rfl (rs:= [.cell 2 196]) rfl rfl fun hb LF=>?_
 have hlen:=hs.out
 refine DC fun b=>?_
 refine EL 3 ?_
 refine Ab (σ:=Nat × CN × List Sx) (fun k=>k.1≤l.length∧k.2.2=(l.take k.1).map GB) (fun k=>l.length - k.1) (fun k=> [(0,.slice (l.map eIdent) t),(2,.raw (.pointer (some ⟨b,0,none⟩))),(3,.slice (k.2.2.map eSx) k.2.1),(4,.raw (.int .i64 k.1))]) (fun k=> .tok k.2.1 k.2.2.length 3:: .box b 196 (eSx Sx.zero)::LF) (0,.nil,[]) ⟨by simp,by simp⟩ ⟨rfl,rfl,rfl,rfl⟩ (.refl _) ?_
 rintro⟨k,v,out⟩ ⟨hk,he⟩
 dsimp only at hk he
 have hol:out.length=k:=by rw[he];simp;omega
 refine AY ?_
 refine A6 (fun hc=>?_) (fun hc=>?_)
 ·have hlt:k < l.length:=by omega
  refine Hn fun v'=>?_
  refine⟨(k+1,v',out++ [GB l[k]]),⟨by dsimp only;omega,?_⟩,by dsimp only;omega,⟨rfl,rfl,rfl,rfl⟩,.refl _⟩
  dsimp only
  rw[A7 hlt,An,he];rfl
 ·refine AY ?_
  refine Fq rfl (.of_eq ?_)
  rw[AE (by omega)]at he
  rw[J6,←he]⟩
def Oq:Nat→Sx→Prop
 |0,_=>False
 |d+1,x=>(x.isList=false∧x.list= []∧x.atom.length≤65536)∨(x.isList=true∧x.atom= []∧ ∀ y∈x.list,Oq d y)
def Ib:Nat→Sx→Nat
 |0,_=>0
 |d+1,x=>if x.isList then 1+(x.list.map (Ib d)).sum else 1
def Dp:Nat→Sx→Str
 |0,_=> []
 |d+1,x=>if x.isList then 40::(x.list.flatMap (Dp d)++ [41])else Hs x.atom.length++58::x.atom
theorem Kt {l:List Nat} {k:Nat}:(l.take k).sum≤l.sum:=by
 conv=>rhs;rw[←C7 k l,DX]
 omega
theorem ZM: ∀ (d:Nat) (x:Sx) (limit depth:Int),Oq d x→(Ib d x:Int)≤limit→limit≤1000000→(d:Int)≤depth→depth≤1000→Q.Fn Tryz.prog 280 [.agg (eSx x),.raw (.int .i64 limit),.raw (.int .i64 depth)] (.raw (.int .i64 (Ib d x:Int)))
 |0,x,limit,depth,hw,_,_,_,_=>hw.elim
 |d+1,x,limit,depth,hw,hn,hl,hd,hd2=>by
  have ih: ∀ (y:Sx) (lim dep:Int),[B4 (Oq d y∧(Ib d y:Int)≤lim∧lim≤1000000∧(d:Int)≤dep∧dep≤1000)]→C9 Tryz.prog 280 [.agg (eSx y),.raw (.int .i64 lim),.raw (.int .i64 dep)] (.raw (.int .i64 (Ib d y:Int))):=fun y lim dep h=>⟨by
   obtain⟨h1,h2,h3,h4,h5⟩:=h.out
   exact ZM d y lim dep h1 h2 h3 h4 h5⟩
  have hpos:1≤Ib (d+1) x:=by unfold Ib;split<;>omega
  refine Au Tryz.func280 Tryz.ntmps280 rfl (rs:= [.tmp 6]) rfl rfl fun hb LF=>?_
  refine DC fun b=>?_
  refine Ar (fun hp=>?_) (fun hp=>?_)
  ·have:=BF hp;omega
  refine C8 ?_
  refine A6 (fun h1=>?_) (fun h1=>?_)
  ·omega
  refine AY ?_
  refine AU (fun h2=>?_) (fun h2=>?_)
  ·refine AY ?_
   refine Az (.of_eq ?_)
   have:x.isList=false:=by simpa using h2
   simp[Ib,this]
  have hL:x.isList=true:=by simpa using h2
  rcases hw with ⟨h3,_⟩|⟨_,_,hw⟩
  ·rw[hL]at h3;cases h3
  have hnd:Ib (d+1) x=1+(x.list.map (Ib d)).sum:=by simp[Ib,hL]
  rw[hnd]at hn ⊢
  have hlen:x.list.length≤140737488355328:=by
   have:=(hb (.agg (eSx x)) (by simp)).agg_at (c:= .slice (x.list.map eSx) .ro) (by rw[Ft];simp)
   exact this.slice_map
  refine AY ?_
  refine Ab (σ:=Nat) (fun k=>k≤x.list.length) (fun k=>x.list.length - k) (fun k=> [(1,.raw (.int .i64 limit)),(2,.raw (.int .i64 depth)),(3,.raw (.pointer (some ⟨b,0,none⟩))),(7,.raw (.int .i64 ((1+((x.list.map (Ib d)).take k).sum:Nat):Int))),(8,.raw (.int .i64 k))]) (fun _=> .box b 196 (eSx x)::LF) 0 (by simp) ⟨rfl,rfl,rfl,by simp;rfl,rfl⟩ (.refl _) ?_
  intro k hk
  have hsk:=Kt (l:=x.list.map (Ib d)) (k:=k)
  have hsk1:=Kt (l:=x.list.map (Ib d)) (k:=k+1)
  refine AY ?_
  refine Ar (fun hp=>?_) (fun hp=>?_)
  ·have hc:=BF hp
   have hlt:k < x.list.length:=by omega
   have e:((x.list.map (Ib d)).take (k+1)).sum=((x.list.map (Ib d)).take k).sum+Ib d x.list[k]:=by
    rw[A7 (by simpa using hlt),DX];simp
   refine C8 ?_
   refine A6 (fun h4=>?_) (fun h4=>?_)
   ·have:B4 (Oq d x.list[k]∧(Ib d x.list[k]:Int)≤limit - ((1+((x.list.map (Ib d)).take k).sum:Nat):Int)∧limit - ((1+((x.list.map (Ib d)).take k).sum:Nat):Int)≤1000000∧(d:Int)≤depth - 1∧depth - 1≤1000):=⟨hw _ (AJ hlt),by omega,by omega,by omega,by omega⟩
    refine AY ?_
    refine⟨k+1,by omega,by dsimp only;omega,⟨rfl,rfl,rfl,?_,rfl⟩,.refl _⟩
    show PV.raw (Value.int .i64 _)=PV.raw (Value.int .i64 _)
    rw[e];congr 2;omega
   ·omega
  ·have hc:=Bm hp
   refine C8 ?_
   refine Az (.of_eq ?_)
   rw[AE (by simp;omega)]
theorem ZO: ∀ (d:Nat) (x:Sx),Oq d x→Q.Fn Tryz.prog 281 [.agg (eSx x)] (.raw (.int .i64 0))
 |0,x,hw=>hw.elim
 |d+1,x,hw=>by
  have ih: ∀ (y:Sx),[B4 (Oq d y)]→C9 Tryz.prog 281 [.agg (eSx y)] (.raw (.int .i64 0)):=fun y h=>⟨ZO d y h.out⟩
  refine Au Tryz.func281 Tryz.ntmps281 rfl (rs:= [.tmp 2]) rfl rfl fun hb LF=>?_
  have hlen:x.list.length≤140737488355328:=by
   have:=(hb (.agg (eSx x)) (by simp)).agg_at (c:= .slice (x.list.map eSx) .ro) (by rw[Ft];simp)
   exact this.slice_map
  refine DC fun b=>?_
  refine AU (fun h2=>?_) (fun h2=>?_)
  ·have hL:x.isList=false:=by simpa using h2
   rcases hw with ⟨_,h3,h4⟩|⟨h3,_⟩
   ·refine AY ?_
    refine A6 (fun h5=>?_) (fun h5=>?_)
    ·rw[h3]at h5;simp at h5
    refine AY ?_
    refine A6 (fun h6=>?_) (fun h6=>?_)
    ·omega
    refine AY ?_
    exact Az (.refl _)
   ·rw[hL]at h3;cases h3
  have hL:x.isList=true:=by simpa using h2
  rcases hw with ⟨h3,_⟩|⟨_,ha,hw⟩
  ·rw[hL]at h3;cases h3
  refine AY ?_
  refine AX (fun h5=>?_) (fun h5=>?_)
  ·exact absurd ha h5
  refine AY ?_
  refine Ab (σ:=Nat) (fun k=>k≤x.list.length) (fun k=>x.list.length - k) (fun k=> [(1,.raw (.pointer (some ⟨b,0,none⟩))),(3,.raw (.int .i64 k))]) (fun _=> .box b 196 (eSx x)::LF) 0 (by simp) ⟨rfl,rfl⟩ (.refl _) ?_
  intro k hk
  refine AY ?_
  refine A6 (fun hc=>?_) (fun hc=>?_)
  ·have hlt:k < x.list.length:=by omega
   have:B4 (Oq d x.list[k]):=⟨hw _ (AJ hlt)⟩
   refine AY ?_
   exact⟨k+1,by omega,by dsimp only;omega,⟨rfl,rfl⟩,.refl _⟩
  ·refine AY ?_
   exact Az (.refl _)
def nN (x:Sx):Prop:=Oq 8 x∧Ib 8 x≤20000
instance ue (x:Sx) [hs:B4 (nN x)]:C9 Tryz.prog 221 [.agg (eSx x)] (.raw (.int .i64 0)):=⟨by
 obtain⟨h1,h2⟩:=hs.out
 have i1:C9 Tryz.prog 280 [.agg (eSx x),.raw (.int .i64 20000),.raw (.int .i64 12)] (.raw (.int .i64 (Ib 8 x:Int))):=⟨ZM 8 x 20000 12 h1 (by omega) (by omega) (by omega) (by omega)⟩
 have i2:C9 Tryz.prog 281 [.agg (eSx x)] (.raw (.int .i64 0)):=⟨ZO 8 x h1⟩
 refine Au Tryz.func221 Tryz.ntmps221 rfl (rs:= [.tmp 2]) rfl rfl fun hb LF=>?_
 refine DC fun b=>?_
 refine A6 (fun h=>?_) (fun h=>?_)
 ·omega
 refine AY ?_
 exact Az (.refl _)⟩
theorem Iv {α β:Type} {l:List α} {f:α→List β} {k:Nat} (h:k < l.length):(l.take (k+1)).flatMap f=(l.take k).flatMap f++f l[k]:=by
 rw[A7 h,Jv];simp
theorem JL {α β:Type} {l:List α} {f:α→List β} {k:Nat}:((l.take k).flatMap f).length≤(l.flatMap f).length:=by
 conv=>rhs;rw[←C7 k l,Jv,AA]
 omega
theorem RZ {α β:Type} {l:List α} {f:α→List β} {a:α} (h:a∈l):(f a).length≤(l.flatMap f).length:=by
 induction l with
 |nil=>cases h
 |cons x l ih=>
  rw[DI,AA]
  rcases AH.1 h with rfl|h
  ·omega
  ·have:=ih h;omega
theorem VW: ∀ (d:Nat) (x:Sx),Oq d x→(Dp d x).length≤1000000000→Q.Fn Tryz.prog 222 [.agg (eSx x)] (.str (Dp d x))
 |0,x,hw,_=>hw.elim
 |d+1,x,hw,hl=>by
  have ih: ∀ (y:Sx),[B4 (Oq d y∧(Dp d y).length≤1000000000)]→C9 Tryz.prog 222 [.agg (eSx y)] (.str (Dp d y)):=fun y h=>⟨VW d y h.out.1 h.out.2⟩
  refine Au Tryz.func222 Tryz.ntmps222 rfl (rs:= [.tmp 2]) rfl rfl fun hb LF=>?_
  have hlen:x.list.length≤140737488355328:=by
   have:=(hb (.agg (eSx x)) (by simp)).agg_at (c:= .slice (x.list.map eSx) .ro) (by rw[Ft];simp)
   exact this.slice_map
  refine DC fun b=>?_
  refine AU (fun h2=>?_) (fun h2=>?_)
  ·have hL:x.isList=false:=by simpa using h2
   rcases hw with ⟨_,h3,h4⟩|⟨h3,_⟩
   ·have:B4 (-140737488355328≤(x.atom.length:Int)∧(x.atom.length:Int)≤140737488355328):=⟨by omega,by omega⟩
    have hd:=OW (n:=(x.atom.length:Int)) ⟨by omega,by omega⟩
    refine AY ?_
    refine Az (.of_eq ?_)
    have e:J8 (x.atom.length:Int)=Hs x.atom.length:=by
     rw[J8,if_neg (by omega)];rfl
    simp[Dp,hL,e]
   ·rw[hL]at h3;cases h3
  have hL:x.isList=true:=by simpa using h2
  rcases hw with ⟨h3,_⟩|⟨_,ha,hw⟩
  ·rw[hL]at h3;cases h3
  have he:Dp (d+1) x=40::(x.list.flatMap (Dp d)++ [41]):=by simp[Dp,hL]
  rw[he]at hl ⊢
  simp only[AN,AA,Af]at hl
  refine AY ?_
  refine Ab (σ:=Nat × Str) (fun k=>k.1≤x.list.length∧k.2=40::(x.list.take k.1).flatMap (Dp d)) (fun k=>x.list.length - k.1) (fun k=> [(1,.raw (.pointer (some ⟨b,0,none⟩))),(3,.str k.2),(4,.raw (.int .i64 k.1))]) (fun _=> .box b 196 (eSx x)::LF) (0,[40]) ⟨by simp,by simp⟩ ⟨rfl,rfl,rfl⟩ (.refl _) ?_
  rintro⟨k,s⟩ ⟨hk,hs⟩
  dsimp only at hk hs
  have hsl:s.length≤1+(x.list.flatMap (Dp d)).length:=by
   rw[hs,AN]
   have:=JL (l:=x.list) (f:=Dp d) (k:=k)
   omega
  refine AY ?_
  refine A6 (fun hc=>?_) (fun hc=>?_)
  ·have hlt:k < x.list.length:=by omega
   have hel:(Dp d x.list[k]).length≤(x.list.flatMap (Dp d)).length:=RZ (AJ hlt)
   have:B4 (Oq d x.list[k]∧(Dp d x.list[k]).length≤1000000000):=⟨hw _ (AJ hlt),by omega⟩
   refine AY ?_
   refine⟨(k+1,s++Dp d x.list[k]),⟨by dsimp only;omega,?_⟩,by dsimp only;omega,⟨rfl,rfl,rfl⟩,.refl _⟩
   dsimp only
   rw[Iv hlt,hs,B0]
  ·refine AY ?_
   refine Az (.of_eq ?_)
   rw[hs,AE (by omega)];rfl
instance tX (x:Sx) [hs:B4 (nN x∧(Dp 8 x).length≤1000000000)]:C9 Tryz.prog 166 [.agg (eSx x)] (.tuple [.str (Dp 8 x),.raw (.int .i64 0)]):=⟨by
 obtain⟨h1,h2⟩:=hs.out
 have:B4 (nN x):=⟨h1⟩
 have i2:C9 Tryz.prog 222 [.agg (eSx x)] (.str (Dp 8 x)):=⟨VW 8 x h1.1 h2⟩
 refine Au Tryz.func166 Tryz.ntmps166 rfl (rs:= [.tmp 2,.tmp 3]) rfl rfl fun hb LF=>?_
 refine DC fun b=>?_
 refine HD ?_
 exact .refl _⟩
def Jw (c:Chg):List Sx:=if 2≤c.kind∧c.kind≤6 then [GB c.file]else []
def IV (c:Chg):List Sx:=if c.kind=1 then [GD c.type]else if c.kind=2 then [GB c.parent,Cb c.name]else if c.kind=3 then [GD c.mode]else if c.kind=4 then [Cb c.data]else if c.kind=5∨c.kind=6 then [GB c.after,GB c.before]else []
def Ku (c:Chg):List Sx:=if c.kind=5 then [E7 (c.lines.map Cb)]else if c.kind≠1 then [J6 c.over]else []
def Kn (c:Chg):Sx:=E7 (([GD c.kind]++Jw c++IV c)++Ku c)
theorem Qy (c:Chg):(Jw c).length≤1:=by unfold Jw;split<;>simp
theorem Qx (c:Chg):(IV c).length≤2:=by
 unfold IV
 repeat' split
 all_goals simp
instance tF (c:Chg) [hs:B4 (c.lines.length≤100000∧c.over.length≤100000)]:C9 Tryz.prog 165 [.agg (eChg c)] (.agg (eSx (Kn c))):=⟨by
 refine Au Tryz.func165 Tryz.ntmps165 rfl (rs:= [.cell 2 196]) rfl rfl fun hb LF=>?_
 obtain⟨hl1,hl2⟩:=hs.out
 have i1:B4 (c.over.length≤1000000):=⟨by omega⟩
 have hc1:=Qy c
 have hc2:=Qx c
 refine Zi fun b=>?_
 refine CC fun b2=>?_
 refine qy fun t=>?_
 refine BR [(17,.raw (.bool (decide (2≤c.kind∧c.kind≤6)))),(1,.raw (.pointer (some ⟨b,0,none⟩))),(2,.raw (.pointer (some ⟨b2,0,none⟩))),(3,.slice ([GD c.kind].map eSx) t)] (.tok t [GD c.kind].length 3:: .box b2 196 (eSx Sx.zero):: .box b 73 (eChg c)::LF) ?_ ?_
 ·repeat' (first|(refine A6 (fun h=>?_) (fun h=>?_)<;>refine AY ?_)|(refine AX (fun h=>?_) (fun h=>?_)<;>refine AY ?_)|(refine AU (fun h=>?_) (fun h=>?_)<;>refine AY ?_)|(refine Ar (fun h=>?_) (fun h=>?_)<;>(have h2:=h;(try simp only[AB,A8,AG,AL]at h2);refine C8 ?_)))
  all_goals (refine⟨⟨C4 (by rfl) ?_,rfl,rfl,rfl⟩,.refl _⟩;first|(simp_all;done)|(simp_all;omega)|grind)
 refine AY ?_
 refine Cp (σ:=CN × List Sx) (fun s=>s.2= [GD c.kind]++Jw c) (fun s=> [(1,.raw (.pointer (some ⟨b,0,none⟩))),(2,.raw (.pointer (some ⟨b2,0,none⟩))),(3,.slice (s.2.map eSx) s.1)]) (fun s=> .tok s.1 s.2.length 3:: .box b2 196 (eSx Sx.zero):: .box b 73 (eChg c)::LF) ?_ ?_
 ·refine A6 (fun h=>?_) (fun h=>?_)
  ·refine Hn fun t'=>?_
   exact⟨(t',[GD c.kind]++ [GB c.file]),by dsimp only;rw[Jw,if_pos h],⟨rfl,rfl,rfl⟩,.refl _⟩
  ·refine AY ?_
   exact⟨(t,[GD c.kind]),by dsimp only;rw[Jw,if_neg h];rfl,⟨rfl,rfl,rfl⟩,.refl _⟩
 rintro⟨t,out⟩ ho
 dsimp only at ho
 have hol:out.length≤2:=by rw[ho,AA,BA];omega
 refine AY ?_
 refine Cp (σ:=CN × List Sx) (fun s=>s.2= [GD c.kind]++Jw c++IV c) (fun s=> [(1,.raw (.pointer (some ⟨b,0,none⟩))),(2,.raw (.pointer (some ⟨b2,0,none⟩))),(3,.slice (s.2.map eSx) s.1)]) (fun s=> .tok s.1 s.2.length 3:: .box b2 196 (eSx Sx.zero):: .box b 73 (eChg c)::LF) ?_ ?_
 ·refine A6 (fun h1=>?_) (fun h1=>?_)
  ·refine Hn fun t'=>?_
   exact⟨(t',out++ [GD c.type]),by dsimp only;rw[IV,if_pos h1,ho],⟨rfl,rfl,rfl⟩,.refl _⟩
  refine AY ?_
  refine A6 (fun h2=>?_) (fun h2=>?_)
  ·refine Rl ?_
   refine Bp 8 ?_ ?_
   ·decide+kernel
   refine IJ fun t'=>?_
   exact⟨(t',out++ [GB c.parent,Cb c.name]),by dsimp only;rw[IV,if_neg h1,if_pos h2,ho],⟨rfl,rfl,rfl⟩,.refl _⟩
  refine AY ?_
  refine A6 (fun h3=>?_) (fun h3=>?_)
  ·refine Hn fun t'=>?_
   exact⟨(t',out++ [GD c.mode]),by dsimp only;rw[IV,if_neg h1,if_neg h2,if_pos h3,ho],⟨rfl,rfl,rfl⟩,.refl _⟩
  refine AY ?_
  refine A6 (fun h4=>?_) (fun h4=>?_)
  ·refine Hn fun t'=>?_
   exact⟨(t',out++ [Cb c.data]),by dsimp only;rw[IV,if_neg h1,if_neg h2,if_neg h3,if_pos h4,ho],⟨rfl,rfl,rfl⟩,.refl _⟩
  refine AY ?_
  refine A6 (fun h5=>?_) (fun h5=>?_)
  ·refine Rl ?_
   refine KX (t:=true) (by show PV.raw (.bool (decide (c.kind=5)))=_;rw[BK h5]) (fun _=>?_) (by simp)
   refine Rl ?_
   refine Bp 8 ?_ ?_
   ·decide+kernel
   refine IJ fun t'=>?_
   exact⟨(t',out++ [GB c.after,GB c.before]),by dsimp only;rw[IV,if_neg h1,if_neg h2,if_neg h3,if_neg h4,if_pos (.inl h5),ho],⟨rfl,rfl,rfl⟩,.refl _⟩
  refine AY ?_
  refine A6 (fun h6=>?_) (fun h6=>?_)
  ·refine Rl ?_
   refine Bp 8 ?_ ?_
   ·decide+kernel
   refine IJ fun t'=>?_
   exact⟨(t',out++ [GB c.after,GB c.before]),by dsimp only;rw[IV,if_neg h1,if_neg h2,if_neg h3,if_neg h4,if_pos (.inr h6),ho],⟨rfl,rfl,rfl⟩,.refl _⟩
  ·refine AY ?_
   exact⟨(t,out),by dsimp only;rw[IV,if_neg h1,if_neg h2,if_neg h3,if_neg h4,if_neg (by rintro(h|h);exact h5 h;exact h6 h),BU,ho],⟨rfl,rfl,rfl⟩,.refl _⟩
 clear ho hol
 rintro⟨t,out⟩ ho
 dsimp only at ho
 have hol:out.length≤4:=by rw[ho,AA,AA,BA];omega
 refine AY ?_
 refine A6 (fun h5=>?_) (fun h5=>?_)
 ·refine AY ?_
  refine EL 3 ?_
  refine Ab (σ:=Nat × CN × List Sx) (fun k=>k.1≤c.lines.length∧k.2.2=(c.lines.take k.1).map Cb) (fun k=>c.lines.length - k.1) (fun k=> [(1,.raw (.pointer (some ⟨b,0,none⟩))),(2,.raw (.pointer (some ⟨b2,0,none⟩))),(3,.slice (out.map eSx) t),(4,.slice (k.2.2.map eSx) k.2.1),(5,.raw (.int .i64 k.1))]) (fun k=> .tok k.2.1 k.2.2.length 3:: .tok t out.length 3:: .box b2 196 (eSx Sx.zero):: .box b 73 (eChg c)::LF) (0,.nil,[]) ⟨by simp,by simp⟩ ⟨rfl,rfl,rfl,rfl,rfl⟩ (.refl _) ?_
  rintro⟨k,v,l⟩ ⟨hk,he⟩
  dsimp only at hk he
  have hll:l.length=k:=by rw[he];simp;omega
  refine AY ?_
  refine A6 (fun hc=>?_) (fun hc=>?_)
  ·have hlt:k < c.lines.length:=by omega
   refine Hn fun v'=>?_
   refine⟨(k+1,v',l++ [Cb c.lines[k]]),⟨by dsimp only;omega,?_⟩,by dsimp only;omega,⟨rfl,rfl,rfl,rfl,rfl⟩,.refl _⟩
   dsimp only
   rw[A7 hlt,An,he];rfl
  ·refine Hn fun v'=>?_
   refine Fq rfl (.of_eq ?_)
   rw[AE (by omega)]at he
   rw[Kn,Ku,if_pos h5,←he,ho]
 ·refine AY ?_
  refine AX (fun h6=>?_) (fun h6=>?_)
  ·refine Hn fun v'=>?_
   refine Fq rfl (.of_eq ?_)
   rw[Kn,Ku,if_neg h5,if_pos h6,ho]
  ·refine AY ?_
   refine Fq rfl (.of_eq ?_)
   rw[Kn,Ku,if_neg h5,if_neg (by simp[h6]),BU,ho]⟩
def W8 (p:Pat):Sx:=E7 [Cb [113,117,105,108,116,49],Cb p.author,Cb p.message,GD p.time,E7 (p.deps.map K8),E7 (p.changes.map Kn)]
def NS (p:Pat):Str:=Dp 8 (W8 p)
structure VX (p:Pat):Prop where
 deps:p.deps.length≤100000
 chgs:p.changes.length≤100000
 chg: ∀ c∈p.changes,c.lines.length≤100000∧c.over.length≤100000
 ok:nN (W8 p)
 len:(NS p).length≤1000000000
def IB (p:Pat):Str × Int:=if 65536 < ((NS p).length:Int)then([],4)else(NS p,0)
instance tA (p:Pat) [hs:B4 (VX p)]:C9 Tryz.prog 114 [.agg (Ba p)] (.tuple [.str (IB p).1,.raw (.int .i64 (IB p).2)]):=⟨by
 refine Au Tryz.func114 Tryz.ntmps114 rfl (rs:= [.tmp 2,.tmp 3]) rfl rfl fun hb LF=>?_
 have hd:=hs.out.deps
 have hch:=hs.out.chgs
 refine DC fun b=>?_
 refine EL 3 ?_
 refine EL 3 ?_
 refine Ab (σ:=Nat × CN × List Sx) (fun k=>k.1≤p.deps.length∧k.2.2=(p.deps.take k.1).map K8) (fun k=>p.deps.length - k.1) (fun k=> [(1,.raw (.pointer (some ⟨b,0,none⟩))),(4,.slice (k.2.2.map eSx) k.2.1),(5,.slice [] .nil),(6,.raw (.int .i64 k.1))]) (fun k=> .tok k.2.1 k.2.2.length 3:: .tok .nil 0 3:: .box b 40 (Ba p)::LF) (0,.nil,[]) ⟨by simp,by simp⟩ ⟨rfl,rfl,rfl,rfl⟩ (.refl _) ?_
 rintro⟨k,v,l⟩ ⟨hk,he⟩
 dsimp only at hk he
 have hll:l.length=k:=by rw[he];simp;omega
 refine AY ?_
 refine A6 (fun hc=>?_) (fun hc=>?_)
 ·have hlt:k < p.deps.length:=by omega
  refine Hn fun v'=>?_
  refine⟨(k+1,v',l++ [K8 p.deps[k]]),⟨by dsimp only;omega,?_⟩,by dsimp only;omega,⟨rfl,rfl,rfl,rfl⟩,.refl _⟩
  dsimp only
  rw[A7 hlt,An,he];rfl
 rw[AE (by omega)]at he
 clear hll
 refine AY ?_
 refine Ab (σ:=Nat × CN × List Sx) (fun k=>k.1≤p.changes.length∧k.2.2=(p.changes.take k.1).map Kn) (fun k=>p.changes.length - k.1) (fun k=> [(1,.raw (.pointer (some ⟨b,0,none⟩))),(4,.slice (l.map eSx) v),(5,.slice (k.2.2.map eSx) k.2.1),(7,.raw (.int .i64 k.1))]) (fun k=> .tok k.2.1 k.2.2.length 3:: .box b 40 (Ba p)::LF) (0,.nil,[]) ⟨by simp,by simp⟩ ⟨rfl,rfl,rfl,rfl⟩ (.cons _ (.refl _)) ?_
 rintro⟨k,v,m⟩ ⟨hk,hm⟩
 dsimp only at hk hm
 have hml:m.length=k:=by rw[hm];simp;omega
 refine AY ?_
 refine A6 (fun hc=>?_) (fun hc=>?_)
 ·have hlt:k < p.changes.length:=by omega
  have:B4 (p.changes[k].lines.length≤100000∧p.changes[k].over.length≤100000):=⟨hs.out.chg _ (AJ hlt)⟩
  refine Hn fun v'=>?_
  refine⟨(k+1,v',m++ [Kn p.changes[k]]),⟨by dsimp only;omega,?_⟩,by dsimp only;omega,⟨rfl,rfl,rfl,rfl⟩,.refl _⟩
  dsimp only
  rw[A7 hlt,An,hm];rfl
 rw[AE (by omega)]at hm
 have e:W8 p=E7 [Cb [113,117,105,108,116,49],Cb p.author,Cb p.message,GD p.time,E7 l,E7 m]:=by rw[W8,←he,←hm]
 have i1:B4 (nN (E7 [Cb [113,117,105,108,116,49],Cb p.author,Cb p.message,GD p.time,E7 l,E7 m])∧(Dp 8 (E7 [Cb [113,117,105,108,116,49],Cb p.author,Cb p.message,GD p.time,E7 l,E7 m])).length≤1000000000):=by
  rw[←e];exact⟨hs.out.ok,hs.out.len⟩
 refine AY ?_
 refine A6 (fun h=>?_) (fun h=>?_)
 ·refine AY ?_
  refine HD ?_
  rw[←e]at h
  have h':65536 < ((NS p).length:Int):=h
  rw[IB,if_pos h']
  exact .refl _
 ·refine AY ?_
  refine HD ?_
  rw[←e]at h
  have h': ¬65536 < ((NS p).length:Int):=h
  rw[IB,if_neg h',NS,e]
  exact .refl _⟩
end Go.Proofs
namespace Go.Q
open Go
section
variable {P:Program} {N:Nat} {all:Array Oper} {K:Env→List Res→Prop} {fl:List Bool} {os:List Oper} {ρ:Env} {L:List Res} {Q:PPost} {c:Code} {d:Nat} {ty:TypeId} {pos:String} {af:Array Edge}
theorem dr {T n E sz by_:Nat} [hT:UO P T n E] [hE:Ed P E sz by_] {x y:Operand} {b off:Nat} {kk:IntKind} {i:Nat} (hx:ρ.ev x= .raw (.pointer (some ⟨b,off,none⟩))) (hy:ρ.ev y= .raw (.int kk (@OfNat.ofNat Int i _))) (hi:i < n)
  (k:AQ P N all K fl.tail os (CT ρ d (.raw (.pointer (some ⟨b,off+(@OfNat.ofNat Nat i _)*sz,none⟩)))) L) (hd:Nat.blt d N=true:=by rfl):AQ P N all K fl (⟨some d,.indexAddr T x y,ty,pos,af,none⟩::os) ρ L:=
 Q5 (i:=i) hx hy hi k hd
theorem dt {T n E sz by_:Nat} [hT:UO P T n E] [hE:Ed P E sz by_] {x y:Operand} {b off:Nat} {kk:IntKind} {i:Int} (hx:ρ.ev x= .raw (.pointer (some ⟨b,off,none⟩))) (hy:ρ.ev y= .raw (.int kk i)) (h0:0≤i) (hi:i.toNat < n)
  (k:AQ P N all K fl.tail os (CT ρ d (.raw (.pointer (some ⟨b,off+i.toNat*sz,none⟩)))) L) (hd:Nat.blt d N=true:=by rfl):AQ P N all K fl (⟨some d,.indexAddr T x y,ty,pos,af,none⟩::os) ρ L:=
 Q5 (i:=i.toNat) hx (by rw[hy,Int.toNat_of_nonneg h0]) hi k hd
theorem dq {T:TypeId} [hT:Ri P T] {x y:Operand} {s:Str} {ax:PV} {kk:IntKind} {n:Int} (hx:ρ.ev x=ax) [jx:K1 ax s] (hy:ρ.ev y= .raw (.int kk n)) (h0:0≤n) (hn:n.toNat < s.length) (k:AQ P N all K fl.tail os (CT ρ d (.raw (.int .u8 ((s.getD n.toNat 0).toNat:Int)))) L) (hd:Nat.blt d N=true:=by rfl):
  AQ P N all K fl (⟨some d,.index T x y,ty,pos,af,none⟩::os) ρ L:=
 Y0 (n:=n.toNat) hx (by rw[hy,Int.toNat_of_nonneg h0]) hn (by have e:s[n.toNat]=s.getD n.toNat 0:=by simp[List.getD,hn]
                                                              rw[e];exact k) hd
theorem KH {T n E by_:Nat} {z:List PV} [hT:UO P T n E] [hE:Ed P E 1 by_] [hZ:Cq P T z] {parts:Array (Nat × Operand)} (xs:List Operand) (ws:List Nat) (hp:parts=(xs.zipIdx.map fun p=>(p.2,p.1)).toArray) (hx:xs.map ρ.ev=eW ws) (hz:z.length=ws.length) (hn:xs.length=ws.length)
  (k:AQ P N all K fl.tail os (CT ρ d (.agg (eW ws))) L) (hd:Nat.blt d N=true:=by rfl):AQ P N all K fl (⟨some d,.build T parts,ty,pos,af,none⟩::os) ρ L:=by
 subst hp;exact iV ws hx hz hn k hd
theorem gx {T T':TypeId} {x y:Operand} {m n:Nat} (hx:ρ.ev x= .raw (.int .i64 (m:Int))) (hy:ρ.ev y= .raw (.int .i64 (@OfNat.ofNat Int n _))) (hn:n≠0) (hm:m≤9223372036854775807) (k:AQ P N all K fl.tail os (CT ρ d (.raw (.int .i64 ((m / (@OfNat.ofNat Nat n _):Nat):Int)))) L) (hd:Nat.blt d N=true:=by rfl):
  AQ P N all K fl (⟨some d,.binOp .quo T x y T',ty,pos,af,none⟩::os) ρ L:=Xr (n:=n) hx hy hn hm k hd
theorem Zu {T T':TypeId} {x y:Operand} {m n:Nat} (hx:ρ.ev x= .raw (.int .i64 (m:Int))) (hy:ρ.ev y= .raw (.int .i64 (@OfNat.ofNat Int n _))) (hn:n≠0) (k:AQ P N all K fl.tail os (CT ρ d (.raw (.int .i64 ((m % (@OfNat.ofNat Nat n _):Nat):Int)))) L) (hd:Nat.blt d N=true:=by rfl):
  AQ P N all K fl (⟨some d,.binOp .rem T x y T',ty,pos,af,none⟩::os) ρ L:=Xq (n:=n) hx hy hn k hd
theorem ve {A B:Prop} (k:B) (h:OA B→A:=by
  intro hB
  first
   |(refine jz ?_;first|refine K7 (by(conv=>lhs;whnf);done) ?_)
   |(refine Yx ?_;first|refine Uj (by(conv=>lhs;whnf);done) ?_)
   |(refine k9 ?_;first|refine bk (by rfl) (by repeat(first|exact AF|apply AI)) (by omega) ?_|refine Xw (by rfl) (by repeat(first|exact AF|apply AI)) (hl:=(by first|infer_instance|fail)) ?_|refine bn (by rfl) (by repeat(first|exact AF|apply AI)) (by omega) ?_)
   |(refine qJ ?_;first|refine Zx (by rfl) (hr:=(by first|infer_instance|fail)) ?_|refine bq (by rfl) (by(conv=>lhs;whnf);done) ?_)
   |(refine qI ?_;first|refine iH (by rfl) ?_|refine iG (by(conv=>lhs;whnf);done) (jx:=(by first|infer_instance|fail)) ?_|refine iJ (by rfl) ?_)
   |(refine ao ?_;first|refine We (by(conv=>lhs;whnf);done) (hN0:=(by first|infer_instance|fail)) (hc:=(by first|infer_instance|fail)) ?_|refine cW (by(conv=>lhs;whnf);done) (by(conv=>lhs;whnf);done) (hN0:=(by first|infer_instance|fail)) (hN1:=(by first|infer_instance|fail)) (hc:=(by first|infer_instance|fail)) ?_|refine cU (by(conv=>lhs;whnf);done) (by(conv=>lhs;whnf);done) (by(conv=>lhs;whnf);done) (hN0:=(by first|infer_instance|fail)) (hN1:=(by first|infer_instance|fail)) (hN2:=(by first|infer_instance|fail)) (hc:=(by first|infer_instance|fail)) ?_|refine cX (hc:=(by first|infer_instance|fail)) ?_|refine cT (by(conv=>lhs;whnf);done) (by(conv=>lhs;whnf);done) (by(conv=>lhs;whnf);done) (by(conv=>lhs;whnf);done) (hN0:=(by first|infer_instance|fail)) (hN1:=(by first|infer_instance|fail)) (hN2:=(by first|infer_instance|fail)) (hN3:=(by first|infer_instance|fail)) (hc:=(by first|infer_instance|fail)) ?_|refine j_call5 (by(conv=>lhs;whnf);done) (by(conv=>lhs;whnf);done) (by(conv=>lhs;whnf);done) (by(conv=>lhs;whnf);done) (by(conv=>lhs;whnf);done) (hN0:=(by first|infer_instance|fail)) (hN1:=(by first|infer_instance|fail)) (hN2:=(by first|infer_instance|fail)) (hN3:=(by first|infer_instance|fail)) (hN4:=(by first|infer_instance|fail)) (hc:=(by first|infer_instance|fail)) ?_|refine j_call6 (by(conv=>lhs;whnf);done) (by(conv=>lhs;whnf);done) (by(conv=>lhs;whnf);done) (by(conv=>lhs;whnf);done) (by(conv=>lhs;whnf);done) (by(conv=>lhs;whnf);done) (hN0:=(by first|infer_instance|fail)) (hN1:=(by first|infer_instance|fail)) (hN2:=(by first|infer_instance|fail)) (hN3:=(by first|infer_instance|fail)) (hN4:=(by first|infer_instance|fail)) (hN5:=(by first|infer_instance|fail)) (hc:=(by first|infer_instance|fail)) ?_)
   |(refine g_bi ?_;first|refine s_min (by rfl) (by rfl) ?_|refine s_max (by rfl) (by rfl) ?_)
   |(refine ct ?_;first|refine pg (by rfl) (by rfl) ?_|refine ph (by rfl) (by rfl) ?_|refine pj (by rfl) (by rfl) ?_|refine pv (by rfl) (by rfl) (by constructor<;>omega) ?_|refine pY (by rfl) (by rfl) (by constructor<;>omega) ?_|refine pn (by(conv=>lhs;whnf);done) (by(conv=>lhs;whnf);done) (jx:=(by first|infer_instance|fail)) (jy:=(by first|infer_instance|fail)) (by first|omega|(simp only[AA,AN,Af,BL];omega)) ?_|refine pd (by rfl) (by rfl) (by constructor<;>omega) ?_|refine ig (by rfl) (by rfl) ?_|refine gj (by rfl) (by rfl) ?_|refine ie (by rfl) (by rfl) ?_|refine pZ (by rfl) (by rfl) ?_|refine gu (by rfl) (by rfl) ?_|refine gw (by rfl) (by rfl) ?_|refine gv (by rfl) (by rfl) ?_|refine W0 (by rfl) (by rfl) (by omega) (by omega) ?_|refine W2 (by rfl) (by rfl) (by omega) ?_|refine gx (by rfl) (by rfl) (by decide) (by omega) ?_|refine Zu (by rfl) (by rfl) (by decide) ?_)
   |(refine w9 ?_;first|refine dr (by rfl) (by rfl) (by decide) ?_|refine Q5 (by rfl) (by rfl) (by omega) ?_|refine dt (by rfl) (by rfl) (by omega) (by omega) ?_)
   |(refine w7 ?_;first|refine pb (by rfl) ?_|refine pc (by rfl) (by constructor<;>omega) ?_|refine iA (by rfl) ?_)
   |(refine Wv ?_;first|refine Xm (by rfl) (by rfl) (hB:=(by first|infer_instance|fail)) (hu:=(by first|infer_instance|fail)) (hf:=(by first|infer_instance|fail)) (hlen:=(by first|infer_instance|fail)) (hcs:=(by first|infer_instance|fail)) ?_|refine Sf (by rfl) (by rfl) (by repeat(first|exact AF|apply AI)) (by omega) (hu:=(by first|infer_instance|fail)) ?_|refine Xn (by rfl) (by rfl) (by repeat(first|exact AF|apply AI)) (by omega) (hu:=(by first|infer_instance|fail)) ?_)
   |(refine wB ?_;first|refine pq ?_|refine po (by(conv=>lhs;whnf);done) (hC0:=(by first|infer_instance|fail)) (hf:=(by first|infer_instance|fail)) (by decide) ?_)
   |(refine ch ?_;first|refine Y3 ?_|refine Uh ?_)
   |(refine Wx ?_;first|refine iM (by rfl) (by rfl) (by omega) ?_|refine iQ (by rfl) (by rfl) (by omega) ?_|refine W4 (by(conv=>lhs;whnf);done) (by rfl) (by rfl) (jx:=(by first|infer_instance|fail)) (by omega) (by omega) (by omega) ?_|refine bt (by(conv=>lhs;whnf);done) (by rfl) (jx:=(by first|infer_instance|fail)) (by omega) (by omega) ?_|refine Xp (by rfl) ?_)
   |(refine kA ?_;first|refine bw (by rfl) ?_|refine bu (by rfl) ?_|refine SL (by rfl) (by omega) ?_|refine gk (by rfl) ?_|refine Xl (by rfl) (by repeat(first|exact AF|apply AI)) (hs:=(by first|infer_instance|fail)) ?_)
   |(refine cd ?_;first|refine dq (by(conv=>lhs;whnf);done) (by rfl) (jx:=(by first|infer_instance|fail)) (by omega) (by omega) ?_)
  exact hB.out):A:=h ⟨k⟩
theorem E6 {A B:Prop} (k:B) (h:OA B→A:=by
  intro hB
  repeat(first
   |refine AD ?_
   |refine ve ?_
   |refine Da ?_
   |refine CR (by kernel_rfl) ?_
   |refine IZ ?_
   |refine HA ?_
   |refine KA ?_
   |refine Gj ?_
   |refine GM (by decide+kernel) ?_
   |refine IX (by rfl) ?_
   |refine IY (by rfl) ?_)
  exact hB.out):A:=h ⟨k⟩
theorem J9 {A B:Prop} (k:B) (h:OA B→A:=by
  intro hB
  refine E6 ?_
  exact hB.out):A:=h ⟨k⟩
theorem Jo {A:Prop} {B:Nat→Prop} (k: ∀ b,B b) (h:Kj B→A:=by
  intro hB
  refine E6 ?_
  first|refine Y4 (by rfl) fun b=>?_|refine CC fun b=>?_
  refine E6 ?_
  exact hB.out b):A:=h ⟨k⟩
theorem Ig {A:Prop} {B:Nat→Prop} (k: ∀ b,B b) (h:Kj B→A:=by
  intro hB
  refine Jo fun b=>?_
  exact hB.out b):A:=h ⟨k⟩
theorem Nc {A B:Prop} (k:B) (h:OA B→A:=by
  intro hB
  repeat(first
   |refine AD ?_
   |refine ve ?_
   |refine Da ?_
   |refine CR (by kernel_rfl) ?_
   |refine IZ ?_
   |refine HA ?_
   |refine KA ?_
   |refine Gj ?_
   |refine IX (by rfl) ?_
   |refine IY (by rfl) ?_)
  exact hB.out):A:=h ⟨k⟩
theorem Vt {A B:Prop} (k:B) (h:OA B→A:=by
  intro hB
  refine Nc ?_
  exact hB.out):A:=h ⟨k⟩
end
end Go.Q
namespace Go.Proofs
open Go Go.Q
attribute [local irreducible] ER AQ BG Fu
def GY (a n:Nat):Nat:=eT (Vy a n) (Xk a (32 - n))
instance Gn (a n:Nat) [hs:B4 (n≤32)]:C9 Tryz.prog 259 [.raw (.int .u32 (a:Int)),.raw (.int .u64 (n:Int))] (.raw (.int .u32 (GY a n:Nat))):=⟨by
 refine Au Tryz.func259 Tryz.ntmps259 rfl (rs:= [.tmp 4]) rfl rfl fun hb LF=>?_
 have hn:=hs.out
 refine E6 ?_
 refine W0 (a:=32) (by rfl) (by rfl) hn (by decide) ?_
 refine J9 ?_
 refine Az (.of_eq ?_)
 rfl⟩
instance xV (a:Nat):C9 Tryz.prog 259 [.raw (.int .u32 (a:Int)),.raw (.int .u64 2)] (.raw (.int .u32 (GY a 2:Nat))):=by
 have:B4 ((2:Nat)≤32):=⟨by decide⟩
 exact Gn a 2
instance xU (a:Nat):C9 Tryz.prog 259 [.raw (.int .u32 (a:Int)),.raw (.int .u64 6)] (.raw (.int .u32 (GY a 6:Nat))):=by
 have:B4 ((6:Nat)≤32):=⟨by decide⟩
 exact Gn a 6
instance xT (a:Nat):C9 Tryz.prog 259 [.raw (.int .u32 (a:Int)),.raw (.int .u64 7)] (.raw (.int .u32 (GY a 7:Nat))):=by
 have:B4 ((7:Nat)≤32):=⟨by decide⟩
 exact Gn a 7
instance vQ (a:Nat):C9 Tryz.prog 259 [.raw (.int .u32 (a:Int)),.raw (.int .u64 11)] (.raw (.int .u32 (GY a 11:Nat))):=by
 have:B4 ((11:Nat)≤32):=⟨by decide⟩
 exact Gn a 11
instance vP (a:Nat):C9 Tryz.prog 259 [.raw (.int .u32 (a:Int)),.raw (.int .u64 13)] (.raw (.int .u32 (GY a 13:Nat))):=by
 have:B4 ((13:Nat)≤32):=⟨by decide⟩
 exact Gn a 13
instance vO (a:Nat):C9 Tryz.prog 259 [.raw (.int .u32 (a:Int)),.raw (.int .u64 17)] (.raw (.int .u32 (GY a 17:Nat))):=by
 have:B4 ((17:Nat)≤32):=⟨by decide⟩
 exact Gn a 17
instance vN (a:Nat):C9 Tryz.prog 259 [.raw (.int .u32 (a:Int)),.raw (.int .u64 18)] (.raw (.int .u32 (GY a 18:Nat))):=by
 have:B4 ((18:Nat)≤32):=⟨by decide⟩
 exact Gn a 18
instance vM (a:Nat):C9 Tryz.prog 259 [.raw (.int .u32 (a:Int)),.raw (.int .u64 19)] (.raw (.int .u32 (GY a 19:Nat))):=by
 have:B4 ((19:Nat)≤32):=⟨by decide⟩
 exact Gn a 19
instance vL (a:Nat):C9 Tryz.prog 259 [.raw (.int .u32 (a:Int)),.raw (.int .u64 22)] (.raw (.int .u32 (GY a 22:Nat))):=by
 have:B4 ((22:Nat)≤32):=⟨by decide⟩
 exact Gn a 22
instance vK (a:Nat):C9 Tryz.prog 259 [.raw (.int .u32 (a:Int)),.raw (.int .u64 25)] (.raw (.int .u32 (GY a 25:Nat))):=by
 have:B4 ((25:Nat)≤32):=⟨by decide⟩
 exact Gn a 25
theorem Bq {α:Type} (f:α→Nat→α) (a:α) (k:Nat):(List.range (k+1)).foldl f a=f ((List.range k).foldl f a) k:=by
 rw[E8,CH];rfl
instance ui (n:Int) [hs:B4 (0≤n∧n≤1000)]:C9 Tryz.prog 256 [.raw (.int .i64 n)] (.str (List.replicate n.toNat 0)):=⟨by
 refine Au Tryz.func256 Tryz.ntmps256 rfl (rs:= [.tmp 2]) rfl rfl fun hb LF=>?_
 obtain⟨h0,h1⟩:=hs.out
 refine AY ?_
 refine Ab (σ:=Nat × Str) (fun k=>k.1≤n.toNat∧k.2=List.replicate k.1 0) (fun k=>n.toNat - k.1) (fun k=> [(0,.raw (.int .i64 n)),(3,.str k.2),(4,.raw (.int .i64 k.1))]) (fun _=>LF) (0,[]) ⟨by simp,by simp⟩ ⟨rfl,rfl,rfl⟩ (.refl _) ?_
 rintro⟨k,s⟩ ⟨hk,he⟩
 dsimp only at hk he
 have hl:s.length=k:=by rw[he];simp
 refine AY ?_
 refine A6 (fun hc=>?_) (fun hc=>?_)
 ·refine AY ?_
  refine⟨(k+1,s++ [0]),⟨by dsimp only;omega,by dsimp only;rw[he,XQ]⟩,by dsimp only;omega,⟨rfl,rfl,rfl⟩,.refl _⟩
 ·refine AY ?_
  refine Az (.of_eq ?_)
  rw[he,show k=n.toNat by omega]⟩
def FL (bits:Nat) (j:Nat):Str:=(List.range j).map fun i=>UInt8.ofNat (bits / 2 ^ (min (8*(7 - i)) 64))
def JC (s:Str):Str:=(s++ [128])++List.replicate ((120 - (s.length+1) % 64) % 64) 0++FL (s.length*8) 8
theorem Sw (s:Str):(JC s).length=s.length+1+(120 - (s.length+1) % 64) % 64+8:=by simp[JC,FL];omega
instance uB (s:Str) [hs:B4 (s.length≤1000000)]:C9 Tryz.prog 204 [.str s] (.str (JC s)):=⟨by
 refine Au Tryz.func204 Tryz.ntmps204 rfl (rs:= [.tmp 2]) rfl rfl fun hb LF=>?_
 have hl:=hs.out
 have e1:(((120:Int) - (((s++ [128]).length % 64:Nat):Int)).tmod 64)=(((120 - (s.length+1) % 64) % 64:Nat):Int):=by
  rw[AA,BA]
  have:(120:Int) - (((s.length+1) % 64:Nat):Int)=((120 - (s.length+1) % 64:Nat):Int):=by omega
  rw[this];exact(Int.ofNat_tmod _ _).symm
 have i1:B4 (0≤(((120 - (s.length+1) % 64) % 64:Nat):Int)∧(((120 - (s.length+1) % 64) % 64:Nat):Int)≤1000):=⟨by omega,by omega⟩
 refine AY ?_
 refine Zu (by rfl) (by rfl) (by decide) ?_
 refine C8 ?_
 refine Gi (v:= .int .i64 (((120 - (s.length+1) % 64) % 64:Nat):Int)) (by rfl) (by rfl) (fun w=>?_) ?_
 ·have h3:(64:Int)≠0:=by decide
  simp only[binOp,ne_eq,not_true_eq_false,if_false,Op.intDiv,h3,e1];rfl
 have hz:(List.replicate (((120 - (s.length+1) % 64) % 64:Nat):Int).toNat (0:UInt8)).length=(120 - (s.length+1) % 64) % 64:=by rw[List.length_replicate];omega
 refine C8 ?_
 refine W2 (b:=8) (by rfl) (by rfl) (by omega) ?_
 refine C8 ?_
 refine Ab (σ:=Nat × Str) (fun k=>k.1≤8∧k.2=(s++ [128])++List.replicate ((120 - (s.length+1) % 64) % 64) 0++FL (s.length*8) k.1) (fun k=>8 - k.1) (fun k=> [(3,.str k.2),(4,.raw (.int .u64 ((s.length*8:Nat):Int))),(5,.raw (.int .i64 (7 - (k.1:Int))))]) (fun _=>LF) (0,(s++ [128])++List.replicate ((120 - (s.length+1) % 64) % 64) 0) ⟨by simp,by simp[FL]⟩ ⟨rfl,rfl,rfl⟩ (.refl _) ?_
 rintro⟨k,o⟩ ⟨hk,he⟩
 dsimp only at hk he
 have hol:o.length≤1000100:=by rw[he];simp[FL];omega
 refine AY ?_
 refine A6 (fun hc=>?_) (fun hc=>?_)
 ·refine AY ?_
  have e8:(8:Int)*(7 - (k:Int))=((8*(7 - k):Nat):Int):=by omega
  refine SL (a:=8*(7 - k)) (by show PV.raw (.int .i64 ((8:Int)*(7 - (k:Int))))=_;rw[e8]) (by omega) ?_
  refine C8 ?_
  refine⟨(k+1,o++ [UInt8.ofNat (s.length*8 / 2 ^ (min (8*(7 - k)) 64))]),⟨by dsimp only;omega,?_⟩,by dsimp only;omega,⟨rfl,rfl,?_⟩,.refl _⟩
  ·dsimp only
   rw[he,FL,FL,E8,An,←AV];rfl
  ·show PV.raw (Value.int .i64 _)=PV.raw (Value.int .i64 _)
   congr 2;dsimp only;omega
 ·refine AY ?_
  refine Az (.of_eq ?_)
  rw[he,show k=8 by omega,JC]⟩
def rK:List Nat:= [1116352408,1899447441,3049323471,3921009573,961987163,1508970993,2453635748,2870763221,3624381080,310598401,607225278,1426881987,1925078388,2162078206,2614888103,3248222580,3835390401,4022224774,264347078,604807628,770255983,1249150122,1555081692,1996064986,2554220882,2821834349,2952996808,3210313671,3336571891,3584528711,113926993,338241895,666307205,773529912,1294757372,1396182291,1695183700,1986661051,2177026350,2456956037,2730485921,2820302411,3259730800,3345764771,3516065817,3600352804,4094571909,275423344,430227734,506948616,659060556,883997877,958139571,1322822218,1537002063,1747873779,1955562222,2024104815,2227730452,2361852424,2428436474,2756734187,3204031479,3329325298]
instance oI:C9 Tryz.prog 258 [] (.agg (eW rK)):=⟨by
 refine Au Tryz.func258 Tryz.ntmps258 rfl (rs:= [.cell 0 253]) rfl rfl fun hb LF=>?_
 refine Jo fun b=>?_
 refine KH [.const (.int .u32 1116352408),.const (.int .u32 1899447441),.const (.int .u32 3049323471),.const (.int .u32 3921009573),.const (.int .u32 961987163),.const (.int .u32 1508970993),.const (.int .u32 2453635748),.const (.int .u32 2870763221),.const (.int .u32 3624381080),.const (.int .u32 310598401),.const (.int .u32 607225278),.const (.int .u32 1426881987),.const (.int .u32 1925078388),.const (.int .u32 2162078206),.const (.int .u32 2614888103),.const (.int .u32 3248222580),.const (.int .u32 3835390401),.const (.int .u32 4022224774),.const (.int .u32 264347078),.const (.int .u32 604807628),.const (.int .u32 770255983),.const (.int .u32 1249150122),.const (.int .u32 1555081692),.const (.int .u32 1996064986),.const (.int .u32 2554220882),.const (.int .u32 2821834349),.const (.int .u32 2952996808),.const (.int .u32 3210313671),.const (.int .u32 3336571891),.const (.int .u32 3584528711),.const (.int .u32 113926993),.const (.int .u32 338241895),.const (.int .u32 666307205),.const (.int .u32 773529912),.const (.int .u32 1294757372),.const (.int .u32 1396182291),.const (.int .u32 1695183700),.const (.int .u32 1986661051),.const (.int .u32 2177026350),.const (.int .u32 2456956037),.const (.int .u32 2730485921),.const (.int .u32 2820302411),.const (.int .u32 3259730800),.const (.int .u32 3345764771),.const (.int .u32 3516065817),.const (.int .u32 3600352804),.const (.int .u32 4094571909),.const (.int .u32 275423344),.const (.int .u32 430227734),.const (.int .u32 506948616),.const (.int .u32 659060556),.const (.int .u32 883997877),.const (.int .u32 958139571),.const (.int .u32 1322822218),.const (.int .u32 1537002063),.const (.int .u32 1747873779),.const (.int .u32 1955562222),.const (.int .u32 2024104815),.const (.int .u32 2227730452),.const (.int .u32 2361852424),.const (.int .u32 2428436474),.const (.int .u32 2756734187),.const (.int .u32 3204031479),.const (.int .u32 3329325298)] rK rfl rfl rfl rfl ?_
 have i1:Cx (eW rK) 64:=⟨rfl⟩
 have i2:Cx (eW (List.replicate 64 0)) 64:=⟨rfl⟩
 refine J9 ?_
 exact Fq rfl (.refl _) (hn:=(rfl:(eW rK).length=64))⟩
def Y8 (b:Str) (t:Nat):Nat:=eT (eT (eT (Xk ((b.getD (4*(t:Int)).toNat 0).toNat % 4294967296) 24) (Xk ((b.getD (4*(t:Int)+1).toNat 0).toNat % 4294967296) 16)) (Xk ((b.getD (4*(t:Int)+2).toNat 0).toNat % 4294967296) 8)) ((b.getD (4*(t:Int)+3).toNat 0).toNat % 4294967296)
def Kv (b:Str) (w:List Nat) (t:Nat):List Nat:=w.set t (Y8 b t)
def Sr (w:List Nat) (t:Nat):Nat:=
 let x:=w.getD (t+1) 0
 let y:=w.getD (t+14) 0
 NU (NU (NU (LX (LX (GY y 17) (GY y 19)) (Vy y 10)) (w.getD (t+9) 0)) (LX (LX (GY x 7) (GY x 18)) (Vy x 3))) (w.getD t 0)
theorem Sq (v:List Nat) (k:Nat):Sr v k=NU (NU (NU (LX (LX (GY (v.getD (((k+16:Nat):Int) - 2).toNat 0) 17) (GY (v.getD (((k+16:Nat):Int) - 2).toNat 0) 19)) (Vy (v.getD (((k+16:Nat):Int) - 2).toNat 0) 10)) (v.getD (((k+16:Nat):Int) - 7).toNat 0)) (LX (LX (GY (v.getD (((k+16:Nat):Int) - 15).toNat 0) 7) (GY (v.getD (((k+16:Nat):Int) - 15).toNat 0) 18)) (Vy (v.getD (((k+16:Nat):Int) - 15).toNat 0) 3))) (v.getD (((k+16:Nat):Int) - 16).toNat 0):=by
 have e2:(((k+16:Nat):Int) - 2).toNat=k+14:=by omega
 have e7:(((k+16:Nat):Int) - 7).toNat=k+9:=by omega
 have e15:(((k+16:Nat):Int) - 15).toNat=k+1:=by omega
 have e16:(((k+16:Nat):Int) - 16).toNat=k:=by omega
 rw[e2,e7,e15,e16];rfl
def QC (w:List Nat) (t:Nat):List Nat:=w.set (t+16) (Sr w t)
def GZ (b:Str):List Nat:=(List.range 48).foldl QC ((List.range 16).foldl (Kv b) (List.replicate 64 0))
theorem VS (b:Str) (k:Nat):((List.range k).foldl (Kv b) (List.replicate 64 0)).length=64:=by
 induction k with
 |zero=>rfl
 |succ k ih=>rw[Bq,Kv,DH,ih]
theorem VQ {w:List Nat} (h:w.length=64) (k:Nat):((List.range k).foldl QC w).length=64:=by
 induction k with
 |zero=>exact h
 |succ k ih=>rw[Bq,QC,DH,ih]
theorem Ss (b:Str):(GZ b).length=64:=VQ (VS b 16) 48
instance pW (s:Str) [hs:B4 (s.length=64)]:C9 Tryz.prog 257 [.str s] (.agg (eW (GZ s))):=⟨by
 refine Au Tryz.func257 Tryz.ntmps257 rfl (rs:= [.cell 2 253]) rfl rfl fun hb LF=>?_
 have hl:=hs.out
 have i2:Cx (eW (List.replicate 64 0)) 64:=⟨rfl⟩
 refine Jo fun b=>?_
 refine Ig fun b2=>?_
 refine Ab (σ:=Nat × List Nat) (fun k=>k.1≤16∧k.2.length=64∧k.2=(List.range k.1).foldl (Kv s) (List.replicate 64 0)) (fun k=>16 - k.1) (fun k=> [(0,.str s),(2,.raw (.pointer (some ⟨b,0,none⟩))),(3,.raw (.pointer (some ⟨b2,0,none⟩))),(4,.raw (.int .i64 k.1))]) (fun k=> .box b2 253 (eW k.2):: .box b 253 (eW (List.replicate 64 0))::LF) (0,List.replicate 64 0) ⟨by simp,by simp,by simp⟩ ⟨rfl,rfl,rfl,rfl⟩ (.refl _) ?_
 rintro⟨k,w⟩ ⟨hk,hw,he⟩
 dsimp only at hk hw he ⊢
 refine E6 ?_
 refine A6 (fun hc=>?_) (fun hc=>?_)
 ·refine Nc ?_
  refine Bp 31 ?_ ?_
  ·decide+kernel
  refine J9 ?_
  refine⟨(k+1,w.set k (Y8 s k)),⟨by dsimp only;omega,by dsimp only;rw[DH,hw],by dsimp only;rw[Bq,←he];rfl⟩,by dsimp only;omega,⟨rfl,rfl,rfl,rfl⟩,.refl _⟩
 have hkk:k=16:=by omega
 subst hkk
 refine E6 ?_
 refine Ab (σ:=Nat × List Nat) (fun k=>k.1≤48∧k.2.length=64∧k.2=(List.range k.1).foldl QC w) (fun k=>48 - k.1) (fun k=> [(2,.raw (.pointer (some ⟨b,0,none⟩))),(3,.raw (.pointer (some ⟨b2,0,none⟩))),(5,.raw (.int .i64 ((k.1+16:Nat):Int)))]) (fun k=> .box b2 253 (eW k.2):: .box b 253 (eW (List.replicate 64 0))::LF) (0,w) ⟨by simp,hw,by simp⟩ ⟨rfl,rfl,rfl⟩ (.refl _) ?_
 rintro⟨k,v⟩ ⟨hk,hv,hve⟩
 dsimp only at hk hv hve ⊢
 have i3:Cx (eW v) 64:=⟨by rw[Gv,hv]⟩
 refine E6 ?_
 refine A6 (fun hc=>?_) (fun hc=>?_)
 ·refine Nc ?_
  refine GM (by decide+kernel) ?_
  refine Vt ?_
  refine Bp 29 ?_ ?_
  ·decide+kernel
  refine J9 ?_
  refine⟨(k+1,v.set (k+16) (Sr v k)),⟨by dsimp only;omega,by dsimp only;rw[DH,hv],by dsimp only;rw[Bq,←hve];rfl⟩,by dsimp only;omega,⟨rfl,rfl,?_⟩,?_⟩
  ·show PV.raw (Value.int .i64 _)=PV.raw (Value.int .i64 _)
   congr 2
  ·dsimp only;rw[Sq];exact .refl _
 ·refine E6 ?_
  refine Fq rfl (.of_eq ?_) (hn:=(by rw[Gv,hv]:(eW v).length=64))
  have hkk:k=48:=by omega
  subst hkk
  rw[GZ,hve,he]⟩
def xY (w v:List Nat) (t:Nat):Nat:=NU (NU (NU (NU (v.getD 7 0) (LX (LX (GY (v.getD 4 0) 6) (GY (v.getD 4 0) 11)) (GY (v.getD 4 0) 25))) (LX (XM (v.getD 4 0) (v.getD 5 0)) (XM (nS (v.getD 4 0)) (v.getD 6 0)))) (rK.getD t 0)) (w.getD t 0)
def yq (v:List Nat):Nat:=NU (LX (LX (GY (v.getD 0 0) 2) (GY (v.getD 0 0) 13)) (GY (v.getD 0 0) 22)) (LX (LX (XM (v.getD 0 0) (v.getD 1 0)) (XM (v.getD 0 0) (v.getD 2 0))) (XM (v.getD 1 0) (v.getD 2 0)))
def Mf (w v:List Nat) (t:Nat):List Nat:= [NU (xY w v t) (yq v),v.getD 0 0,v.getD 1 0,v.getD 2 0,NU (v.getD 3 0) (xY w v t),v.getD 4 0,v.getD 5 0,v.getD 6 0]
def Kx (h:List Nat) (b:Str):List Nat:=(List.range 64).foldl (Mf (GZ b)) h
def YG (v x:List Nat) (i:Nat):List Nat:=x.set i (NU (x.getD i 0) (v.getD i 0))
def NK (h:List Nat) (b:Str):List Nat:=(List.range 8).foldl (YG (Kx h b)) h
theorem fH {v h:List Nat} (hh:h.length=8) (k:Nat):((List.range k).foldl (YG v) h).length=8:=by
 induction k with
 |zero=>exact hh
 |succ k ih=>rw[Bq,YG,DH,ih]
theorem OU {h:List Nat} {b:Str} (hh:h.length=8):(NK h b).length=8:=fH hh 8
theorem yt {ρ:Env} {x0 x1 x2 x3 x4 x5 x6 x7:Operand} {a0 a1 a2 a3 a4 a5 a6 a7:Nat} (h0:ρ.ev x0= .raw (.int .u32 (a0:Int))) (h1:ρ.ev x1= .raw (.int .u32 (a1:Int))) (h2:ρ.ev x2= .raw (.int .u32 (a2:Int))) (h3:ρ.ev x3= .raw (.int .u32 (a3:Int))) (h4:ρ.ev x4= .raw (.int .u32 (a4:Int))) (h5:ρ.ev x5= .raw (.int .u32 (a5:Int))) (h6:ρ.ev x6= .raw (.int .u32 (a6:Int))) (h7:ρ.ev x7= .raw (.int .u32 (a7:Int))):
  [x0,x1,x2,x3,x4,x5,x6,x7].map ρ.ev=eW [a0,a1,a2,a3,a4,a5,a6,a7]:=by simp[eW,h0,h1,h2,h3,h4,h5,h6,h7]
instance xR (h:List Nat) (s:Str) [hs:B4 (s.length=64)] [hh:B4 (h.length=8)]:C9 Tryz.prog 205 [.agg (eW h),.str s] (.agg (eW (NK h s))):=⟨by
 refine Au Tryz.func205 Tryz.ntmps205 rfl (rs:= [.cell 4 216]) rfl rfl fun hb LF=>?_
 have hl:=hh.out
 have hsl:=Ss s
 have j1:Cx (eW (List.replicate 64 0)) 64:=⟨rfl⟩
 have j2:Cx (eW (List.replicate 8 0)) 8:=⟨rfl⟩
 have j3:Cx (eW h) 8:=⟨by rw[Gv,hl]⟩
 have j4:Cx (eW rK) 64:=⟨rfl⟩
 have j5:Cx (eW (GZ s)) 64:=⟨by rw[Gv,hsl]⟩
 have hkl:rK.length=64:=rfl
 refine Jo fun b2=>?_
 refine Ig fun b4=>?_
 refine Ig fun b5=>?_
 refine Ig fun b6=>?_
 refine Ig fun b7=>?_
 refine Ab (σ:=Nat × List Nat) (fun k=>k.1≤64∧k.2.length=8∧k.2=(List.range k.1).foldl (Mf (GZ s)) h) (fun k=>64 - k.1) (fun k=> [(2,.raw (.pointer (some ⟨b2,0,none⟩))),(4,.raw (.pointer (some ⟨b4,0,none⟩))),(5,.raw (.pointer (some ⟨b5,0,none⟩))),(6,.raw (.pointer (some ⟨b6,0,none⟩))),(7,.raw (.pointer (some ⟨b7,0,none⟩))),(8,.raw (.int .i64 k.1))]) (fun k=> .box b7 216 (eW k.2):: .box b6 253 (eW rK):: .box b5 253 (eW (GZ s)):: .box b4 216 (eW (List.replicate 8 0)):: .box b2 216 (eW h)::LF) (0,h) ⟨by simp,hl,by simp⟩ ⟨rfl,rfl,rfl,rfl,rfl,rfl⟩ (.refl _) ?_
 rintro⟨k,v⟩ ⟨hk,hv,hve⟩
 dsimp only at hk hv hve ⊢
 have j6:Cx (eW v) 8:=⟨by rw[Gv,hv]⟩
 have j7:Cx (eW (Mf (GZ s) v k)) 8:=⟨rfl⟩
 refine E6 ?_
 refine A6 (fun hc=>?_) (fun hc=>?_)
 ·refine Nc ?_
  refine GM (by decide+kernel) ?_
  refine Vt ?_
  refine GM (by decide+kernel) ?_
  refine BR [(2,.raw (.pointer (some ⟨b2,0,none⟩))),(4,.raw (.pointer (some ⟨b4,0,none⟩))),(5,.raw (.pointer (some ⟨b5,0,none⟩))),(6,.raw (.pointer (some ⟨b6,0,none⟩))),(7,.raw (.pointer (some ⟨b7,0,none⟩))),(8,.raw (.int .i64 k)),(9,.raw (.int .u32 ((v.getD 0 0:Nat):Int))),(11,.raw (.int .u32 ((xY (GZ s) v k:Nat):Int)))] (.box b7 216 (eW v):: .box b6 253 (eW rK):: .box b5 253 (eW (GZ s)):: .box b4 216 (eW (List.replicate 8 0)):: .box b2 216 (eW h)::LF) ?_ ?_
  ·refine J9 ?_
   exact⟨⟨rfl,rfl,rfl,rfl,rfl,rfl,rfl,rfl⟩,.refl _⟩
  refine Nc ?_
  refine GM (by decide+kernel) ?_
  refine BR [(2,.raw (.pointer (some ⟨b2,0,none⟩))),(4,.raw (.pointer (some ⟨b4,0,none⟩))),(5,.raw (.pointer (some ⟨b5,0,none⟩))),(6,.raw (.pointer (some ⟨b6,0,none⟩))),(7,.raw (.pointer (some ⟨b7,0,none⟩))),(8,.raw (.int .i64 k)),(11,.raw (.int .u32 ((xY (GZ s) v k:Nat):Int))),(12,.raw (.int .u32 ((yq v:Nat):Int)))] (.box b7 216 (eW v):: .box b6 253 (eW rK):: .box b5 253 (eW (GZ s)):: .box b4 216 (eW (List.replicate 8 0)):: .box b2 216 (eW h)::LF) ?_ ?_
  ·refine J9 ?_
   exact⟨⟨rfl,rfl,rfl,rfl,rfl,rfl,rfl,rfl⟩,.refl _⟩
  refine E6 ?_
  refine KH [.tmp 82,.tmp 84,.tmp 86,.tmp 88,.tmp 92,.tmp 94,.tmp 96,.tmp 98] (Mf (GZ s) v k) rfl (yt (by rfl) (by rfl) (by rfl) (by rfl) (by rfl) (by rfl) (by rfl) (by rfl)) (by simp[Mf]) (by simp[Mf]) ?_
  refine J9 ?_
  refine⟨(k+1,Mf (GZ s) v k),⟨by dsimp only;omega,rfl,by dsimp only;rw[Bq,←hve]⟩,by dsimp only;omega,⟨rfl,rfl,rfl,rfl,rfl,rfl⟩,.refl _⟩
 have hkk:k=64:=by omega
 subst hkk
 replace hve:v=Kx h s:=hve
 subst hve
 refine E6 ?_
 refine Ab (σ:=Nat × List Nat) (fun k=>k.1≤8∧k.2.length=8∧k.2=(List.range k.1).foldl (YG (Kx h s)) h) (fun k=>8 - k.1) (fun k=> [(2,.raw (.pointer (some ⟨b2,0,none⟩))),(4,.raw (.pointer (some ⟨b4,0,none⟩))),(7,.raw (.pointer (some ⟨b7,0,none⟩))),(13,.raw (.int .i64 k.1))]) (fun k=> .box b7 216 (eW (Kx h s)):: .box b4 216 (eW (List.replicate 8 0)):: .box b2 216 (eW k.2)::LF) (0,h) ⟨by simp,hl,by simp⟩ ⟨rfl,rfl,rfl,rfl⟩ (.cons_cons _ (.cons _ (.cons _ (.refl _)))) ?_
 rintro⟨k,x⟩ ⟨hk,hx,hxe⟩
 dsimp only at hk hx hxe ⊢
 have j8:Cx (eW x) 8:=⟨by rw[Gv,hx]⟩
 refine E6 ?_
 refine A6 (fun hc=>?_) (fun hc=>?_)
 ·refine Nc ?_
  refine Bp 9 ?_ ?_
  ·decide+kernel
  refine J9 ?_
  refine⟨(k+1,x.set k (NU (x.getD k 0) ((Kx h s).getD k 0))),⟨by dsimp only;omega,by dsimp only;rw[DH,hx],by dsimp only;rw[Bq,←hxe];rfl⟩,by dsimp only;omega,⟨rfl,rfl,rfl,rfl⟩,.refl _⟩
 ·refine E6 ?_
  refine Fq rfl (.of_eq ?_) (hn:=(by rw[Gv,hx]:(eW x).length=8))
  have hkk:k=8:=by omega
  subst hkk
  rw[NK,hxe]⟩
def rH:List Nat:= [1779033703,3144134277,1013904242,2773480762,1359893119,2600822924,528734635,1541459225]
def IC (m:Str) (n:Nat):List Nat:=(List.range n).foldl (fun h k=>NK h ((m.drop (64*k)).take 64)) rH
theorem YF (m:Str) (n:Nat):(IC m n).length=8:=by
 unfold IC
 induction n with
 |zero=>rfl
 |succ n ih=>rw[Bq];exact OU ih
def QK (h:List Nat) (d:Dig) (i:Nat):Dig:=d.put i (UInt8.ofNat (Vy (h.getD (i / 4) 0) (24 - 8*(i % 4))))
def eD (s:Str):Dig:=(List.range 32).foldl (QK (IC (JC s) ((JC s).length / 64))) Dig.zero
instance yZ (s:Str) [hs:B4 (s.length≤1000000)]:C9 Tryz.prog 152 [.str s] (.agg (eDig (eD s))):=⟨by
 refine Au Tryz.func152 Tryz.ntmps152 rfl (rs:= [.cell 2 31]) rfl rfl fun hb LF=>?_
 have hl:=hs.out
 have hpl:=Sw s
 have j2:Cx (eW (List.replicate 8 0)) 8:=⟨rfl⟩
 have j3:Cx (eW rH) 8:=⟨rfl⟩
 refine Jo fun b2=>?_
 refine KH [.const (.int .u32 1779033703),.const (.int .u32 3144134277),.const (.int .u32 1013904242),.const (.int .u32 2773480762),.const (.int .u32 1359893119),.const (.int .u32 2600822924),.const (.int .u32 528734635),.const (.int .u32 1541459225)] rH rfl rfl (by simp[rH]) rfl ?_
 refine Ig fun b3=>?_
 unfold eD
 generalize JC s=m at hpl ⊢
 refine Ab (σ:=Nat) (fun k=>64*k≤m.length) (fun k=>m.length+64 - 64*k) (fun k=> [(2,.raw (.pointer (some ⟨b2,0,none⟩))),(3,.raw (.pointer (some ⟨b3,0,none⟩))),(4,.str m),(5,.raw (.int .i64 ((64*k:Nat):Int)))]) (fun k=> .box b3 216 (eW (IC m k)):: .box b2 31 (eDig Dig.zero)::LF) 0 (by simp) ⟨rfl,rfl,rfl,rfl⟩ (.refl _) ?_
 intro k hk
 have hbl:=YF m k
 have j4:Cx (eW (IC m k)) 8:=⟨by rw[Gv,hbl]⟩
 have j5:Cx (eW (NK (IC m k) ((m.drop (64*k)).take (64*k+64 - 64*k)))) 8:=⟨by rw[Gv,OU hbl]⟩
 refine E6 ?_
 refine A6 (fun hc=>?_) (fun hc=>?_)
 ·have hc':64*k+64≤m.length:=by omega
  have j6:B4 (((m.drop (64*k)).take (64*k+64 - 64*k)).length=64):=⟨by rw[AZ,BB];omega⟩
  have j7:B4 ((IC m k).length=8):=⟨hbl⟩
  refine Nc ?_
  refine Bp 7 ?_ ?_
  ·decide+kernel
  refine J9 ?_
  refine⟨k+1,by omega,by dsimp only;omega,⟨rfl,rfl,rfl,?_⟩,?_⟩
  ·show PV.raw (Value.int .i64 _)=PV.raw (Value.int .i64 _)
   congr 2
  ·dsimp only
   have e:IC m (k+1)=NK (IC m k) ((m.drop (64*k)).take (64*k+64 - 64*k)):=by
    rw[show 64*k+64 - 64*k=64 by omega];unfold IC;rw[Bq]
   rw[e];exact .refl _
 have hkk:k=m.length / 64:=by omega
 subst hkk
 refine Jo fun b6=>?_
 generalize IC m (m.length / 64)=h at hbl ⊢
 refine Ab (σ:=Nat × Dig) (fun k=>k.1≤32∧k.2=(List.range k.1).foldl (QK h) Dig.zero) (fun k=>32 - k.1) (fun k=> [(2,.raw (.pointer (some ⟨b2,0,none⟩))),(3,.raw (.pointer (some ⟨b3,0,none⟩))),(6,.raw (.pointer (some ⟨b6,0,none⟩))),(7,.raw (.int .i64 k.1))]) (fun k=> .box b6 31 (eDig k.2):: .box b3 216 (eW h):: .box b2 31 (eDig Dig.zero)::LF) (0,Dig.zero) ⟨by simp,by simp⟩ ⟨rfl,rfl,rfl,rfl⟩ (.refl _) ?_
 rintro⟨k,d⟩ ⟨hk,hd⟩
 dsimp only at hk hd ⊢
 refine E6 ?_
 refine A6 (fun hc=>?_) (fun hc=>?_)
 ·refine E6 ?_
  have e8:(24:Int) - 8*((k % 4:Nat):Int)=((24 - 8*(k % 4):Nat):Int):=by omega
  refine SL (a:=24 - 8*(k % 4)) (by show PV.raw (.int .i64 ((24:Int) - 8*((k % 4:Nat):Int)))=_;rw[e8]) (by omega) ?_
  refine J9 ?_
  refine⟨(k+1,QK h d k),⟨by dsimp only;omega,by dsimp only;rw[Bq,←hd]⟩,by dsimp only;omega,⟨rfl,rfl,rfl,rfl⟩,.refl _⟩
 ·refine E6 ?_
  refine Fq rfl (.of_eq ?_)
  have hkk:k=32:=by omega
  subst hkk
  rw[hd]⟩
def LB (l:List Str):Nat:=(l.map List.length).sum
def u6 (l:List Str):Bool:=decide (40 < (l.length:Int))||decide (3000 < (LB l:Int))
theorem Xg {l:List Str} {k:Nat} (h:k < l.length):LB (l.take (k+1))=LB (l.take k)+l[k].length:=by
 unfold LB;rw[A7 h,An,DX];simp
theorem dh {l:List Str} {B:Nat} (h: ∀ s∈l,s.length≤B):LB l≤l.length*B:=by
 unfold LB
 induction l with
 |nil=>simp
 |cons x l ih=>
  have h1:=h x (by simp)
  have h2:=ih fun s hs=>h s (by simp[hs])
  simp only[Aq,DD,AN,C3];omega
instance ud (l:List Str) (t:CN):C9 Tryz.prog 203 [.slice (l.map eS) t] (.raw (.bool (u6 l))):=⟨by
 refine Au Tryz.func203 Tryz.ntmps203 rfl (rs:= [.tmp 2]) rfl rfl fun hb LF=>?_
 have hbs:=hb (.slice (l.map eS) t) (by simp)
 have hlen:l.length≤140737488355328:=hbs.slice_map
 have hel: ∀ s∈l,s.length≤140737488355328:=fun s hs=>(hbs.slice_at hs (c:= .str s) (by simp[eS])).str_len
 refine AY ?_
 refine Ab (σ:=Nat × Int) (fun k=>k.1≤l.length∧(l.length≤40→k.2=(LB (l.take k.1):Int))) (fun k=>l.length - k.1) (fun k=> [(0,.slice (l.map eS) t),(3,.raw (.int .i64 k.2)),(4,.raw (.int .i64 k.1))]) (fun _=>LF) (0,0) ⟨by simp,fun _=>by simp[LB]⟩ ⟨rfl,rfl,rfl⟩ (.refl _) ?_
 rintro⟨k,n⟩ ⟨hk,hn⟩
 dsimp only at hk hn ⊢
 obtain⟨v,hv⟩: ∃ v,v=Value.int .i64 n:=⟨_,rfl⟩
 rw[←hv]
 refine AY ?_
 refine A6 (fun hc=>?_) (fun hc=>?_)
 ·have hlt:k < l.length:=by omega
  refine AY ?_
  refine Zz (by rfl) (by rfl) hv fun v1 hv1=>?_
  refine C8 ?_
  subst hv1
  refine⟨(k+1,IntKind.i64.wrap (n+(l[k].length:Int))),⟨by dsimp only;omega,fun h40=>?_⟩,by dsimp only;omega,⟨rfl,rfl,rfl⟩,.refl _⟩
  have h1:=hn h40
  have h2:=Xg hlt
  have h3:=hel _ (AJ hlt)
  have h4:=dh (l:=l.take k) (B:=140737488355328) fun s hs=>hel s (Ek hs)
  have h5:(l.take k).length≤40:=by rw[AZ];omega
  have h6:(l.take k).length*140737488355328≤40*140737488355328:=B8 _ h5
  dsimp only
  rw[IntWalk.i64_in _ (by omega),h1,h2];omega
 ·subst hv
  refine AY ?_
  rw[AE (by omega)]at hn
  refine Ar (fun hp=>?_) (fun hp=>?_)
  ·refine C8 ?_
   refine Az (.of_eq ?_)
   rw[u6,hp,Bool.true_or]
  ·refine C8 ?_
   refine Az (.of_eq ?_)
   have:=Bm hp
   rw[u6,hp,Fi,hn (by omega)]⟩
def GH (c:Chg):Nat:=c.name.length+c.data.length
def Qz (p:Pat):Nat:=p.author.length+p.message.length+(p.changes.map GH).sum
def aH (c:Chg):Bool:=u6 c.lines||decide (40 < (c.over.length:Int))
def Fl (p:Pat):Bool:=p.changes.any aH||decide (3000 < (Qz p:Int))||decide (20 < (p.deps.length:Int))||decide (20 < (p.changes.length:Int))
def Il (c:Chg):Nat:=1+c.lines.length+c.over.length
def E5 (p:Pat):Bool:=p.changes.any (fun c=>aH c||decide (3000 < (GH c:Int)))||decide (30000 < (Qz p:Int))||decide (200 < (p.deps.length:Int))||decide (200 < (p.changes.length:Int))||decide (2000 < ((p.changes.map Il).sum:Int))
theorem FC {α:Type} {l:List α} {f:α→Nat} {B:Nat} (h: ∀ s∈l,f s≤B):(l.map f).sum≤l.length*B:=by
 induction l with
 |nil=>simp
 |cons x l ih=>
  have h1:=h x (by simp)
  have h2:=ih fun s hs=>h s (by simp[hs])
  simp only[Aq,DD,AN,C3];omega
theorem K4 {α:Type} {l:List α} {f:α→Nat} {k:Nat} (h:k < l.length):((l.take (k+1)).map f).sum=((l.take k).map f).sum+f l[k]:=by
 rw[A7 h,An,DX];simp
instance tV (p:Pat):C9 Tryz.prog 151 [.agg (Ba p)] (.raw (.bool (Fl p))):=⟨by
 refine Au Tryz.func151 Tryz.ntmps151 rfl (rs:= [.tmp 2]) rfl rfl fun hb LF=>?_
 have hbp:=hb (.agg (Ba p)) (by simp)
 have ha:p.author.length≤140737488355328:=(hbp.agg_at (c:= .str p.author) (by simp[Ba])).str_len
 have hm:p.message.length≤140737488355328:=(hbp.agg_at (c:= .str p.message) (by simp[Ba])).str_len
 have hbc:=hbp.agg_at (c:= .slice (p.changes.map eChg) .ro) (by simp[Ba])
 have hlen:p.changes.length≤140737488355328:=hbc.slice_map
 have hcn: ∀ c∈p.changes,c.name.length≤140737488355328:=fun c hc=>(hbc.slice_at hc (c:= .str c.name) (by simp[eChg])).str_len
 have hcd: ∀ c∈p.changes,c.data.length≤140737488355328:=fun c hc=>(hbc.slice_at hc (c:= .str c.data) (by simp[eChg])).str_len
 refine DC fun b=>?_
 refine Ab (σ:=Nat × Int) (fun k=>k.1≤p.changes.length∧(∀ i (h:i < p.changes.length),i < k.1→aH p.changes[i]=false)∧(p.changes.length≤20→k.2=((p.author.length+p.message.length+((p.changes.take k.1).map GH).sum:Nat):Int))) (fun k=>p.changes.length - k.1) (fun k=> [(1,.raw (.pointer (some ⟨b,0,none⟩))),(3,.raw (.int .i64 k.2)),(4,.raw (.int .i64 k.1))]) (fun _=> .box b 40 (Ba p)::LF) (0,(p.author.length:Int)+(p.message.length:Int)) ⟨by simp,by simp,fun _=>by simp⟩ ⟨rfl,rfl,rfl⟩ (.refl _) ?_
 rintro⟨k,n⟩ ⟨hk,hg,hn⟩
 dsimp only at hk hg hn ⊢
 obtain⟨v,hv⟩: ∃ v,v=Value.int .i64 n:=⟨_,rfl⟩
 rw[←hv]
 refine AY ?_
 refine A6 (fun hc=>?_) (fun hc=>?_)
 ·have hlt:k < p.changes.length:=by omega
  refine DC fun b2=>?_
  refine BR [(33,.raw (.bool (aH p.changes[k]))),(1,.raw (.pointer (some ⟨b,0,none⟩))),(3,.raw v),(4,.raw (.int .i64 k)),(5,.raw (.pointer (some ⟨b2,0,none⟩)))] (.box b2 73 (eChg p.changes[k]):: .box b 40 (Ba p)::LF) ?_ ?_
  ·repeat' (first|(refine A6 (fun h=>?_) (fun h=>?_)<;>refine AY ?_)|(refine AX (fun h=>?_) (fun h=>?_)<;>refine AY ?_)|(refine AU (fun h=>?_) (fun h=>?_)<;>refine AY ?_)|(refine Ar (fun h=>?_) (fun h=>?_)<;>(have h2:=h;(try simp only[AB,A8,AG,AL]at h2);refine C8 ?_)))
   all_goals (refine⟨⟨C4 (by rfl) ?_,rfl,rfl,rfl,rfl⟩,.refl _⟩;simp_all[aH])
  refine AY ?_
  refine AU (fun h=>?_) (fun h=>?_)
  ·refine AY ?_
   refine Az (.of_eq ?_)
   have:p.changes.any aH=true:=by rw[CB];exact⟨_,AJ hlt,h⟩
   rw[Fl,this];rfl
  refine AY ?_
  refine Zz (by rfl) (by rfl) hv fun v1 hv1=>?_
  refine C8 ?_
  refine Zz (by rfl) (by rfl) hv1 fun v2 hv2=>?_
  refine C8 ?_
  subst hv2
  refine⟨(k+1,IntKind.i64.wrap (IntKind.i64.wrap (n+(p.changes[k].name.length:Int))+(p.changes[k].data.length:Int))),⟨by dsimp only;omega,fun i hi hik=>?_,fun h20=>?_⟩,by dsimp only;omega,⟨rfl,rfl,rfl⟩,.cons _ (.refl _)⟩
  ·rcases BP i k with h'|h'
   ·exact hg i hi h'
   ·have:i=k:=by dsimp only at hik;omega
    subst this;exact h
  ·have h1:=hn h20
   have h2:=K4 (f:=GH) hlt
   have h3:=hcn _ (AJ hlt)
   have h3':=hcd _ (AJ hlt)
   have h4:=FC (l:=p.changes.take k) (f:=GH) (B:=281474976710656) fun c hc=>by
    have q1:=hcn c (Ek hc)
    have q2:=hcd c (Ek hc)
    unfold GH;omega
   have h5:(p.changes.take k).length≤20:=by rw[AZ];omega
   have h6:(p.changes.take k).length*281474976710656≤20*281474976710656:=B8 _ h5
   dsimp only
   have h7:GH p.changes[k]=p.changes[k].name.length+p.changes[k].data.length:=rfl
   rw[IntWalk.i64_in (n+_) (by omega),IntWalk.i64_in _ (by omega),h1,h2];omega
 ·subst hv
  refine AY ?_
  rw[AE (by omega)]at hn
  have hany:p.changes.any aH=false:=by
   rw[Bf];intro c hc'
   obtain⟨i,hi,rfl⟩:=Ad.1 hc'
   simp[hg i hi (by omega)]
  have key:Fl p=(decide (3000 < n)||decide (20 < (p.deps.length:Int))||decide (20 < (p.changes.length:Int))):=by
   rw[Fl,hany,Fi]
   by_cases h20:p.changes.length≤20
   ·rw[hn h20];rfl
   ·have:decide (20 < (p.changes.length:Int))=true:=BK (by omega)
    rw[this,Bool.or_true,Bool.or_true]
  rw[key]
  clear key hany hn hg
  repeat' (first|(refine A6 (fun h=>?_) (fun h=>?_)<;>refine AY ?_)|(refine AX (fun h=>?_) (fun h=>?_)<;>refine AY ?_)|(refine AU (fun h=>?_) (fun h=>?_)<;>refine AY ?_)|(refine Ar (fun h=>?_) (fun h=>?_)<;>(have h2:=h;(try simp only[AB,A8,AG,AL]at h2);refine C8 ?_)))
  all_goals (refine Az (.of_eq ?_);first|(simp_all;done)|grind)⟩
theorem K3 (d:Nat) {s:Str} (h:s.length≤65536):Oq (d+1) (Cb s):= .inl ⟨rfl,rfl,h⟩
theorem Zg (d:Nat) (n:Int):Oq (d+1) (GD n):=by
 unfold GD R7
 split
 ·exact .inl ⟨rfl,rfl,by decide⟩
 ·refine K3 d ?_
  have:=OW (n:=n) ⟨by omega,by omega⟩
  omega
theorem gL (d:Nat) (x:Dig):Oq (d+1) (K8 x):=by
 unfold K8
 split
 ·exact K3 d (by decide)
 ·exact K3 d (by rw[x.len];decide)
theorem MY {d:Nat} {l:List Sx} (h: ∀ y∈l,Oq d y):Oq (d+1) (E7 l):= .inr ⟨rfl,rfl,h⟩
theorem gJ (d:Nat) (x:Ident):Oq (d+2) (GB x):=MY fun y hy=>by
 simp only[AH,Ah,or_false]at hy
 rcases hy with rfl|rfl
 ·exact gL d _
 ·exact Zg d _
theorem lf (d:Nat) (l:List Ident):Oq (d+3) (J6 l):=MY fun y hy=>by
 obtain⟨x,_,rfl⟩:=AO.1 hy
 exact gJ d x
theorem WY (d:Nat) (s:Str):Ib (d+1) (Cb s)=1:=rfl
theorem TR (d:Nat) (n:Int):Ib (d+1) (GD n)=1:=by
 unfold GD R7
 split<;>rfl
theorem jZ (d:Nat) (x:Dig):Ib (d+1) (K8 x)=1:=by
 unfold K8;split<;>rfl
theorem Ob (d:Nat) (l:List Sx):Ib (d+1) (E7 l)=1+(l.map (Ib d)).sum:=rfl
theorem WX (d:Nat) (x:Ident):Ib (d+2) (GB x)=3:=by
 rw[GB,Ob];simp only[Aq,CG,DD,Jm,jZ,TR];rfl
theorem nU (d:Nat) (l:List Ident):Ib (d+3) (J6 l)≤1+l.length*3:=by
 rw[J6,Ob,CK]
 have:=FC (l:=l) (f:=Ib (d+2) ∘ GB) (B:=3) fun x _=>by simp[WX]
 omega
theorem JW (d:Nat) {s:Str} (h:s.length≤140737488355328):(Dp (d+1) (Cb s)).length≤16+s.length:=by
 show(Hs s.length++58::s).length≤_
 have:=KS h
 rw[AA,AN];omega
theorem ae (d:Nat) (n:Int):(Dp (d+1) (GD n)).length≤32:=by
 unfold GD R7
 split
 ·exact CX (JW d (s:= []) (by decide)) (by decide)
 ·rename_i h
  have h1:=OW (n:=n) ⟨by omega,by omega⟩
  have h2:=JW d (s:=J8 n) (by omega)
  dsimp only;omega
theorem jg (d:Nat) (x:Dig):(Dp (d+1) (K8 x)).length≤48:=by
 unfold K8
 split
 ·exact CX (JW d (s:= []) (by decide)) (by decide)
 ·have h:=JW d (s:=x.bs) (by rw[x.len];decide)
  rw[x.len]at h;exact h
theorem ZC {α β:Type} (l:List α) (f:α→List β):(l.flatMap f).length=(l.map fun a=>(f a).length).sum:=by
 induction l with
 |nil=>rfl
 |cons x l ih=>simp[ih]
theorem Mz (d:Nat) (l:List Sx):(Dp (d+1) (E7 l)).length=2+(l.map fun a=>(Dp d a).length).sum:=by
 show(40::(l.flatMap (Dp d)++ [41])).length=_
 rw[AN,AA,ZC,BA];omega
theorem jf (d:Nat) (x:Ident):(Dp (d+2) (GB x)).length≤82:=by
 rw[GB,Mz]
 have h1:=jg d x.patch
 have h2:=ae d x.n
 simp only[Aq,CG,DD,Jm];omega
theorem nb (d:Nat) (l:List Ident):(Dp (d+3) (J6 l)).length≤2+l.length*82:=by
 rw[J6,Mz,CK]
 have:=FC (l:=l) (f:=(fun a=>(Dp (d+2) a).length) ∘ GB) (B:=82) fun x _=>jf d x
 omega
structure Vb (c:Chg):Prop where
 lines:c.lines.length≤40
 line: ∀ s∈c.lines,s.length≤3000
 over:c.over.length≤40
 name:c.name.length≤3000
 data:c.data.length≤3000
theorem Va {c:Chg} {q:Sx→Prop} (h1: ∀ n,q (GD n)) (h2: ∀ x,q (GB x)) (h3:q (Cb c.name)) (h4:q (Cb c.data)) (h5:q (E7 (c.lines.map Cb))) (h6:q (J6 c.over)): ∀ y∈([GD c.kind]++Jw c++IV c)++Ku c,q y:=by
 intro y hy
 simp only[Ai,Ag]at hy
 rcases hy with ((rfl|hy)|hy)|hy
 ·exact h1 _
 ·unfold Jw at hy
  split at hy
  ·simp only[Ag]at hy;subst hy;exact h2 _
  ·cases hy
 ·unfold IV at hy
  repeat' split at hy
  all_goals simp only[AH,Ah,or_false]at hy
  ·subst hy;exact h1 _
  ·rcases hy with rfl|rfl
   ·exact h2 _
   ·exact h3
  ·subst hy;exact h1 _
  ·subst hy;exact h4
  ·rcases hy with rfl|rfl<;>exact h2 _
 ·unfold Ku at hy
  repeat' split at hy
  all_goals simp only[AH,Ah,or_false]at hy
  ·subst hy;exact h5
  ·subst hy;exact h6
theorem oM (c:Chg):(([GD c.kind]++Jw c++IV c)++Ku c).length≤5:=by
 have h1:=Qy c
 have h2:=Qx c
 have h3:(Ku c).length≤1:=by unfold Ku;repeat' split
                             all_goals simp
 simp only[AA,BA];omega
theorem qw (d:Nat) {c:Chg} (h:Vb c):Oq (d+4) (Kn c):=
 MY (Va (fun n=>Zg (d+2) n) (fun x=>gJ (d+1) x) (K3 (d+2) (by have:=h.name;omega)) (K3 (d+2) (by have:=h.data;omega))
  (MY fun y hy=>by
   obtain⟨s,hs,rfl⟩:=AO.1 hy
   exact K3 (d+1) (by have:=h.line s hs;omega)) (lf d c.over))
theorem ja (d:Nat) (c:Chg):(([GD c.kind]++Jw c++IV c).map (Ib (d+3))).sum≤12:=by
 have h:=FC (l:= [GD c.kind]++Jw c++IV c) (f:=Ib (d+3)) (B:=3) fun y hy=>by
  simp only[Ai,Ag]at hy
  rcases hy with (rfl|hy)|hy
  ·rw[TR (d+2)];decide
  ·unfold Jw at hy
   split at hy
   ·simp only[Ag]at hy;subst hy;rw[WX (d+1)];decide
   ·cases hy
  ·unfold IV at hy
   repeat' split at hy
   all_goals simp only[AH,Ah,or_false]at hy
   ·subst hy;rw[TR (d+2)];decide
   ·rcases hy with rfl|rfl
    ·rw[WX (d+1)];decide
    ·rw[WY (d+2)];decide
   ·subst hy;rw[TR (d+2)];decide
   ·subst hy;rw[WY (d+2)];decide
   ·rcases hy with rfl|rfl<;>(rw[WX (d+1)];decide)
 have h1:=Qy c
 have h2:=Qx c
 simp only[AA,BA]at h
 omega
theorem nV (d:Nat) (c:Chg):((Ku c).map (Ib (d+3))).sum≤3*Il c:=by
 unfold Ku Il
 repeat' split
 ·simp only[Aq,CG,DD,Jm]
  rw[Ob (d+2),CK]
  have:=FC (l:=c.lines) (f:=Ib (d+2) ∘ Cb) (B:=1) fun s _=>Ak _
  omega
 ·simp only[Aq,CG,DD,Jm]
  have:=nU d c.over
  omega
 ·simp
theorem sQ (d:Nat) (c:Chg):Ib (d+4) (Kn c)≤13+3*Il c:=by
 rw[Kn,Ob,An,DX]
 have h1:=ja d c
 have h2:=nV d c
 omega
theorem Xf {α:Type} {l:List α} {f g:α→Nat} {a b:Nat} (h: ∀ s∈l,f s≤a+b*g s):(l.map f).sum≤l.length*a+b*(l.map g).sum:=by
 induction l with
 |nil=>simp
 |cons x l ih=>
  have h1:=h x (by simp)
  have h2:=ih fun s hs=>h s (by simp[hs])
  simp only[Aq,DD,AN,C3,Nat.mul_add];omega
theorem sW (d:Nat) {c:Chg} (h:Vb c):(Dp (d+4) (Kn c)).length≤650000:=by
 rw[Kn,Mz]
 have h1:=FC (f:=fun y=>(Dp (d+3) y).length) (B:=121000) (Va (c:=c) (q:=fun y=>(Dp (d+3) y).length≤121000) (fun n=>CX (ae (d+2) n) (by decide)) (fun x=>CX (jf (d+1) x) (by decide))
  (CX (JW (d+2) (s:=c.name) (by have:=h.name;omega)) (by have:=h.name;omega)) (CX (JW (d+2) (s:=c.data) (by have:=h.data;omega)) (by have:=h.data;omega))
  (by
   rw[Mz (d+2),CK]
   have:=FC (l:=c.lines) (f:=(fun a=>(Dp (d+2) a).length) ∘ Cb) (B:=3016) fun s hs=>by
    have h3:=h.line s hs
    exact CX (JW (d+1) (s:=s) (by omega)) (by omega)
   have:=h.lines;omega)
  (by have:=nb d c.over;have:=h.over;omega))
 have h2:=B8 121000 (oM c)
 omega
theorem IU {α:Type} {l:List α} {f:α→Nat} {a:α} (h:a∈l):f a≤(l.map f).sum:=by
 induction l with
 |nil=>cases h
 |cons x l ih=>
  simp only[Aq,DD]
  rcases AH.1 h with rfl|h
  ·omega
  ·have:=ih h;omega
theorem L5 {p:Pat} (h:Fl p=false):p.author.length≤3000∧p.message.length≤3000∧p.deps.length≤20∧p.changes.length≤20∧ ∀ c∈p.changes,Vb c:=by
 unfold Fl at h
 simp only[CJ,A8,Bf]at h
 obtain⟨⟨⟨h1,h2⟩,h3⟩,h4⟩:=h
 have ht:Qz p=p.author.length+p.message.length+(p.changes.map GH).sum:=rfl
 refine⟨by omega,by omega,by omega,by omega,fun c hc=>?_⟩
 have h5:=h1 c hc
 simp only[aH,u6,Hj,CJ,A8]at h5
 obtain⟨⟨h6,h7⟩,h8⟩:=h5
 have h9:=IU (f:=GH) hc
 have h10:GH c=c.name.length+c.data.length:=rfl
 refine⟨by omega,fun s hs=>?_,by omega,by omega,by omega⟩
 have:=IU (f:=List.length) hs
 unfold LB at h7
 omega
theorem XL {p:Pat} (h:Fl p=false):E5 p=false:=by
 obtain⟨h1,h2,h3,h4,h5⟩:=L5 h
 have hs:=FC (l:=p.changes) (f:=Il) (B:=81) fun c hc=>by have a:=(h5 c hc).lines;have b:=(h5 c hc).over;unfold Il;omega
 unfold Fl at h
 unfold E5
 simp only[CJ,A8,Bf]at h ⊢
 obtain⟨⟨⟨g1,g2⟩,g3⟩,g4⟩:=h
 refine⟨⟨⟨⟨fun c hc=>?_,by omega⟩,by omega⟩,by omega⟩,by omega⟩
 have k1:=g1 c hc
 have k2: ¬3000 < (GH c:Int):=by
  have:=IU (f:=GH) hc
  have ht:Qz p=p.author.length+p.message.length+(p.changes.map GH).sum:=rfl
  omega
 simp only[Hj]at k1
 simp[k1,k2]
theorem Eh {p:Pat} (h:E5 p=false):p.author.length≤30000∧p.message.length≤30000∧p.deps.length≤200∧p.changes.length≤200∧ ∀ c∈p.changes,Vb c:=by
 unfold E5 at h
 simp only[CJ,A8,Bf]at h
 obtain⟨⟨⟨⟨h1,h2⟩,h3⟩,h4⟩,_⟩:=h
 have ht:Qz p=p.author.length+p.message.length+(p.changes.map GH).sum:=rfl
 refine⟨by omega,by omega,by omega,by omega,fun c hc=>?_⟩
 have h5:=h1 c hc
 simp only[aH,u6,Hj,CJ,A8]at h5
 obtain⟨⟨⟨h6,h7⟩,h8⟩,h9⟩:=h5
 have h10:GH c=c.name.length+c.data.length:=rfl
 refine⟨by omega,fun s hs=>?_,by omega,by omega,by omega⟩
 have:=IU (f:=List.length) hs
 unfold LB at h7
 omega
theorem oX {p:Pat} (h:E5 p=false):(p.changes.map Il).sum≤2000:=by
 unfold E5 at h
 simp only[CJ,A8]at h
 omega
theorem O3 {p:Pat} (h:E5 p=false):VX p:=by
 obtain⟨h1,h2,h3,h4,h5⟩:=Eh h
 have hsum:=oX h
 refine⟨by omega,by omega,fun c hc=>⟨by have:=(h5 c hc).lines;omega,by have:=(h5 c hc).over;omega⟩,⟨?_,?_⟩,?_⟩
 ·refine MY (d:=7) fun y hy=>?_
  simp only[AH,Ah,or_false]at hy
  rcases hy with rfl|rfl|rfl|rfl|rfl|rfl
  ·exact K3 6 (by decide)
  ·exact K3 6 (by omega)
  ·exact K3 6 (by omega)
  ·exact Zg 6 _
  ·exact MY fun y hy=>by obtain⟨x,_,rfl⟩:=AO.1 hy;exact gL 5 x
  ·exact MY fun y hy=>by obtain⟨x,hx,rfl⟩:=AO.1 hy;exact qw 2 (h5 x hx)
 ·rw[W8,Ob 7]
  simp only[Aq,CG,DD,Jm,WY 6,TR 6,Ob 6,CK]
  have e1:=FC (l:=p.deps) (f:=Ib 6 ∘ K8) (B:=1) fun x _=>EF (jZ 5 x)
  have e2:=Xf (l:=p.changes) (f:=Ib 6 ∘ Kn) (g:=Il) (a:=13) (b:=3) fun x _=>sQ 2 x
  have e3:=B8 13 h4
  omega
 ·rw[NS,W8,Mz 7]
  simp only[Aq,CG,DD,Jm]
  have e0:(Dp 7 (Cb [113,117,105,108,116,49])).length≤22:=JW 6 (s:= [113,117,105,108,116,49]) (by decide)
  have e1:(Dp 7 (Cb p.author)).length≤16+p.author.length:=JW 6 (s:=p.author) (by omega)
  have e2:(Dp 7 (Cb p.message)).length≤16+p.message.length:=JW 6 (s:=p.message) (by omega)
  have e3:(Dp 7 (GD p.time)).length≤32:=ae 6 p.time
  have e8:(Dp 7 (E7 (p.deps.map K8))).length=2+((p.deps.map K8).map fun a=>(Dp 6 a).length).sum:=Mz 6 _
  have e9:(Dp 7 (E7 (p.changes.map Kn))).length=2+((p.changes.map Kn).map fun a=>(Dp 6 a).length).sum:=Mz 6 _
  rw[CK]at e8 e9
  have e4:=FC (l:=p.deps) (f:=(fun a=>(Dp 6 a).length) ∘ K8) (B:=48) fun x _=>jg 5 x
  have e5:=FC (l:=p.changes) (f:=(fun a=>(Dp 6 a).length) ∘ Kn) (B:=650000) fun x hx=>sW 2 (h5 x hx)
  have e6:=B8 650000 h4
  have e7:=B8 48 h3
  omega
def CD (p:Pat):Str × Int:=if(Bo p).2≠0 then([],(Bo p).2)else IB p
theorem QI (p:Pat):(CD p).1.length≤65536:=by
 unfold CD IB
 split
 ·simp
 ·split
  ·simp
  ·dsimp only;omega
instance tZ (p:Pat) [hs:B4 (E5 p=false)]:C9 Tryz.prog 55 [.agg (Ba p)] (.tuple [.str (CD p).1,.raw (.int .i64 (CD p).2)]):=⟨by
 have i1:B4 (VX p):=⟨O3 hs.out⟩
 refine Au Tryz.func55 Tryz.ntmps55 rfl (rs:= [.tmp 2,.tmp 3]) rfl rfl fun hb LF=>?_
 refine DC fun b=>?_
 refine AX (fun h=>?_) (fun h=>?_)
 ·refine AY ?_
  refine HD ?_
  rw[CD,if_pos h]
  exact .refl _
 ·refine AY ?_
  refine HD ?_
  rw[CD,if_neg (by simp[h])]
  exact .refl _⟩
instance fo (p:Pat) [hs:B4 (E5 p=false)]:C9 Tryz.prog 19 [.agg (Ba p)] (.raw (.int .i64 (CD p).2)):=⟨by
 refine Au Tryz.func19 Tryz.ntmps19 rfl (rs:= [.tmp 2]) rfl rfl fun hb LF=>?_
 refine DC fun b=>?_
 exact Az (.refl _)⟩
def EW (p:Pat):Dig × Int:=if(CD p).2≠0 then(Dig.zero,(CD p).2)else(eD (CD p).1,0)
instance yc (p:Pat) [hs:B4 (E5 p=false)]:C9 Tryz.prog 86 [.agg (Ba p)] (.tuple [.agg (eDig (EW p).1),.raw (.int .i64 (EW p).2)]):=⟨by
 have i1:B4 ((CD p).1.length≤1000000):=⟨by have:=QI p;omega⟩
 refine Au Tryz.func86 Tryz.ntmps86 rfl (rs:= [.cell 2 31,.tmp 3]) rfl rfl fun hb LF=>?_
 refine DC fun b=>?_
 refine FK fun b2=>?_
 refine AX (fun h=>?_) (fun h=>?_)
 ·refine AY ?_
  refine L6 rfl (.of_eq ?_)
  rw[EW,if_pos h]
 ·refine AY ?_
  refine L6 rfl (.of_eq ?_)
  rw[EW,if_neg (by simp[h])]⟩
end Go.Proofs
namespace Go.Q
open Go
structure tQ {α β:Type} (B:α→β→Prop):Prop where
 out: ∀ a b,B a b
section
variable {P:Program} {N:Nat} {all:Array Oper} {K:Env→List Res→Prop} {fl:List Bool} {os:List Oper} {ρ:Env} {L:List Res} {Q:PPost} {c:Code} {d:Nat} {ty:TypeId} {pos:String} {af:Array Edge}
theorem rf {T sz by_:Nat} [hE:GW P T sz by_] {x0 x1 x2 x3:Operand} {a0 a1 a2 a3:PV} {α:Type} {f:α→List PV} {e0 e1 e2 e3:α} (q0:ρ.ev x0=a0) (q1:ρ.ev x1=a1) (q2:ρ.ev x2=a2) (q3:ρ.ev x3=a3) [hC0:GI a0 f e0] [hC1:GI a1 f e1] [hC2:GI a2 f e2] [hC3:GI a3 f e3] [hf:NR f sz] (h24:4*sz≤16777216)
  (k: ∀ t,AQ P N all K fl.tail os (CT ρ d (.slice ([e0,e1,e2,e3].map f) t)) (.tok t [e0,e1,e2,e3].length sz::L)) (hd:Nat.blt d N=true:=by rfl) (hfl:fl.headD true=true:=by rfl):AQ P N all K fl (⟨some d,.buildSlice T 4 #[(0,x0),(1,x1),(2,x2),(3,x3)],ty,pos,af,none⟩::os) ρ L:=
 Dd rfl (PA hd) hfl (cG (n:=4) (xs:= [x0,x1,x2,x3]) (cs:= [e0,e1,e2,e3].map f) rfl rfl h24 (by decide) (fun i h1 h2=>by
  match i,h1,h2 with
  |0,_,_=>exact⟨q0 ▸ hC0.out,hf.out e0⟩
  |1,_,_=>exact⟨q1 ▸ hC1.out,hf.out e1⟩
  |2,_,_=>exact⟨q2 ▸ hC2.out,hf.out e2⟩
  |3,_,_=>exact⟨q3 ▸ hC3.out,hf.out e3⟩
  |m+4,h1,_=>exact absurd h1 (by simp only[AN,Af];omega)) k)
theorem lg {A:Prop} {B:Nat→CN→Prop} (k: ∀ b t,B b t) (h:tQ B→A:=by
  intro hB
  refine gN ?_
  first|refine Y4 (by rfl) fun b=>?_|refine CC fun b=>?_
  refine gN ?_
  refine rf (by(conv=>lhs;whnf);done) (by(conv=>lhs;whnf);done) (by(conv=>lhs;whnf);done) (by(conv=>lhs;whnf);done) (hC0:=(by first|infer_instance|fail)) (hC1:=(by first|infer_instance|fail)) (hC2:=(by first|infer_instance|fail)) (hC3:=(by first|infer_instance|fail)) (hf:=(by first|infer_instance|fail)) (by decide) fun t=>?_
  refine AY ?_
  exact hB.out b t):A:=h ⟨k⟩
end
end Go.Q
