/- Contracts: what is too large for the statements; patches encoded (the reference's layers 4 and 16). -/
import Derived.Test.YtpebdiofdfpooaaGreatDoorUak
import Derived.Test.YtpebdiofdfpooaaGreatDoorUaj
import Derived.Test.YtpebdiofdfpooaaGreatDoorUae
import Derived.Test.YtpebdiofdfpooaaGreatDoorUaf
set_option linter.unusedSimpArgs false
set_option linter.unusedVariables false
set_option maxHeartbeats 8000000
namespace Go.Proofs
open Go Go.Q
attribute [local irreducible] EG AY B2 FZ
def LP (l:List Str):Nat:=(l.map List.length).sum
def uV (l:List Str):Bool:=decide (40 < (l.length:Int))||decide (3000 < (LP l:Int))
theorem Y2 {l:List Str} {k:Nat} (h:k < l.length):LP (l.take (k+1))=LP (l.take k)+l[k].length:=by
 unfold LP;rw[A6 h,Az,KS];simp
theorem eJ {l:List Str} {B:Nat} (h: ∀ s∈l,s.length≤B):LP l≤l.length*B:=by
 unfold LP
 induction l with
 |nil=>simp
 |cons x l ih=>
  have h1:=h x (by simp)
  have h2:=ih fun s hs=>h s (by simp[hs])
  simp only[BG,GW,AH,Bq];omega
instance vF (l:List Str) (t:CW):Bl Tryz.prog 67 [.slice (l.map eS) t] (.raw (.bool (uV l))):=⟨by
 refine Ak Tryz.func67 Tryz.ntmps67 rfl (rs:= [.tmp 2]) rfl rfl fun hb LF=>?_
 have hbs:=hb (.slice (l.map eS) t) (by simp)
 have hlen:l.length≤140737488355328:=hbs.slice_map
 have hel: ∀ s∈l,s.length≤140737488355328:=fun s hs=>(hbs.slice_at hs (c:= .str s) (by simp[eS])).str_len
 refine Ad ?_
 refine AW (σ:=Nat × Int) (fun k=>k.1≤l.length∧(l.length≤40→k.2=(LP (l.take k.1):Int))) (fun k=>l.length - k.1) (fun k=> [(0,.slice (l.map eS) t),(3,.raw (.int .i64 k.2)),(4,.raw (.int .i64 k.1))]) (fun _=>LF) (0,0) ⟨by simp,fun _=>by simp[LP]⟩ ⟨rfl,rfl,rfl⟩ (.refl _) ?_
 rintro⟨k,n⟩ ⟨hk,hn⟩
 dsimp only at hk hn ⊢
 obtain⟨v,hv⟩: ∃ v,v=Value.int .i64 n:=⟨_,rfl⟩
 rw[←hv]
 refine Ad ?_
 refine A1 (fun hc=>?_) (fun hc=>?_)
 ·have hlt:k < l.length:=by omega
  refine Ad ?_
  refine aU (by rfl) (by rfl) hv fun v1 hv1=>?_
  refine Bz ?_
  subst hv1
  refine⟨(k+1,IntKind.i64.wrap (n+(l[k].length:Int))),⟨by dsimp only;omega,fun h40=>?_⟩,by dsimp only;omega,⟨rfl,rfl,rfl⟩,.refl _⟩
  have h1:=hn h40
  have h2:=Y2 hlt
  have h3:=hel _ (AK hlt)
  have h4:=eJ (l:=l.take k) (B:=140737488355328) fun s hs=>hel s (Fe hs)
  have h5:(l.take k).length≤40:=by rw[AV];omega
  have h6:(l.take k).length*140737488355328≤40*140737488355328:=Au _ h5
  dsimp only
  rw[IntWalk.i64_in _ (by omega),h1,h2];omega
 ·subst hv
  refine Ad ?_
  rw[AA (by omega)]at hn
  refine An (fun hp=>?_) (fun hp=>?_)
  ·refine Bz ?_
   refine Ah (.of_eq ?_)
   rw[uV,hp,Bool.true_or]
  ·refine Bz ?_
   refine Ah (.of_eq ?_)
   have:=BJ hp
   rw[uV,hp,Ic,hn (by omega)]⟩
def Kc (c:Chg):Nat:=c.name.length+c.data.length
def ez (p:Pat):Nat:=p.author.length+p.message.length+(p.changes.map Kc).sum
def nb (c:Chg):Bool:=uV c.lines||decide (40 < (c.over.length:Int))
def HZ (p:Pat):Bool:=p.changes.any nb||decide (3000 < (ez p:Int))||decide (20 < (p.deps.length:Int))||decide (20 < (p.changes.length:Int))
def PR (c:Chg):Nat:=1+c.lines.length+c.over.length
def EE (p:Pat):Bool:=p.changes.any (fun c=>nb c||decide (3000 < (Kc c:Int)))||decide (30000 < (ez p:Int))||decide (200 < (p.deps.length:Int))||decide (200 < (p.changes.length:Int))||decide (2000 < ((p.changes.map PR).sum:Int))
theorem FR {α:Type} {l:List α} {f:α→Nat} {B:Nat} (h: ∀ s∈l,f s≤B):(l.map f).sum≤l.length*B:=by
 induction l with
 |nil=>simp
 |cons x l ih=>
  have h1:=h x (by simp)
  have h2:=ih fun s hs=>h s (by simp[hs])
  simp only[BG,GW,AH,Bq];omega
theorem MN {α:Type} {l:List α} {f:α→Nat} {k:Nat} (h:k < l.length):((l.take (k+1)).map f).sum=((l.take k).map f).sum+f l[k]:=by
 rw[A6 h,Az,KS];simp
instance u4 (p:Pat):Bl Tryz.prog 23 [.agg (CP p)] (.raw (.bool (HZ p))):=⟨by
 refine Ak Tryz.func23 Tryz.ntmps23 rfl (rs:= [.tmp 2]) rfl rfl fun hb LF=>?_
 have hbp:=hb (.agg (CP p)) (by simp)
 have ha:p.author.length≤140737488355328:=(hbp.agg_at (c:= .str p.author) (by simp[CP])).str_len
 have hm:p.message.length≤140737488355328:=(hbp.agg_at (c:= .str p.message) (by simp[CP])).str_len
 have hbc:=hbp.agg_at (c:= .slice (p.changes.map BC) .ro) (by simp[CP])
 have hlen:p.changes.length≤140737488355328:=hbc.slice_map
 have hcn: ∀ c∈p.changes,c.name.length≤140737488355328:=fun c hc=>(hbc.slice_at hc (c:= .str c.name) (by simp[BC])).str_len
 have hcd: ∀ c∈p.changes,c.data.length≤140737488355328:=fun c hc=>(hbc.slice_at hc (c:= .str c.data) (by simp[BC])).str_len
 refine DB fun b=>?_
 refine AW (σ:=Nat × Int) (fun k=>k.1≤p.changes.length∧(∀ i (h:i < p.changes.length),i < k.1→nb p.changes[i]=false)∧(p.changes.length≤20→k.2=((p.author.length+p.message.length+((p.changes.take k.1).map Kc).sum:Nat):Int))) (fun k=>p.changes.length - k.1) (fun k=> [(1,.raw (.pointer (some ⟨b,0,none⟩))),(3,.raw (.int .i64 k.2)),(4,.raw (.int .i64 k.1))]) (fun _=> .box b 42 (CP p)::LF) (0,(p.author.length:Int)+(p.message.length:Int)) ⟨by simp,by simp,fun _=>by simp⟩ ⟨rfl,rfl,rfl⟩ (.refl _) ?_
 rintro⟨k,n⟩ ⟨hk,hg,hn⟩
 dsimp only at hk hg hn ⊢
 obtain⟨v,hv⟩: ∃ v,v=Value.int .i64 n:=⟨_,rfl⟩
 rw[←hv]
 refine Ad ?_
 refine A1 (fun hc=>?_) (fun hc=>?_)
 ·have hlt:k < p.changes.length:=by omega
  refine DB fun b2=>?_
  refine B0 [(33,.raw (.bool (nb p.changes[k]))),(1,.raw (.pointer (some ⟨b,0,none⟩))),(3,.raw v),(4,.raw (.int .i64 k)),(5,.raw (.pointer (some ⟨b2,0,none⟩)))] (.box b2 101 (BC p.changes[k]):: .box b 42 (CP p)::LF) ?_ ?_
  ·repeat' (first|(refine A1 (fun h=>?_) (fun h=>?_)<;>refine Ad ?_)|(refine AL (fun h=>?_) (fun h=>?_)<;>refine Ad ?_)|(refine AO (fun h=>?_) (fun h=>?_)<;>refine Ad ?_)|(refine An (fun h=>?_) (fun h=>?_)<;>(have h2:=h;(try simp only[AB,A7,AG,AF]at h2);refine Bz ?_)))
   all_goals (refine⟨⟨BO (by rfl) ?_,rfl,rfl,rfl,rfl⟩,.refl _⟩;simp_all[nb])
  refine Ad ?_
  refine AO (fun h=>?_) (fun h=>?_)
  ·refine Ad ?_
   refine Ah (.of_eq ?_)
   have:p.changes.any nb=true:=by rw[BW];exact⟨_,AK hlt,h⟩
   rw[HZ,this];rfl
  refine Ad ?_
  refine aU (by rfl) (by rfl) hv fun v1 hv1=>?_
  refine Bz ?_
  refine aU (by rfl) (by rfl) hv1 fun v2 hv2=>?_
  refine Bz ?_
  subst hv2
  refine⟨(k+1,IntKind.i64.wrap (IntKind.i64.wrap (n+(p.changes[k].name.length:Int))+(p.changes[k].data.length:Int))),⟨by dsimp only;omega,fun i hi hik=>?_,fun h20=>?_⟩,by dsimp only;omega,⟨rfl,rfl,rfl⟩,.cons _ (.refl _)⟩
  ·rcases BB i k with h'|h'
   ·exact hg i hi h'
   ·have:i=k:=by dsimp only at hik;omega
    subst this;exact h
  ·have h1:=hn h20
   have h2:=MN (f:=Kc) hlt
   have h3:=hcn _ (AK hlt)
   have h3':=hcd _ (AK hlt)
   have h4:=FR (l:=p.changes.take k) (f:=Kc) (B:=281474976710656) fun c hc=>by
    have q1:=hcn c (Fe hc)
    have q2:=hcd c (Fe hc)
    unfold Kc;omega
   have h5:(p.changes.take k).length≤20:=by rw[AV];omega
   have h6:(p.changes.take k).length*281474976710656≤20*281474976710656:=Au _ h5
   dsimp only
   have h7:Kc p.changes[k]=p.changes[k].name.length+p.changes[k].data.length:=rfl
   rw[IntWalk.i64_in (n+_) (by omega),IntWalk.i64_in _ (by omega),h1,h2];omega
 ·subst hv
  refine Ad ?_
  rw[AA (by omega)]at hn
  have hany:p.changes.any nb=false:=by
   rw[FE];intro c hc'
   obtain⟨i,hi,rfl⟩:=AX.1 hc'
   simp[hg i hi (by omega)]
  have key:HZ p=(decide (3000 < n)||decide (20 < (p.deps.length:Int))||decide (20 < (p.changes.length:Int))):=by
   rw[HZ,hany,Ic]
   by_cases h20:p.changes.length≤20
   ·rw[hn h20];rfl
   ·have:decide (20 < (p.changes.length:Int))=true:=BL (by omega)
    rw[this,Bool.or_true,Bool.or_true]
  rw[key]
  clear key hany hn hg
  repeat' (first|(refine A1 (fun h=>?_) (fun h=>?_)<;>refine Ad ?_)|(refine AL (fun h=>?_) (fun h=>?_)<;>refine Ad ?_)|(refine AO (fun h=>?_) (fun h=>?_)<;>refine Ad ?_)|(refine An (fun h=>?_) (fun h=>?_)<;>(have h2:=h;(try simp only[AB,A7,AG,AF]at h2);refine Bz ?_)))
  all_goals (refine Ah (.of_eq ?_);first|(simp_all;done)|grind)⟩
theorem K8 (d:Nat) {s:Str} (h:s.length≤65536):Oh (d+1) (Cb s):= .inl ⟨rfl,rfl,h⟩
theorem aF (d:Nat) (n:Int):Oh (d+1) (Fu n):=by
 unfold Fu RA
 split
 ·exact .inl ⟨rfl,rfl,by decide⟩
 ·refine K8 d ?_
  have:=OM (n:=n) ⟨by omega,by omega⟩
  omega
theorem iA (d:Nat) (x:Dig):Oh (d+1) (KB x):=by
 unfold KB
 split
 ·exact K8 d (by decide)
 ·exact K8 d (by rw[x.len];decide)
theorem MJ {d:Nat} {l:List Sx} (h: ∀ y∈l,Oh d y):Oh (d+1) (Dy l):= .inr ⟨rfl,rfl,h⟩
theorem gz (d:Nat) (x:Ident):Oh (d+2) (Ft x):=MJ fun y hy=>by
 simp only[AQ,BF,or_false]at hy
 rcases hy with rfl|rfl
 ·exact iA d _
 ·exact aF d _
theorem mw (d:Nat) (l:List Ident):Oh (d+3) (J6 l):=MJ fun y hy=>by
 obtain⟨x,_,rfl⟩:=AU.1 hy
 exact gz d x
theorem XB (d:Nat) (s:Str):IQ (d+1) (Cb s)=1:=rfl
theorem TU (d:Nat) (n:Int):IQ (d+1) (Fu n)=1:=by
 unfold Fu RA
 split<;>rfl
theorem kB (d:Nat) (x:Dig):IQ (d+1) (KB x)=1:=by
 unfold KB;split<;>rfl
theorem OT (d:Nat) (l:List Sx):IQ (d+1) (Dy l)=1+(l.map (IQ d)).sum:=rfl
theorem XA (d:Nat) (x:Ident):IQ (d+2) (Ft x)=3:=by
 rw[Ft,OT];simp only[BG,CY,GW,Ot,kB,TU];rfl
theorem oO (d:Nat) (l:List Ident):IQ (d+3) (J6 l)≤1+l.length*3:=by
 rw[J6,OT,DI]
 have:=FR (l:=l) (f:=IQ (d+2) ∘ Ft) (B:=3) fun x _=>by simp[XA]
 omega
theorem Ja (d:Nat) {s:Str} (h:s.length≤140737488355328):(Da (d+1) (Cb s)).length≤16+s.length:=by
 show(Ho s.length++58::s).length≤_
 have:=Ke h
 rw[A8,AH];omega
theorem bH (d:Nat) (n:Int):(Da (d+1) (Fu n)).length≤32:=by
 unfold Fu RA
 split
 ·exact CX (Ja d (s:= []) (by decide)) (by decide)
 ·rename_i h
  have h1:=OM (n:=n) ⟨by omega,by omega⟩
  have h2:=Ja d (s:=JA n) (by omega)
  dsimp only;omega
theorem kJ (d:Nat) (x:Dig):(Da (d+1) (KB x)).length≤48:=by
 unfold KB
 split
 ·exact CX (Ja d (s:= []) (by decide)) (by decide)
 ·have h:=Ja d (s:=x.bs) (by rw[x.len];decide)
  rw[x.len]at h;exact h
theorem ZQ {α β:Type} (l:List α) (f:α→List β):(l.flatMap f).length=(l.map fun a=>(f a).length).sum:=by
 induction l with
 |nil=>rfl
 |cons x l ih=>simp[ih]
theorem Mn (d:Nat) (l:List Sx):(Da (d+1) (Dy l)).length=2+(l.map fun a=>(Da d a).length).sum:=by
 show(40::(l.flatMap (Da d)++ [41])).length=_
 rw[AH,A8,ZQ,CJ];omega
theorem kI (d:Nat) (x:Ident):(Da (d+2) (Ft x)).length≤82:=by
 rw[Ft,Mn]
 have h1:=kJ d x.patch
 have h2:=bH d x.n
 simp only[BG,CY,GW,Ot];omega
theorem oX (d:Nat) (l:List Ident):(Da (d+3) (J6 l)).length≤2+l.length*82:=by
 rw[J6,Mn,DI]
 have:=FR (l:=l) (f:=(fun a=>(Da (d+2) a).length) ∘ Ft) (B:=82) fun x _=>kI d x
 omega
structure W8 (c:Chg):Prop where
 lines:c.lines.length≤40
 line: ∀ s∈c.lines,s.length≤3000
 over:c.over.length≤40
 name:c.name.length≤3000
 data:c.data.length≤3000
theorem W7 {c:Chg} {q:Sx→Prop} (h1: ∀ n,q (Fu n)) (h2: ∀ x,q (Ft x)) (h3:q (Cb c.name)) (h4:q (Cb c.data)) (h5:q (Dy (c.lines.map Cb))) (h6:q (J6 c.over)): ∀ y∈([Fu c.kind]++K3 c++IH c)++L5 c,q y:=by
 intro y hy
 simp only[Ai,B1]at hy
 rcases hy with ((rfl|hy)|hy)|hy
 ·exact h1 _
 ·unfold K3 at hy
  split at hy
  ·simp only[B1]at hy;subst hy;exact h2 _
  ·cases hy
 ·unfold IH at hy
  repeat' split at hy
  all_goals simp only[AQ,BF,or_false]at hy
  ·subst hy;exact h1 _
  ·rcases hy with rfl|rfl
   ·exact h2 _
   ·exact h3
  ·subst hy;exact h1 _
  ·subst hy;exact h4
  ·rcases hy with rfl|rfl<;>exact h2 _
 ·unfold L5 at hy
  repeat' split at hy
  all_goals simp only[AQ,BF,or_false]at hy
  ·subst hy;exact h5
  ·subst hy;exact h6
theorem pR (c:Chg):(([Fu c.kind]++K3 c++IH c)++L5 c).length≤5:=by
 have h1:=R6 c
 have h2:=R5 c
 have h3:(L5 c).length≤1:=by unfold L5;repeat' split
                             all_goals simp
 simp only[A8,CJ];omega
theorem rj (d:Nat) {c:Chg} (h:W8 c):Oh (d+4) (Ky c):=
 MJ (W7 (fun n=>aF (d+2) n) (fun x=>gz (d+1) x) (K8 (d+2) (by have:=h.name;omega)) (K8 (d+2) (by have:=h.data;omega))
  (MJ fun y hy=>by
   obtain⟨s,hs,rfl⟩:=AU.1 hy
   exact K8 (d+1) (by have:=h.line s hs;omega)) (mw d c.over))
theorem kC (d:Nat) (c:Chg):(([Fu c.kind]++K3 c++IH c).map (IQ (d+3))).sum≤12:=by
 have h:=FR (l:= [Fu c.kind]++K3 c++IH c) (f:=IQ (d+3)) (B:=3) fun y hy=>by
  simp only[Ai,B1]at hy
  rcases hy with (rfl|hy)|hy
  ·rw[TU (d+2)];decide
  ·unfold K3 at hy
   split at hy
   ·simp only[B1]at hy;subst hy;rw[XA (d+1)];decide
   ·cases hy
  ·unfold IH at hy
   repeat' split at hy
   all_goals simp only[AQ,BF,or_false]at hy
   ·subst hy;rw[TU (d+2)];decide
   ·rcases hy with rfl|rfl
    ·rw[XA (d+1)];decide
    ·rw[XB (d+2)];decide
   ·subst hy;rw[TU (d+2)];decide
   ·subst hy;rw[XB (d+2)];decide
   ·rcases hy with rfl|rfl<;>(rw[XA (d+1)];decide)
 have h1:=R6 c
 have h2:=R5 c
 simp only[A8,CJ]at h
 omega
theorem oQ (d:Nat) (c:Chg):((L5 c).map (IQ (d+3))).sum≤3*PR c:=by
 unfold L5 PR
 repeat' split
 ·simp only[BG,CY,GW,Ot]
  rw[OT (d+2),DI]
  have:=FR (l:=c.lines) (f:=IQ (d+2) ∘ Cb) (B:=1) fun s _=>B5 _
  omega
 ·simp only[BG,CY,GW,Ot]
  have:=oO d c.over
  omega
 ·simp
theorem su (d:Nat) (c:Chg):IQ (d+4) (Ky c)≤13+3*PR c:=by
 rw[Ky,OT,Az,KS]
 have h1:=kC d c
 have h2:=oQ d c
 omega
theorem Y1 {α:Type} {l:List α} {f g:α→Nat} {a b:Nat} (h: ∀ s∈l,f s≤a+b*g s):(l.map f).sum≤l.length*a+b*(l.map g).sum:=by
 induction l with
 |nil=>simp
 |cons x l ih=>
  have h1:=h x (by simp)
  have h2:=ih fun s hs=>h s (by simp[hs])
  simp only[BG,GW,AH,Bq,Nat.mul_add];omega
theorem tA (d:Nat) {c:Chg} (h:W8 c):(Da (d+4) (Ky c)).length≤650000:=by
 rw[Ky,Mn]
 have h1:=FR (f:=fun y=>(Da (d+3) y).length) (B:=121000) (W7 (c:=c) (q:=fun y=>(Da (d+3) y).length≤121000) (fun n=>CX (bH (d+2) n) (by decide)) (fun x=>CX (kI (d+1) x) (by decide))
  (CX (Ja (d+2) (s:=c.name) (by have:=h.name;omega)) (by have:=h.name;omega)) (CX (Ja (d+2) (s:=c.data) (by have:=h.data;omega)) (by have:=h.data;omega))
  (by
   rw[Mn (d+2),DI]
   have:=FR (l:=c.lines) (f:=(fun a=>(Da (d+2) a).length) ∘ Cb) (B:=3016) fun s hs=>by
    have h3:=h.line s hs
    exact CX (Ja (d+1) (s:=s) (by omega)) (by omega)
   have:=h.lines;omega)
  (by have:=oX d c.over;have:=h.over;omega))
 have h2:=Au 121000 (pR c)
 omega
theorem Mj {α:Type} {l:List α} {f:α→Nat} {a:α} (h:a∈l):f a≤(l.map f).sum:=by
 induction l with
 |nil=>cases h
 |cons x l ih=>
  simp only[BG,GW]
  rcases AQ.1 h with rfl|h
  ·omega
  ·have:=ih h;omega
theorem Rv {p:Pat} (h:HZ p=false):p.author.length≤3000∧p.message.length≤3000∧p.deps.length≤20∧p.changes.length≤20∧ ∀ c∈p.changes,W8 c:=by
 unfold HZ at h
 simp only[Bc,A7,FE]at h
 obtain⟨⟨⟨h1,h2⟩,h3⟩,h4⟩:=h
 have ht:ez p=p.author.length+p.message.length+(p.changes.map Kc).sum:=rfl
 refine⟨by omega,by omega,by omega,by omega,fun c hc=>?_⟩
 have h5:=h1 c hc
 simp only[nb,uV,mH,Bc,A7]at h5
 obtain⟨⟨h6,h7⟩,h8⟩:=h5
 have h9:=Mj (f:=Kc) hc
 have h10:Kc c=c.name.length+c.data.length:=rfl
 refine⟨by omega,fun s hs=>?_,by omega,by omega,by omega⟩
 have:=Mj (f:=List.length) hs
 unfold LP at h7
 omega
theorem UE {p:Pat} (h:HZ p=false):EE p=false:=by
 obtain⟨h1,h2,h3,h4,h5⟩:=Rv h
 have hs:=FR (l:=p.changes) (f:=PR) (B:=81) fun c hc=>by have a:=(h5 c hc).lines;have b:=(h5 c hc).over;unfold PR;omega
 unfold HZ at h
 unfold EE
 simp only[Bc,A7,FE]at h ⊢
 obtain⟨⟨⟨g1,g2⟩,g3⟩,g4⟩:=h
 refine⟨⟨⟨⟨fun c hc=>?_,by omega⟩,by omega⟩,by omega⟩,by omega⟩
 have k1:=g1 c hc
 have k2: ¬3000 < (Kc c:Int):=by
  have:=Mj (f:=Kc) hc
  have ht:ez p=p.author.length+p.message.length+(p.changes.map Kc).sum:=rfl
  omega
 simp only[mH]at k1
 simp[k1,k2]
theorem IW {p:Pat} (h:EE p=false):p.author.length≤30000∧p.message.length≤30000∧p.deps.length≤200∧p.changes.length≤200∧ ∀ c∈p.changes,W8 c:=by
 unfold EE at h
 simp only[Bc,A7,FE]at h
 obtain⟨⟨⟨⟨h1,h2⟩,h3⟩,h4⟩,_⟩:=h
 have ht:ez p=p.author.length+p.message.length+(p.changes.map Kc).sum:=rfl
 refine⟨by omega,by omega,by omega,by omega,fun c hc=>?_⟩
 have h5:=h1 c hc
 simp only[nb,uV,mH,Bc,A7]at h5
 obtain⟨⟨⟨h6,h7⟩,h8⟩,h9⟩:=h5
 have h10:Kc c=c.name.length+c.data.length:=rfl
 refine⟨by omega,fun s hs=>?_,by omega,by omega,by omega⟩
 have:=Mj (f:=List.length) hs
 unfold LP at h7
 omega
theorem pc {p:Pat} (h:EE p=false):(p.changes.map PR).sum≤2000:=by
 unfold EE at h
 simp only[Bc,A7]at h
 omega
theorem Nw {p:Pat} (h:EE p=false):W3 p:=by
 obtain⟨h1,h2,h3,h4,h5⟩:=IW h
 have hsum:=pc h
 refine⟨by omega,by omega,fun c hc=>⟨by have:=(h5 c hc).lines;omega,by have:=(h5 c hc).over;omega⟩,⟨?_,?_⟩,?_⟩
 ·refine MJ (d:=7) fun y hy=>?_
  simp only[AQ,BF,or_false]at hy
  rcases hy with rfl|rfl|rfl|rfl|rfl|rfl
  ·exact K8 6 (by decide)
  ·exact K8 6 (by omega)
  ·exact K8 6 (by omega)
  ·exact aF 6 _
  ·exact MJ fun y hy=>by obtain⟨x,_,rfl⟩:=AU.1 hy;exact iA 5 x
  ·exact MJ fun y hy=>by obtain⟨x,hx,rfl⟩:=AU.1 hy;exact rj 2 (h5 x hx)
 ·rw[Wt,OT 7]
  simp only[BG,CY,GW,Ot,XB 6,TU 6,OT 6,DI]
  have e1:=FR (l:=p.deps) (f:=IQ 6 ∘ KB) (B:=1) fun x _=>Db (kB 5 x)
  have e2:=Y1 (l:=p.changes) (f:=IQ 6 ∘ Ky) (g:=PR) (a:=13) (b:=3) fun x _=>su 2 x
  have e3:=Au 13 h4
  omega
 ·rw[NN,Wt,Mn 7]
  simp only[BG,CY,GW,Ot]
  have e0:(Da 7 (Cb [113,117,105,108,116,49])).length≤22:=Ja 6 (s:= [113,117,105,108,116,49]) (by decide)
  have e1:(Da 7 (Cb p.author)).length≤16+p.author.length:=Ja 6 (s:=p.author) (by omega)
  have e2:(Da 7 (Cb p.message)).length≤16+p.message.length:=Ja 6 (s:=p.message) (by omega)
  have e3:(Da 7 (Fu p.time)).length≤32:=bH 6 p.time
  have e8:(Da 7 (Dy (p.deps.map KB))).length=2+((p.deps.map KB).map fun a=>(Da 6 a).length).sum:=Mn 6 _
  have e9:(Da 7 (Dy (p.changes.map Ky))).length=2+((p.changes.map Ky).map fun a=>(Da 6 a).length).sum:=Mn 6 _
  rw[DI]at e8 e9
  have e4:=FR (l:=p.deps) (f:=(fun a=>(Da 6 a).length) ∘ KB) (B:=48) fun x _=>kJ 5 x
  have e5:=FR (l:=p.changes) (f:=(fun a=>(Da 6 a).length) ∘ Ky) (B:=650000) fun x hx=>tA 2 (h5 x hx)
  have e6:=Au 650000 h4
  have e7:=Au 48 h3
  omega
def Cc (p:Pat):Str × Int:=if(Cq p).2≠0 then([],(Cq p).2)else KC p
theorem QG (p:Pat):(Cc p).1.length≤65536:=by
 unfold Cc KC
 split
 ·simp
 ·split
  ·simp
  ·dsimp only;omega
instance u7 (p:Pat) [hs:B3 (EE p=false)]:Bl Tryz.prog 167 [.agg (CP p)] (.tuple [.str (Cc p).1,.raw (.int .i64 (Cc p).2)]):=⟨by
 have i1:B3 (W3 p):=⟨Nw hs.out⟩
 refine Ak Tryz.func167 Tryz.ntmps167 rfl (rs:= [.tmp 2,.tmp 3]) rfl rfl fun hb LF=>?_
 refine DB fun b=>?_
 refine AL (fun h=>?_) (fun h=>?_)
 ·refine Ad ?_
  refine GM ?_
  rw[Cc,if_pos h]
  exact .refl _
 ·refine Ad ?_
  refine GM ?_
  rw[Cc,if_neg (by simp[h])]
  exact .refl _⟩
instance vH (p:Pat) [hs:B3 (EE p=false)]:Bl Tryz.prog 169 [.agg (CP p)] (.raw (.int .i64 (Cc p).2)):=⟨by
 refine Ak Tryz.func169 Tryz.ntmps169 rfl (rs:= [.tmp 2]) rfl rfl fun hb LF=>?_
 refine DB fun b=>?_
 exact Ah (.refl _)⟩
def EF (p:Pat):Dig × Int:=if(Cc p).2≠0 then(Dig.zero,(Cc p).2)else(fA (Cc p).1,0)
instance yy (p:Pat) [hs:B3 (EE p=false)]:Bl Tryz.prog 120 [.agg (CP p)] (.tuple [.agg (eDig (EF p).1),.raw (.int .i64 (EF p).2)]):=⟨by
 have i1:B3 ((Cc p).1.length≤1000000):=⟨by have:=QG p;omega⟩
 refine Ak Tryz.func120 Tryz.ntmps120 rfl (rs:= [.cell 2 45,.tmp 3]) rfl rfl fun hb LF=>?_
 refine DB fun b=>?_
 refine FI fun b2=>?_
 refine AL (fun h=>?_) (fun h=>?_)
 ·refine Ad ?_
  refine DX rfl (.of_eq ?_)
  rw[EF,if_pos h]
 ·refine Ad ?_
  refine DX rfl (.of_eq ?_)
  rw[EF,if_neg (by simp[h])]⟩
end Go.Proofs
namespace Go.Q
open Go
structure tr {α β:Type} (B:α→β→Prop):Prop where
 out: ∀ a b,B a b
section
variable {P:Program} {N:Nat} {all:Array Oper} {K:Env→List Res→Prop} {fl:List Bool} {os:List Oper} {ρ:Env} {L:List Res} {Q:PPost} {c:Code} {d:Nat} {ty:TypeId} {pos:String} {af:Array Edge}
theorem sU (i:Nat) (x:PV) (hx:ρ i=x) (k:Bd x→EG P N c Q ρ L):EG P N c Q ρ L:=fun ro base a w g hs=>k (hx ▸ (hs.agr.slot i).bd) ro base a w g hs
theorem sH {T sz by_:Nat} [hE:Fy P T sz by_] {x0 x1 x2 x3:Operand} {a0 a1 a2 a3:PV} {α:Type} {f:α→List PV} {e0 e1 e2 e3:α} (q0:ρ.ev x0=a0) (q1:ρ.ev x1=a1) (q2:ρ.ev x2=a2) (q3:ρ.ev x3=a3) [hC0:Fx a0 f e0] [hC1:Fx a1 f e1] [hC2:Fx a2 f e2] [hC3:Fx a3 f e3] [hf:Kz f sz] (h24:4*sz≤16777216)
  (k: ∀ t,AY P N all K fl.tail os (CN ρ d (.slice ([e0,e1,e2,e3].map f) t)) (.tok t [e0,e1,e2,e3].length sz::L)) (hd:Nat.blt d N=true:=by rfl) (hfl:fl.headD true=true:=by rfl):AY P N all K fl (⟨some d,.buildSlice T 4 #[(0,x0),(1,x1),(2,x2),(3,x3)],ty,pos,af,none⟩::os) ρ L:=
 Dr rfl (Qn hd) hfl (dJ (n:=4) (xs:= [x0,x1,x2,x3]) (cs:= [e0,e1,e2,e3].map f) rfl rfl h24 (by decide) (fun i h1 h2=>by
  match i,h1,h2 with
  |0,_,_=>exact⟨q0 ▸ hC0.out,hf.out e0⟩
  |1,_,_=>exact⟨q1 ▸ hC1.out,hf.out e1⟩
  |2,_,_=>exact⟨q2 ▸ hC2.out,hf.out e2⟩
  |3,_,_=>exact⟨q3 ▸ hC3.out,hf.out e3⟩
  |m+4,h1,_=>exact absurd h1 (by simp only[AH,Aa];omega)) k)
theorem my {A:Prop} {B:Nat→CW→Prop} (k: ∀ b t,B b t) (h:tr B→A:=by
  intro hB
  refine iB ?_
  first|refine YO (by rfl) fun b=>?_|refine BR fun b=>?_
  refine iB ?_
  refine sH (by(conv=>lhs;whnf);done) (by(conv=>lhs;whnf);done) (by(conv=>lhs;whnf);done) (by(conv=>lhs;whnf);done) (hC0:=(by first|infer_instance|fail)) (hC1:=(by first|infer_instance|fail)) (hC2:=(by first|infer_instance|fail)) (hC3:=(by first|infer_instance|fail)) (hf:=(by first|infer_instance|fail)) (by decide) fun t=>?_
  refine Ad ?_
  exact hB.out b t):A:=h ⟨k⟩
end
def Ej (l:List Dig):Prop:=l.Pairwise Dig.lt
theorem Ej.nil:Ej []:=List.Pairwise.nil
theorem Ej.nodup {l:List Dig} (h:Ej l):l.Nodup:=List.Pairwise.imp (fun h=>Dig.ne_of_lt h) h
theorem RL {x d:Dig}: ∀ {l:List Dig},x∈Gn l d↔x=d∨x∈l
 | []=>by simp[Gn]
 |y::l=>by
  unfold Gn
  split
  ·simp only[AQ,RL (l:=l)]
   constructor
   ·rintro(h|h|h)
    ·exact .inr (.inl h)
    ·exact .inl h
    ·exact .inr (.inr h)
   ·rintro(h|h|h)
    ·exact .inr (.inl h)
    ·exact .inl h
    ·exact .inr (.inr h)
  ·split
   ·rename_i h;subst h
    simp only[AQ]
    constructor
    ·exact .inr
    ·rintro(h|h)
     ·exact .inl h
     ·exact h
   ·simp only[AQ]
theorem VC {d:Dig}: ∀ {l:List Dig},Ej l→Ej (Gn l d)
 | [],_=>by unfold Gn;exact En _ _
 |y::l,h=>by
  obtain⟨h1,h2⟩:=Ba.1 h
  unfold Gn
  split
  ·rename_i hy
   refine Ba.2 ⟨fun z hz=>?_,VC h2⟩
   rcases RL.1 hz with rfl|hz
   ·exact hy
   ·exact h1 z hz
  ·rename_i hy
   split
   ·exact h
   ·rename_i hne
    have hlt:Dig.lt d y:=by
     rcases Dig.tri d y with h'|h'|h'
     ·exact h'
     ·exact absurd h'.symm hne
     ·exact absurd h' hy
    refine Ba.2 ⟨fun z hz=>?_,h⟩
    rcases AQ.1 hz with rfl|hz
    ·exact hlt
    ·exact Dig.lt_trans hlt (h1 z hz)
theorem eD {l:List Dig} {d:Dig}:(Gn l d).length≤l.length+1:=by
 induction l with
 |nil=>simp[Gn]
 |cons y l ih=>
  unfold Gn
  split
  ·simp only[AH];omega
  ·split<;>simp only[AH]<;>omega
theorem Ej.ext: ∀ {l m:List Dig},Ej l→Ej m→(∀ d,d∈l↔d∈m)→l=m
 | [],[],_,_,_=>rfl
 | [],y::m,_,_,h=>absurd ((h y).2 (by simp)) (by simp)
 |x::l,[],_,_,h=>absurd ((h x).1 (by simp)) (by simp)
 |x::l,y::m,hl,hm,h=>by
  obtain⟨l1,l2⟩:=Ba.1 hl
  obtain⟨m1,m2⟩:=Ba.1 hm
  have e:x=y:=by
   rcases AQ.1 ((h x).1 (by simp))with h1|h1
   ·exact h1
   ·rcases AQ.1 ((h y).2 (by simp))with h2|h2
    ·exact h2.symm
    ·exact absurd (l1 y h2) (Dig.lt_asymm (m1 x h1))
  subst e
  congr 1
  refine Ej.ext l2 m2 fun d=>?_
  have hd:=h d
  simp only[AQ]at hd
  constructor
  ·intro h1
   rcases hd.1 (.inr h1)with h2|h2
   ·subst h2;exact absurd (l1 _ h1) (Dig.lt_irrefl _)
   ·exact h2
  ·intro h1
   rcases hd.2 (.inr h1)with h2|h2
   ·subst h2;exact absurd (m1 _ h1) (Dig.lt_irrefl _)
   ·exact h2
def CU (l m:List Dig):List Dig:=m.foldl Gn l
theorem Ec {x:Dig}: ∀ {m l:List Dig},x∈CU l m↔x∈l∨x∈m
 | [],l=>by simp[CU]
 |d::m,l=>by
  show x∈CU (Gn l d) m↔_
  rw[Ec,RL,AQ]
  constructor
  ·rintro((h|h)|h)
   ·exact .inr (.inl h)
   ·exact .inl h
   ·exact .inr (.inr h)
  ·rintro(h|h|h)
   ·exact .inl (.inr h)
   ·exact .inl (.inl h)
   ·exact .inr h
theorem Eb: ∀ {m l:List Dig},Ej l→Ej (CU l m)
 | [],_,h=>h
 |d::m,l,h=>by show Ej (CU (Gn l d) m);exact Eb (VC h)
theorem NV: ∀ {m l:List Dig},(CU l m).length≤l.length+m.length
 | [],_=>by simp[CU]
 |d::m,l=>by
  show(CU (Gn l d) m).length≤_
  have h1:=NV (m:=m) (l:=Gn l d)
  have h2:=eD (l:=l) (d:=d)
  simp only[AH];omega
theorem Eh {α:Type} [DecidableEq α] {l:List α} (hl:l.Nodup) {m:List α} (h: ∀ d∈l,d∈m):l.length≤m.length:=by
 induction l generalizing m with
 |nil=>simp
 |cons x l ih=>
  obtain⟨h1,h2⟩:=CH.1 hl
  have hx:x∈m:=h x (by simp)
  have:=ih h2 (m:=m.erase x) fun d hd=>by
   have hne:d≠x:=fun e=>h1 (e ▸ hd)
   exact(List.mem_erase_of_ne hne).2 (h d (by simp[hd]))
  rw[List.length_erase_of_mem hx]at this
  have hp:0 < m.length:=List.length_pos_of_mem hx
  simp only[AH];omega
def PJ (nd:Dig→List Dig) (out:List Dig):List Dig:=out.foldl (fun m x=>CU m (nd x)) out
def K6 (nd:Dig→List Dig):Nat→List Dig→List Dig
 |0,out=>out
 |n+1,out=>K6 nd n (PJ nd out)
inductive Reach (nd:Dig→List Dig) (ids:List Dig):Dig→Prop
 |base {d:Dig} (h:d∈ids):Reach nd ids d
 |step {x d:Dig} (h:Reach nd ids x) (hd:d∈nd x):Reach nd ids d
section
variable {nd:Dig→List Dig}
theorem RN {y:Dig}: ∀ {l m:List Dig},y∈l.foldl (fun m x=>CU m (nd x)) m↔y∈m∨ ∃ x∈l,y∈nd x
 | [],m=>by simp
 |x::l,m=>by
  rw[EJ,RN,Ec]
  simp only[AQ,exists_eq_or_imp]
  rw[or_assoc]
theorem RY: ∀ {l m:List Dig},Ej m→Ej (l.foldl (fun m x=>CU m (nd x)) m)
 | [],_,h=>h
 |x::l,m,h=>by rw[EJ];exact RY (Eb h)
theorem JL {y:Dig} {out:List Dig}:y∈PJ nd out↔y∈out∨ ∃ x∈out,y∈nd x:=RN
theorem PH {out:List Dig} (h:Ej out):Ej (PJ nd out):=RY h
theorem RR: ∀ {n:Nat} {out:List Dig},Ej out→Ej (K6 nd n out)
 |0,_,h=>h
 |n+1,_,h=>RR (n:=n) (PH h)
theorem Rp {ids:List Dig}: ∀ {n:Nat} {out:List Dig},(∀ d∈out,Reach nd ids d)→ ∀ d∈K6 nd n out,Reach nd ids d
 |0,_,h=>h
 |n+1,out,h=>Rp (n:=n) fun d hd=>by
  rcases JL.1 hd with h1|⟨x,hx,h1⟩
  ·exact h d h1
  ·exact .step (h x hx) h1
theorem ZC {U:List Dig} (hU: ∀ x∈U,∀ d∈nd x,d∈U): ∀ {n:Nat} {out:List Dig},(∀ d∈out,d∈U)→ ∀ d∈K6 nd n out,d∈U
 |0,_,h=>h
 |n+1,out,h=>ZC hU (n:=n) fun d hd=>by
  rcases JL.1 hd with h1|⟨x,hx,h1⟩
  ·exact h d h1
  ·exact hU x (h x hx) d h1
theorem Vm: ∀ {n:Nat} {out:List Dig} {d:Dig},d∈out→d∈K6 nd n out
 |0,_,_,h=>h
 |n+1,_,_,h=>Vm (n:=n) (JL.2 (.inl h))
theorem QQ {U:List Dig} (hU: ∀ x∈U,∀ d∈nd x,d∈U): ∀ {n:Nat} {out:List Dig},Ej out→(∀ d∈out,d∈U)→U.length+1≤out.length+n∨out= []∨(∀ x∈out,∀ d∈nd x,d∈out)→ ∀ x∈K6 nd n out,∀ d∈nd x,d∈K6 nd n out
 |0,out,ha,hu,h=>by
  rcases h with h|h|h
  ·have:=Eh ha.nodup hu
   omega
  ·subst h;intro x hx;cases hx
  ·exact h
 |n+1,out,ha,hu,h=>by
  have hu': ∀ d∈PJ nd out,d∈U:=ZC hU (n:=1) hu
  refine QQ hU (n:=n) (PH ha) hu' ?_
  by_cases hc: ∀ x∈out,∀ d∈nd x,d∈out
  ·refine .inr (.inr ?_)
   have e:PJ nd out=out:=Ej.ext (PH ha) ha fun d=>by
    rw[JL]
    constructor
    ·rintro(h1|⟨x,hx,h1⟩)
     ·exact h1
     ·exact hc x hx d h1
    ·exact .inl
   rw[e];exact hc
  ·rcases h with h|h|h
   ·refine .inl ?_
    have:out.length+1≤(PJ nd out).length:=by
     have⟨x,hx⟩:=Xr.1 hc
     have⟨hx1,hx2⟩:=Classical.not_imp.1 hx
     have⟨d,hd⟩:=Xr.1 hx2
     have⟨hd1,hd2⟩:=Classical.not_imp.1 hd
     have hn:(d::out).Nodup:=CH.2 ⟨hd2,ha.nodup⟩
     have:=Eh hn (m:=PJ nd out) fun y hy=>by
      rcases AQ.1 hy with rfl|hy
      ·exact JL.2 (.inr ⟨x,hx1,hd1⟩)
      ·exact JL.2 (.inl hy)
     simpa using this
    omega
   ·subst h
    exact absurd (fun x hx=>by cases hx) hc
   ·exact absurd h hc
theorem OV {U ids:List Dig} (hU: ∀ x∈U,∀ d∈nd x,d∈U) (hi: ∀ d∈ids,d∈U) {n:Nat} (hn:U.length≤n) {d:Dig}:d∈K6 nd n (CU [] ids)↔Reach nd ids d:=by
 have hin: ∀ d∈CU [] ids,d∈U:=fun d hd=>by
  rcases Ec.1 hd with h|h
  ·cases h
  ·exact hi d h
 refine⟨fun h=>Rp (fun d hd=>?_) d h,fun h=>?_⟩
 ·rcases Ec.1 hd with h|h
  ·cases h
  ·exact .base h
 ·have ha:Ej (CU [] ids):=Eb .nil
  have hcl:=QQ (nd:=nd) hU (n:=n) ha hin (by
   cases hw:CU [] ids with
   |nil=>exact .inr (.inl rfl)
   |cons x l=>exact .inl (by simp;omega))
  induction h with
  |base h=>exact Vm (Ec.2 (.inr h))
  |step h hd ih=>exact hcl _ ih _ hd
theorem Reach.in_ {U ids:List Dig} (hU: ∀ x∈U,∀ d∈nd x,d∈U) (hi: ∀ d∈ids,d∈U) {d:Dig} (h:Reach nd ids d):d∈U:=by
 induction h with
 |base h=>exact hi _ h
 |step h hd ih=>exact hU _ ih _ hd
end
section
variable (clo:Dig→List Dig)
end
end Go.Q
namespace Go.Proofs
open Go Go.Q
attribute [local irreducible] EG AY B2 FZ
def RB (c:Chg):List Ident:= [c.file,c.parent,c.after,c.before]++c.over
def FU (l:List Ident):List Dig:=(l.filter fun x=>!decide (x.patch=Dig.zero)).map (·.patch)
def OI (m:List Dig) (c:Chg):List Dig:=CU m (FU (RB c))
def Bf (p:Pat):List Dig:=if(Cc p).2≠0 then []else p.changes.foldl OI (CU [] p.deps)
theorem K7 (l m:List Dig) (d:Dig):CU l (m++ [d])=Gn (CU l m) d:=by
 unfold CU;rw[DR];rfl
theorem Wy (l:List Ident):(FU l).length≤l.length:=by
 unfold FU;rw[AR];exact Cv _ _
theorem UV {l:List Ident} {k:Nat} (h:k < l.length):FU (l.take (k+1))=FU (l.take k)++(if l[k].patch=Dig.zero then []else [l[k].patch]):=by
 unfold FU
 rw[A6 h,Du,Az]
 by_cases hz:l[k].patch=Dig.zero<;>simp[hz]
instance xR (p:Pat) [hs:B3 (EE p=false)]:Bl Tryz.prog 123 [.agg (CP p)] (.slice ((Bf p).map eDig) .ro):=⟨by
 obtain⟨_,_,hd,hch,hcs⟩:=IW hs.out
 refine Ak Tryz.func123 Tryz.ntmps123 rfl (rs:= [.tmp 2]) rfl rfl fun hb LF=>?_
 refine DB fun b=>?_
 refine AL (fun h=>?_) (fun h=>?_)
 ·refine Ad ?_
  refine Ah ?_
  rw[Bf,if_pos h]
  exact .ro _ _
 rw[Bf,if_neg (by simp[h])]
 refine Ad ?_
 refine AW (σ:=Nat × List Dig × CW) (fun k=>k.1≤p.deps.length∧k.2.1=CU [] (p.deps.take k.1)) (fun k=>p.deps.length - k.1) (fun k=> [(1,.raw (.pointer (some ⟨b,0,none⟩))),(3,.slice (k.2.1.map eDig) k.2.2),(4,.raw (.int .i64 k.1))]) (fun _=> .box b 42 (CP p)::LF) (0,[],.nil) ⟨by simp,by simp[CU]⟩ ⟨rfl,rfl,rfl⟩ (.refl _) ?_
 rintro⟨k,out,t⟩ ⟨hk,ho⟩
 dsimp only at hk ho ⊢
 have hol:out.length≤200:=by
  rw[ho]
  have:=NV (m:=p.deps.take k) (l:= [])
  simp only[AV,Aa]at this;omega
 refine Ad ?_
 refine A1 (fun hc=>?_) (fun hc=>?_)
 ·have hlt:k < p.deps.length:=by omega
  have:B3 (out.length≤1000000):=⟨by omega⟩
  refine Ad ?_
  refine⟨(k+1,Gn out p.deps[k],.ro),⟨by dsimp only;omega,by dsimp only;rw[A6 hlt,K7,ho]⟩,by dsimp only;omega,⟨rfl,rfl,rfl⟩,.refl _⟩
 rw[AA (by omega)]at ho
 refine Ad ?_
 refine AW (σ:=Nat × List Dig × CW) (fun k=>k.1≤p.changes.length∧k.2.1.length≤200+k.1*44∧k.2.1=(p.changes.take k.1).foldl OI (CU [] p.deps)) (fun k=>p.changes.length - k.1) (fun k=> [(1,.raw (.pointer (some ⟨b,0,none⟩))),(3,.slice (k.2.1.map eDig) k.2.2),(5,.raw (.int .i64 k.1))]) (fun _=> .box b 42 (CP p)::LF) (0,out,t) ⟨by simp,by simp;omega,by simp[ho]⟩ ⟨rfl,rfl,rfl⟩ (.refl _) ?_
 clear ho hol hk hc k out t
 rintro⟨k,out,t⟩ ⟨hk,hol,ho⟩
 dsimp only at hk hol ho ⊢
 refine Ad ?_
 refine A1 (fun hc=>?_) (fun hc=>?_)
 ·have hlt:k < p.changes.length:=by omega
  have hov:=(hcs _ (AK hlt)).over
  refine my fun b2 t2=>?_
  refine IB fun t3=>?_
  generalize hl: [p.changes[k].file,p.changes[k].parent,p.changes[k].after,p.changes[k].before]++p.changes[k].over=l
  have hll:l.length≤44:=by rw[←hl];simp only[A8,AH,Aa];omega
  refine AW (σ:=Nat × List Dig × CW) (fun j=>j.1≤l.length∧j.2.1=CU out (FU (l.take j.1))) (fun j=>l.length - j.1) (fun j=> [(1,.raw (.pointer (some ⟨b,0,none⟩))),(3,.slice (j.2.1.map eDig) j.2.2),(5,.raw (.int .i64 k)),(7,.slice (l.map eIdent) t3),(8,.raw (.int .i64 j.1))]) (fun _=> .box b 42 (CP p)::LF) (0,out,t) ⟨by simp,by simp[FU,CU]⟩ ⟨rfl,rfl,rfl,rfl,rfl⟩ (.cons _ (.cons _ (.refl _))) ?_
  rintro⟨j,m,u⟩ ⟨hj,hm⟩
  dsimp only at hj hm ⊢
  have hml:m.length≤200+k*44+44:=by
   rw[hm]
   have h1:=NV (m:=FU (l.take j)) (l:=out)
   have h2:=Wy (l.take j)
   have h3:(l.take j).length≤44:=by rw[AV];omega
   omega
  refine Ad ?_
  refine A1 (fun hc2=>?_) (fun hc2=>?_)
  ·have hlt2:j < l.length:=by omega
   have e:=UV hlt2
   refine Ad ?_
   refine AL (fun hz=>?_) (fun hz=>?_)
   ·have:B3 (m.length≤1000000):=⟨by omega⟩
    refine Ad ?_
    rw[if_neg hz]at e
    refine⟨(j+1,Gn m l[j].patch,.ro),⟨by dsimp only;omega,by dsimp only;rw[e,K7,hm]⟩,by dsimp only;omega,⟨rfl,rfl,rfl,rfl,rfl⟩,.refl _⟩
   ·refine Ad ?_
    rw[if_pos hz,B6]at e
    refine⟨(j+1,m,u),⟨by dsimp only;omega,by dsimp only;rw[e,hm]⟩,by dsimp only;omega,⟨rfl,rfl,rfl,rfl,rfl⟩,.refl _⟩
  ·refine Ad ?_
   rw[AA (by omega)]at hm
   have e:(p.changes.take (k+1)).foldl OI (CU [] p.deps)=m:=by
    rw[A6 hlt,DR,←ho,hm,←hl];rfl
   refine⟨(k+1,m,u),⟨by dsimp only;omega,by dsimp only;omega,e.symm⟩,by dsimp only;omega,⟨rfl,rfl,rfl⟩,.refl _⟩
 ·refine Ad ?_
  refine Ah ?_
  rw[AA (by omega)]at ho
  rw[←ho]
  exact .ro _ _⟩
def yh (x:Sto):Nat:=(x.patch.changes.map PR).sum
def GD (s:List Sto):Bool:=(s.take 9).any (fun x=>HZ x.patch)||decide (8 < (s.length:Int))||decide (300 < (((s.take 9).map yh).sum:Int))
theorem na {c:Chg} (h:W8 c):PR c≤81:=by have:=h.lines;have:=h.over;unfold PR;omega
instance xU (s:List Sto) (t:CW):Bl Tryz.prog 107 [.slice (s.map eSto) t,.raw (.int .i64 8)] (.raw (.bool (GD s))):=⟨by
 refine Ak Tryz.func107 Tryz.ntmps107 rfl (rs:= [.tmp 4]) rfl rfl fun hb LF=>?_
 have hlen:s.length≤140737488355328:=(hb (.slice (s.map eSto) t) (by simp)).slice_map
 refine Ad ?_
 refine AW (σ:=Nat × Nat) (fun k=>k.1≤s.length∧k.1≤9∧(∀ i (h:i < s.length),i < k.1→HZ s[i].patch=false)∧k.2≤k.1*1620∧k.2=((s.take k.1).map yh).sum) (fun k=>s.length - k.1) (fun k=> [(0,.slice (s.map eSto) t),(1,.raw (.int .i64 8)),(5,.raw (.int .i64 (k.2:Int))),(6,.raw (.int .i64 (k.1:Int)))]) (fun _=>LF) (0,0) ⟨by simp,by simp,by simp,by simp,by simp⟩ ⟨rfl,rfl,rfl,rfl⟩ (.refl _) ?_
 rintro⟨i,n⟩ ⟨hi,hi9,hg,hn,hs⟩
 dsimp only at hi hi9 hg hn hs ⊢
 have fin:(i:Int) < s.length∧(i:Int)≤8∨ ¬((i:Int) < s.length∧(i:Int)≤8):=Classical.em _
 refine Ad ?_
 refine B0 [(16,.raw (.bool (decide ((i:Int) < s.length∧(i:Int)≤8)))),(0,.slice (s.map eSto) t),(1,.raw (.int .i64 8)),(5,.raw (.int .i64 (n:Int))),(6,.raw (.int .i64 (i:Int)))] (LF) ?_ ?_
 ·repeat' (first|(refine A1 (fun h=>?_) (fun h=>?_)<;>refine Ad ?_)|(refine AL (fun h=>?_) (fun h=>?_)<;>refine Ad ?_)|(refine AO (fun h=>?_) (fun h=>?_)<;>refine Ad ?_)|(refine An (fun h=>?_) (fun h=>?_)<;>(have h2:=h;(try simp only[AB,A7,AG,AF]at h2);refine Bz ?_)))
  all_goals (refine⟨⟨BO (by rfl) ?_,rfl,rfl,rfl,rfl⟩,.refl _⟩;first|(simp_all;done)|(simp_all;omega)|grind)
 refine Ad ?_
 clear fin
 refine A1 (fun hc=>?_) (fun hc=>?_)
 ·have hlt:i < s.length:=by omega
  refine Ad ?_
  refine AO (fun h=>?_) (fun h=>?_)
  ·refine Ad ?_
   refine Ah (.of_eq ?_)
   have:(s.take 9).any (fun x=>HZ x.patch)=true:=by
    rw[BW]
    exact⟨s[i],AX.2 ⟨i,by rw[AV];omega,by simp⟩,h⟩
   rw[GD,this];rfl
  obtain⟨_,_,_,hch,hcs⟩:=Rv h
  refine Ad ?_
  refine AW (σ:=Nat × Nat) (fun j=>j.1≤s[i].patch.changes.length∧j.2≤n+j.1*81∧j.2=n+((s[i].patch.changes.take j.1).map PR).sum) (fun j=>s[i].patch.changes.length - j.1) (fun j=> [(0,.slice (s.map eSto) t),(1,.raw (.int .i64 8)),(5,.raw (.int .i64 (j.2:Int))),(6,.raw (.int .i64 (i:Int))),(7,.raw (.int .i64 (j.1:Int)))]) (fun _=>LF) (0,n) ⟨by simp,by simp,by simp⟩ ⟨rfl,rfl,rfl,rfl,rfl⟩ (.refl _) ?_
  rintro⟨j,m⟩ ⟨hj,hm,hms⟩
  dsimp only at hj hm hms ⊢
  refine Ad ?_
  refine A1 (fun hc2=>?_) (fun hc2=>?_)
  ·have hlt2:j < s[i].patch.changes.length:=by omega
   have hco:=hcs _ (AK hlt2)
   have h81:=na hco
   have hl40:=hco.lines
   have ho40:=hco.over
   have e:=MN (f:=PR) hlt2
   have e2:PR s[i].patch.changes[j]=1+s[i].patch.changes[j].lines.length+s[i].patch.changes[j].over.length:=rfl
   refine Ad ?_
   refine⟨(j+1,m+PR s[i].patch.changes[j]),⟨by dsimp only;omega,by dsimp only;omega,by dsimp only;omega⟩,by dsimp only;omega,⟨rfl,rfl,?_,rfl,rfl⟩,.refl _⟩
   show PV.raw (Value.int .i64 _)=PV.raw (Value.int .i64 _)
   congr 2;dsimp only;omega
  ·refine Ad ?_
   rw[AA (by omega)]at hms
   have e:=MN (f:=yh) hlt
   refine⟨(i+1,m),⟨by dsimp only;omega,by dsimp only;omega,fun x hx hxi=>?_,by dsimp only;omega,?_⟩,by dsimp only;omega,⟨rfl,rfl,rfl,rfl⟩,.refl _⟩
   ·rcases BB x i with h'|h'
    ·exact hg x hx h'
    ·have:x=i:=by dsimp only at hxi;omega
     subst this;exact h
   ·dsimp only;rw[e,←hs];exact hms
 ·refine Ad ?_
  have hany:(s.take 9).any (fun x=>HZ x.patch)=false:=by
   rw[FE];intro x hx
   obtain⟨j,hj,rfl⟩:=AX.1 hx
   rw[AV]at hj
   simp only[FA]
   rw[hg j (by omega) (by omega)];simp
  have htk:s.take i=s.take 9:=by
   by_cases h9:i=9
   ·rw[h9]
   ·rw[AA (by omega),AA (by omega)]
  rw[htk]at hs
  have key:GD s=(decide (8 < (s.length:Int))||decide (300 < (n:Int))):=by rw[GD,hany,Ic,←hs]
  rw[key]
  clear key hany hs htk hg
  repeat' (first|(refine A1 (fun h=>?_) (fun h=>?_)<;>refine Ad ?_)|(refine AL (fun h=>?_) (fun h=>?_)<;>refine Ad ?_)|(refine AO (fun h=>?_) (fun h=>?_)<;>refine Ad ?_)|(refine An (fun h=>?_) (fun h=>?_)<;>(have h2:=h;(try simp only[AB,A7,AG,AF]at h2);refine Bz ?_)))
  all_goals (refine Ah (.of_eq ?_);first|(simp_all;done)|grind)⟩
instance vE (s:List Sto) (t:CW):Bl Tryz.prog 49 [.slice (s.map eSto) t] (.raw (.bool (GD s))):=⟨by
 refine Ak Tryz.func49 Tryz.ntmps49 rfl (rs:= [.tmp 2]) rfl rfl fun hb LF=>?_
 refine Ad ?_
 exact Ah (.refl _)⟩
def Dc (s:List Sto):Prop:=s.length≤200∧ ∀ x∈s,EE x.patch=false
def Gg (s:List Sto) (out:List Dig) (k:Int) (i:Nat):Int:=
 if(¬(s.getD i Sto.zero).id∈out∧Ca out (Bf (s.getD i Sto.zero).patch)=true)∧(k < 0∨Dh (s.getD i Sto.zero).id (s.getD k.toNat Sto.zero).id < 0)then(i:Int)else k
def L8 (s:List Sto) (out:List Dig):Int:=(List.range s.length).foldl (Gg s out) (-1)
def Nl (s:List Sto):Nat→List Dig→List Dig
 |0,out=>out
 |n+1,out=>if L8 s out < 0 then out else Nl s n (out++ [(s.getD (L8 s out).toNat Sto.zero).id])
def ED (s:List Sto):List Dig:=Nl s s.length []
theorem LS {s:List Sto} {out:List Dig} (n:Nat): -1≤(List.range n).foldl (Gg s out) (-1)∧(List.range n).foldl (Gg s out) (-1) < n:=by
 induction n with
 |zero=>simp
 |succ n ih=>
  rw[Bn]
  generalize (List.range n).foldl (Gg s out) (-1)=k at ih
  unfold Gg
  split<;>omega
instance xQ (s:List Sto) (t:CW) [hs:B3 (Dc s)]:Bl Tryz.prog 124 [.slice (s.map eSto) t] (.slice ((ED s).map eDig) .ro):=⟨by
 obtain⟨hl8,hgr⟩:=hs.out
 refine Ak Tryz.func124 Tryz.ntmps124 rfl (rs:= [.tmp 2]) rfl rfl fun hb LF=>?_
 refine Ad ?_
 refine Ee 32 ?_
 refine AW (σ:=Nat × List Dig × CW) (fun k=>k.1≤s.length∧k.2.1.length+k.1=s.length∧ED s=Nl s k.1 k.2.1) (fun k=>k.1) (fun k=> [(0,.slice (s.map eSto) t),(3,.slice (k.2.1.map eDig) k.2.2)]) (fun k=> .tok k.2.2 k.2.1.length 32::LF) (s.length,[],.nil) ⟨by simp,by simp,rfl⟩ ⟨rfl,rfl⟩ (.refl _) ?_
 rintro⟨n,out,u⟩ ⟨hn,hol,ho⟩
 dsimp only at hn hol ho ⊢
 refine Ad ?_
 refine A1 (fun hc=>?_) (fun hc=>?_)
 ·obtain⟨m,rfl⟩: ∃ m,n=m+1:=⟨n - 1,by omega⟩
  rw[Nl]at ho
  have hpr:=LS (s:=s) (out:=out) s.length
  refine Ad ?_
  refine AW (σ:=Nat) (fun i=>i≤s.length) (fun i=>s.length - i) (fun i=> [(0,.slice (s.map eSto) t),(3,.slice (out.map eDig) u),(4,.raw (.int .i64 ((List.range i).foldl (Gg s out) (-1)))),(5,.raw (.int .i64 (i:Int)))]) (fun _=> .tok u out.length 32::LF) 0 (by simp) ⟨rfl,rfl,rfl,rfl⟩ (.refl _) ?_
  intro i hi
  have hkr:=LS (s:=s) (out:=out) i
  have hsucc:=Bn (Gg s out) (-1) i
  generalize hkk:(List.range i).foldl (Gg s out) (-1)=k at hkr hsucc ⊢
  refine Ad ?_
  refine A1 (fun hc2=>?_) (fun hc2=>?_)
  ·have hlt:i < s.length:=by omega
   have i1:B3 (EE s[i].patch=false):=⟨hgr _ (AK hlt)⟩
   have e0:s.getD i Sto.zero=s[i]:=by simp[List.getD,hlt]
   rw[Gg,e0]at hsucc
   refine Ad ?_
   refine B0 [(53,.raw (.bool (decide ((¬s[i].id∈out∧Ca out (Bf s[i].patch)=true)∧(k < 0∨Dh s[i].id (s.getD k.toNat Sto.zero).id < 0))))),(0,.slice (s.map eSto) t),(3,.slice (out.map eDig) u),(4,.raw (.int .i64 k)),(5,.raw (.int .i64 (i:Int)))] (.tok u out.length 32::LF) ?_ ?_
   ·repeat' (first|(refine A1 (fun h=>?_) (fun h=>?_)<;>refine Ad ?_)|(refine AL (fun h=>?_) (fun h=>?_)<;>refine Ad ?_)|(refine AO (fun h=>?_) (fun h=>?_)<;>refine Ad ?_)|(refine An (fun h=>?_) (fun h=>?_)<;>(have h2:=h;(try simp only[AB,A7,AG,AF]at h2);refine Bz ?_)))
    all_goals (refine⟨⟨BO (by rfl) ?_,rfl,rfl,rfl,rfl⟩,.refl _⟩;first|(simp_all;done)|(have hkl:k.toNat < s.length:=(by omega);simp_all[List.getD];done)|grind)
   refine Ad ?_
   refine A1 (fun h=>?_) (fun h=>?_)
   ·refine Ad ?_
    rw[if_pos h]at hsucc
    refine⟨i+1,by omega,by dsimp only;omega,⟨rfl,rfl,?_,rfl⟩,.refl _⟩
    rw[hsucc];rfl
   ·refine Ad ?_
    rw[if_neg h]at hsucc
    refine⟨i+1,by omega,by dsimp only;omega,⟨rfl,rfl,?_,rfl⟩,.refl _⟩
    rw[hsucc];rfl
  ·have hii:i=s.length:=by omega
   subst hii
   have hpk:L8 s out=k:=hkk
   rw[hpk]at ho
   refine Ad ?_
   refine A1 (fun h=>?_) (fun h=>?_)
   ·refine Ad ?_
    rw[if_pos h]at ho
    refine Ah ?_
    rw[ho];exact .ro _ _
   ·rw[if_neg h]at ho
    have hkl:k.toNat < s.length:=by omega
    have e0:s.getD k.toNat Sto.zero=s[k.toNat]:=by simp[List.getD,hkl]
    rw[e0]at ho
    refine Hh fun u'=>?_
    refine⟨(m,out++ [s[k.toNat].id],u'),⟨by dsimp only;omega,by dsimp only;rw[A8,CJ];omega,ho⟩,by dsimp only;omega,⟨rfl,rfl⟩,.refl _⟩
 ·refine Ad ?_
  have hn0:n=0:=by omega
  subst hn0
  refine Ah ?_
  rw[ho];exact .ro _ _⟩
theorem Tj:EE Pat.zero=false:=by simp[EE,Pat.zero,ez]
theorem Mi:Bf Pat.zero= []:=by
 have h:(Cc Pat.zero).2≠0:=by simp[Cc,Cq,EK,Pat.zero]
 rw[Bf,if_pos h]
theorem Km {s:List Sto} {d:Dig} {p:Pat} (h:getS s d=some p): ∃ x∈s,x.id=d∧x.patch=p:=by
 induction s with
 |nil=>cases h
 |cons y s ih=>
  unfold getS at h
  split at h
  ·rename_i he
   exact⟨y,by simp,he,by simpa using h⟩
  ·obtain⟨x,hx,h1⟩:=ih h
   exact⟨x,by simp[hx],h1⟩
def ndS (s:List Sto) (d:Dig):List Dig:=Bf ((getS s d).getD Pat.zero)
def La (s:List Sto):Prop:=Dc s∧ ∀ x∈s,∀ d∈Bf x.patch,d∈ids s
theorem La.great {s:List Sto} (h:La s) (d:Dig):EE ((getS s d).getD Pat.zero)=false:=by
 cases hg:getS s d with
 |none=>exact Tj
 |some p=>
  obtain⟨x,hx,_,rfl⟩:=Km hg
  exact h.1.2 x hx
theorem La.nd {s:List Sto} (h:La s) (x:Dig): ∀ d∈ndS s x,d∈ids s:=by
 unfold ndS
 cases hg:getS s x with
 |none=>rw[Option.getD_none,Mi];intro d hd;cases hd
 |some p=>
  obtain⟨y,hy,_,rfl⟩:=Km hg
  exact h.2 y hy
theorem Dj (s:List Sto):(ids s).length=s.length:=by simp[ids]
theorem La.small {s:List Sto} (h:La s) {l:List Dig} (ha:Ej l) (hl: ∀ d∈l,d∈ids s):l.length≤200:=by
 have h1:=Eh ha.nodup hl
 have h2:=h.1.1
 rw[Dj]at h1;omega
def DC (s:List Sto) (l:List Dig):List Dig × Int:=if Ca (ids s) l=false then([],7)else(K6 (ndS s) s.length (CU [] l),0)
instance uB (s:List Sto) (l:List Dig) (t u:CW) [hs:B3 (La s)]:Bl Tryz.prog 108 [.slice (s.map eSto) t,.slice (l.map eDig) u] (.tuple [.slice ((DC s l).1.map eDig) .ro,.raw (.int .i64 (DC s l).2)]):=⟨by
 have hcl:=hs.out
 have hl8:=hcl.1.1
 refine Ak Tryz.func108 Tryz.ntmps108 rfl (rs:= [.tmp 4,.tmp 5]) rfl rfl fun hb LF=>?_
 have hlen:l.length≤140737488355328:=(hb (.slice (l.map eDig) u) (by simp)).slice_map
 refine Ad ?_
 refine AO (fun h=>?_) (fun h=>?_)
 ·refine Ad ?_
  refine GM ?_
  rw[DC,if_pos (by simpa using h)]
  exact .tuple2 (.ro _ _) (.refl _)
 rw[DC,if_neg (by simpa using h)]
 have hin: ∀ d∈l,d∈ids s:=by
  have h':Ca (ids s) l=true:=by simpa using h
  intro d hd
  have:=Ar.1 h' d hd
  simpa using this
 refine Ad ?_
 refine AW (σ:=Nat × List Dig × CW) (fun k=>k.1≤l.length∧k.2.1=CU [] (l.take k.1)) (fun k=>l.length - k.1) (fun k=> [(0,.slice (s.map eSto) t),(1,.slice (l.map eDig) u),(6,.slice (k.2.1.map eDig) k.2.2),(7,.raw (.int .i64 k.1))]) (fun _=>LF) (0,[],.nil) ⟨by simp,by simp[CU]⟩ ⟨rfl,rfl,rfl,rfl⟩ (.refl _) ?_
 rintro⟨k,out,v⟩ ⟨hk,ho⟩
 dsimp only at hk ho ⊢
 have hoa:Ej out:=by rw[ho];exact Eb .nil
 have hoi: ∀ d∈out,d∈ids s:=fun d hd=>by
  rw[ho]at hd
  rcases Ec.1 hd with h'|h'
  ·cases h'
  ·exact hin d (Fe h')
 have hol:=hcl.small hoa hoi
 refine Ad ?_
 refine A1 (fun hc=>?_) (fun hc=>?_)
 ·have hlt:k < l.length:=by omega
  have:B3 (out.length≤1000000):=⟨by omega⟩
  refine Ad ?_
  refine⟨(k+1,Gn out l[k],.ro),⟨by dsimp only;omega,by dsimp only;rw[A6 hlt,K7,ho]⟩,by dsimp only;omega,⟨rfl,rfl,rfl,rfl⟩,.refl _⟩
 rw[AA (by omega)]at ho
 refine Ad ?_
 refine AW (σ:=Nat × List Dig × CW) (fun k=>k.1≤s.length∧Ej k.2.1∧(∀ d∈k.2.1,d∈ids s)∧K6 (ndS s) s.length (CU [] l)=K6 (ndS s) (s.length - k.1) k.2.1) (fun k=>s.length - k.1) (fun k=> [(0,.slice (s.map eSto) t),(6,.slice (k.2.1.map eDig) k.2.2),(8,.raw (.int .i64 k.1))]) (fun _=>LF) (0,out,v) ⟨by simp,hoa,hoi,by simp[ho]⟩ ⟨rfl,rfl,rfl⟩ (.refl _) ?_
 clear ho hoa hoi hol hk hc k out v
 rintro⟨n,out,v⟩ ⟨hn,hoa,hoi,ho⟩
 dsimp only at hn hoa hoi ho ⊢
 have hol:=hcl.small hoa hoi
 refine Ad ?_
 refine A1 (fun hc=>?_) (fun hc=>?_)
 ·refine Ad ?_
  refine AW (σ:=Nat × List Dig × CW) (fun i=>i.1≤out.length∧i.2.1=(out.take i.1).foldl (fun m x=>CU m (ndS s x)) out) (fun i=>out.length - i.1) (fun i=> [(0,.slice (s.map eSto) t),(6,.slice (out.map eDig) v),(8,.raw (.int .i64 n)),(9,.slice (i.2.1.map eDig) i.2.2),(10,.raw (.int .i64 i.1))]) (fun _=>LF) (0,out,v) ⟨by simp,by simp⟩ ⟨rfl,rfl,rfl,rfl,rfl⟩ (.refl _) ?_
  rintro⟨i,more,w⟩ ⟨hi,hm⟩
  dsimp only at hi hm ⊢
  have hma:Ej more:=by rw[hm];exact RY hoa
  have hmi: ∀ d∈more,d∈ids s:=fun d hd=>by
   rw[hm]at hd
   rcases RN.1 hd with h'|⟨x,_,h'⟩
   ·exact hoi d h'
   ·exact hcl.nd x d h'
  refine Ad ?_
  refine A1 (fun hc2=>?_) (fun hc2=>?_)
  ·have hlt:i < out.length:=by omega
   have i1:B3 (EE ((getS s out[i]).getD Pat.zero)=false):=⟨hcl.great _⟩
   refine DB fun b=>?_
   have hndl:(Bf ((getS s out[i]).getD Pat.zero)).length≤140737488355328∨True:= .inr trivial
   generalize hnn:Bf ((getS s out[i]).getD Pat.zero)=nd
   have hnd:nd=ndS s out[i]:=by rw[←hnn];rfl
   refine sU (13) (.slice (nd.map eDig) .ro) rfl fun hbd=>?_
   have hndl:nd.length≤140737488355328:=hbd.slice_map
   refine AW (σ:=Nat × List Dig × CW) (fun j=>j.1≤nd.length∧j.2.1=CU more (nd.take j.1)) (fun j=>nd.length - j.1) (fun j=> [(0,.slice (s.map eSto) t),(6,.slice (out.map eDig) v),(8,.raw (.int .i64 n)),(9,.slice (j.2.1.map eDig) j.2.2),(10,.raw (.int .i64 i)),(13,.slice (nd.map eDig) .ro),(14,.raw (.int .i64 j.1))]) (fun _=>LF) (0,more,w) ⟨by simp,by simp[CU]⟩ ⟨rfl,rfl,rfl,rfl,rfl,rfl,rfl⟩ (.cons _ (.refl _)) ?_
   rintro⟨j,m,z⟩ ⟨hj,hj2⟩
   dsimp only at hj hj2 ⊢
   have hml:m.length≤200:=hcl.small (by rw[hj2];exact Eb hma) fun d hd=>by
    rw[hj2]at hd
    rcases Ec.1 hd with h'|h'
    ·exact hmi d h'
    ·exact hcl.nd out[i] d (hnd ▸ Fe h')
   refine Ad ?_
   refine A1 (fun hc3=>?_) (fun hc3=>?_)
   ·have hlt3:j < nd.length:=by omega
    have:B3 (m.length≤1000000):=⟨by omega⟩
    refine Ad ?_
    refine⟨(j+1,Gn m nd[j],.ro),⟨by dsimp only;omega,by dsimp only;rw[A6 hlt3,K7,hj2]⟩,by dsimp only;omega,⟨rfl,rfl,rfl,rfl,rfl,rfl,rfl⟩,.refl _⟩
   ·refine Ad ?_
    rw[AA (by omega)]at hj2
    refine⟨(i+1,m,z),⟨by dsimp only;omega,?_⟩,by dsimp only;omega,⟨rfl,rfl,rfl,rfl,rfl⟩,.refl _⟩
    dsimp only
    rw[A6 hlt,DR,←hm,hj2,hnd];rfl
  ·refine Ad ?_
   rw[AA (by omega)]at hm
   obtain⟨r,hr⟩: ∃ r,s.length - n=r+1:=⟨s.length - n - 1,by omega⟩
   refine⟨(n+1,more,w),⟨by dsimp only;omega,hma,hmi,?_⟩,by dsimp only;omega,⟨rfl,rfl,rfl⟩,.refl _⟩
   dsimp only
   rw[ho,hr,K6,show s.length - (n+1)=r by omega,hm];rfl
 ·refine Ad ?_
  refine GM ?_
  rw[show s.length - n=0 by omega]at ho
  rw[ho]
  exact .tuple2 (.ro _ _) (.refl _)⟩
def pQ (s:List Sto) (p:Dig):List Dig:=(DC s [p]).1
def QU:List Ident→Ident→List Ident
 | [],d=> [d]
 |x::xs,d=>if JO x d < 0 then x::QU xs d else if x=d then x::xs else d::x::xs
theorem SO: ∀ {l:List Ident} {d:Ident} {k:Nat},k≤l.length→(∀ i (h:i < l.length),i < k→JO l[i] d < 0)→(∀ h:k < l.length,¬JO l[k] d < 0)→
  QU l d=if ∃ h:k < l.length,l[k]=d then l else l.take k++d::l.drop k
 | [],d,k,hk,_,_=>by simp[QU]
 |x::xs,d,0,_,_,hk=>by
  have:=hk (by simp)
  simp only[B9]at this
  simp[QU,this]
 |x::xs,d,k+1,hl,h1,h2=>by
  have h0:=h1 0 (by simp) (by omega)
  simp only[B9]at h0
  have ih:=SO (l:=xs) (d:=d) (k:=k) (by simpa using hl) (fun i h hi=>by have:=h1 (i+1) (by simpa using h) (by omega);simpa using this) (fun h=>by have:=h2 (by simpa using h);simpa using this)
  simp only[QU,h0,if_true,ih]
  simp only[AH,xY,Cn,Oe,Zx]
  split<;>rfl
theorem kY (l:List Ident) (d:Ident):(QU l d).length≤l.length+1:=by
 induction l with
 |nil=>simp[QU]
 |cons y l ih=>
  unfold QU
  split
  ·simp only[AH];omega
  ·split<;>simp only[AH]<;>omega
instance vB (l:List Ident) (d:Ident) (t:CW) [hs:B3 (l.length≤1000000)]:Bl Tryz.prog 292 [.slice (l.map eIdent) t,.agg (eIdent d)] (.slice ((QU l d).map eIdent) .ro):=⟨by
 refine Ak Tryz.func292 Tryz.ntmps292 rfl (rs:= [.tmp 4]) rfl rfl fun hb LF=>?_
 have hlen:l.length≤1000000:=hs.out
 refine DB fun b=>?_
 refine AW (σ:=Nat) (fun k=>k≤l.length∧ ∀ i (h:i < l.length),i < k→JO l[i] d < 0) (fun k=>l.length - k) (fun k=> [(0,.slice (l.map eIdent) t),(3,.raw (.pointer (some ⟨b,0,none⟩))),(5,.raw (.int .i64 k))]) (fun _=> .box b 98 (eIdent d)::LF) 0 ⟨by simp,by simp⟩ ⟨rfl,rfl,rfl⟩ (.refl _) ?_
 rintro k ⟨hk,hne⟩
 refine Ad ?_
 refine An (fun hp=>?_) (fun hp=>?_)
 ·have hc:(k:Int) < l.length:=Ab hp
  refine Bz ?_
  refine A1 (fun h1=>?_) (fun h1=>?_)
  ·refine Ad ?_
   refine⟨k+1,⟨by omega,fun i h hi=>?_⟩,by dsimp only;omega,⟨rfl,rfl,rfl⟩,.refl _⟩
   rcases BB i k with h'|h'
   ·exact hne i h h'
   ·have:i=k:=by omega
    subst this;exact h1
  ·refine Ad ?_
   refine A1 (fun h2=>?_) (fun h2=>?_)
   ·refine Ad ?_
    refine Ah (.ros ?_)
    rw[SO hk hne (fun _=>h1),if_pos ⟨by omega,h2⟩]
   ·refine Hh fun t1=>?_
    refine IB fun t2=>?_
    refine IB fun t3=>?_
    refine Ah (.ros ?_)
    rw[SO hk hne (fun _=>h1),if_neg (fun⟨_,e⟩=>h2 e)]
    simp
 ·have hc: ¬(k:Int) < l.length:=BJ hp
  refine Bz ?_
  refine IB fun t1=>?_
  refine IB fun t2=>?_
  refine IB fun t3=>?_
  refine Ah (.ros ?_)
  rw[SO hk hne (fun h=>absurd (show(k:Int) < l.length by omega) hc),if_neg (fun⟨h,_⟩=>hc (by omega))]
  simp⟩
def jb (d:Dig) (l:List Ident):List Ident:=l.foldl (fun m y=>QU m (Dp y d)) []
def MZ (d:Dig) (a:Atm):Atm:={ a with id:={ a.id with patch:=d } }
def PW (d:Dig) (a:Atm):Atm:=if a.kind≠7 then { a with file:=Dp a.file d }else a
def PS (d:Dig) (a:Atm):Atm:=if a.kind=2 then { a with parent:=Dp a.parent d }else a
def Nm (d:Dig) (a:Atm):Atm:=if a.kind=6 then { a with src:=Dp a.src d,dst:=Dp a.dst d }else a
def jd (d:Dig) (a:Atm):Atm:={ a with over:=jb d a.over }
def Vb (d:Dig) (a:Atm):Atm:=jd d (Nm d (PS d (PW d (MZ d a))))
theorem YY (d:Dig) (a:Atm):(Nm d (PS d (PW d (MZ d a)))).over=a.over:=by
 unfold Nm PS PW MZ
 repeat' split
 all_goals rfl
theorem ab (d:Dig) (l:List Ident) (k:Nat):((l.take k).foldl (fun m y=>QU m (Dp y d)) []).length≤k:=by
 induction k with
 |zero=>simp
 |succ k ih=>
  by_cases h:k < l.length
  ·rw[A6 h,DR]
   have:=kY ((l.take k).foldl (fun m y=>QU m (Dp y d)) []) (Dp l[k] d)
   simp only[EJ,List.foldl_nil];omega
  ·rw[AA (by omega)]at ih ⊢;omega
def Me (p:Pat):List Atm × Int:=if(EF p).2≠0 then([],(EF p).2)else((Cq p).1.map (Vb (EF p).1),0)
theorem ag {c:Chg} {first:Int} (h:c.over.length≤40): ∀ a∈EZ c first,a.over.length≤40:=by
 intro a ha
 unfold EZ at ha
 repeat' split at ha
 all_goals simp only[B1,Ai,AU]at ha
 all_goals first
  |(subst ha;first|exact h|(show([]:List Ident).length≤40;decide))
  |(rcases ha with ⟨_,_,rfl⟩|⟨_,_,rfl⟩<;>(show([]:List Ident).length≤40;decide))
theorem Np: ∀ (l:List Chg) (own:List Atm),(∀ c∈l,W8 c)→(∀ a∈own,a.over.length≤40)→(DK l own).1.length≤own.length+l.length*81∧ ∀ a∈(DK l own).1,a.over.length≤40
 | [],own,_,h=>⟨by simp[DK],by simpa [DK]using h⟩
 |c::l,own,hc,ho=>by
  unfold DK
  split
  ·exact⟨by simp,by simp⟩
  ·split
   ·exact⟨by simp,by simp⟩
   ·have hcc:=hc c (by simp)
    have h1:=Lq c own.length
    have h2:=ag (first:=own.length) hcc.over
    have h3:=hcc.lines
    have ih:=Np l (own++EZ c own.length) (fun x hx=>hc x (by simp[hx])) (fun a ha=>by
     rcases Ai.1 ha with h|h
     ·exact ho a h
     ·exact h2 a h)
    rw[A8]at ih
    refine⟨?_,ih.2⟩
    have:=ih.1
    simp only[AH,Bq];omega
theorem P3 {p:Pat} (h:EE p=false):(Cq p).1.length≤16200∧ ∀ a∈(Cq p).1,a.over.length≤40:=by
 obtain⟨_,_,_,hch,hcs⟩:=IW h
 unfold Cq
 repeat' split
 all_goals first
  |exact⟨by simp,by simp⟩
  |(have:=Np p.changes [] hcs (by simp)
    exact⟨by have h1:=this.1;simp only[Aa]at h1;omega,this.2⟩)
instance xX (p:Pat) [hs:B3 (EE p=false)]:Bl Tryz.prog 256 [.agg (CP p)] (.tuple [.slice ((Me p).1.map eAtm) .ro,.raw (.int .i64 (Me p).2)]):=⟨by
 obtain⟨hal,hao⟩:=P3 hs.out
 refine Ak Tryz.func256 Tryz.ntmps256 rfl (rs:= [.tmp 2,.tmp 3]) rfl rfl fun hb LF=>?_
 refine DB fun b1=>?_
 refine FI fun b4=>?_
 refine AL (fun h=>?_) (fun h=>?_)
 ·refine Ad ?_
  refine GM ?_
  rw[Me,if_pos h]
  exact .tuple2 (.ro _ _) (.refl _)
 rw[Me,if_neg (by simp[h])]
 refine Ad ?_
 generalize (EF p).1=d
 generalize (Cq p).1=own at hal hao
 refine Ee 172 ?_
 refine AW (σ:=Nat × List Atm × CW) (fun k=>k.1≤own.length∧k.2.1=(own.take k.1).map (Vb d)) (fun k=>own.length - k.1) (fun k=> [(4,.raw (.pointer (some ⟨b4,0,none⟩))),(6,.slice (own.map eAtm) .ro),(8,.slice (k.2.1.map eAtm) k.2.2),(9,.raw (.int .i64 k.1))]) (fun k=> .tok k.2.2 k.2.1.length 172:: .box b4 45 (eDig d)::LF) (0,[],.nil) ⟨by simp,by simp⟩ ⟨rfl,rfl,rfl,rfl⟩ (.cons_cons _ (.cons_cons _ (.cons _ (.refl _)))) ?_
 rintro⟨i,out,v⟩ ⟨hi,ho⟩
 dsimp only at hi ho ⊢
 have hol:out.length=i:=by rw[ho];simp;omega
 refine Ad ?_
 refine A1 (fun hc=>?_) (fun hc=>?_)
 ·have hlt:i < own.length:=by omega
  have hov:=hao _ (AK hlt)
  refine DB fun b10=>?_
  refine Cz (σ:=Unit) (fun _=>True) (fun _=> [(4,.raw (.pointer (some ⟨b4,0,none⟩))),(6,.slice (own.map eAtm) .ro),(8,.slice (out.map eAtm) v),(9,.raw (.int .i64 i)),(10,.raw (.pointer (some ⟨b10,0,none⟩)))]) (fun _=> .box b10 180 (eAtm (PW d (MZ d own[i]))):: .tok v out.length 172:: .box b4 45 (eDig d)::LF) ?_ ?_
  ·refine AL (fun h7=>?_) (fun h7=>?_)
   ·refine Ad ?_
    refine⟨(),trivial,⟨rfl,rfl,rfl,rfl,rfl⟩,?_⟩
    have h7':(MZ d own[i]).kind≠7:=h7
    rw[PW,if_pos h7'];exact .refl _
   ·refine Ad ?_
    refine⟨(),trivial,⟨rfl,rfl,rfl,rfl,rfl⟩,?_⟩
    have h7':(MZ d own[i]).kind=7:=h7
    rw[PW,if_neg (by simp[h7'])];exact .refl _
  rintro _ _
  generalize ha2:PW d (MZ d own[i])=a2
  refine Ad ?_
  refine Cz (σ:=Unit) (fun _=>True) (fun _=> [(4,.raw (.pointer (some ⟨b4,0,none⟩))),(6,.slice (own.map eAtm) .ro),(8,.slice (out.map eAtm) v),(9,.raw (.int .i64 i)),(10,.raw (.pointer (some ⟨b10,0,none⟩)))]) (fun _=> .box b10 180 (eAtm (PS d a2)):: .tok v out.length 172:: .box b4 45 (eDig d)::LF) ?_ ?_
  ·refine A1 (fun h7=>?_) (fun h7=>?_)
   ·refine Ad ?_
    refine⟨(),trivial,⟨rfl,rfl,rfl,rfl,rfl⟩,?_⟩
    rw[PS,if_pos h7];exact .refl _
   ·refine Ad ?_
    refine⟨(),trivial,⟨rfl,rfl,rfl,rfl,rfl⟩,?_⟩
    rw[PS,if_neg h7];exact .refl _
  rintro _ _
  generalize ha3:PS d a2=a3
  refine Ad ?_
  refine Cz (σ:=Unit) (fun _=>True) (fun _=> [(4,.raw (.pointer (some ⟨b4,0,none⟩))),(6,.slice (own.map eAtm) .ro),(8,.slice (out.map eAtm) v),(9,.raw (.int .i64 i)),(10,.raw (.pointer (some ⟨b10,0,none⟩)))]) (fun _=> .box b10 180 (eAtm (Nm d a3)):: .tok v out.length 172:: .box b4 45 (eDig d)::LF) ?_ ?_
  ·refine A1 (fun h7=>?_) (fun h7=>?_)
   ·refine Ri ?_
    refine TL [false,false,false,false,false,false,false,false,false,true,false,true] ?_ ?_
    ·decide+kernel
    refine Bz ?_
    refine⟨(),trivial,⟨rfl,rfl,rfl,rfl,rfl⟩,?_⟩
    rw[Nm,if_pos h7];exact .refl _
   ·refine Ad ?_
    refine⟨(),trivial,⟨rfl,rfl,rfl,rfl,rfl⟩,?_⟩
    rw[Nm,if_neg h7];exact .refl _
  rintro _ _
  have hover:(Nm d a3).over=own[i].over:=by rw[←ha3,←ha2];exact YY d own[i]
  generalize ha4:Nm d a3=a4 at hover
  have hov4:a4.over.length≤40:=by rw[hover];exact hov
  refine Ad ?_
  refine AW (σ:=Nat × List Ident × CW) (fun j=>j.1≤a4.over.length∧j.2.1=(a4.over.take j.1).foldl (fun m y=>QU m (Dp y d)) []) (fun j=>a4.over.length - j.1) (fun j=> [(4,.raw (.pointer (some ⟨b4,0,none⟩))),(6,.slice (own.map eAtm) .ro),(8,.slice (out.map eAtm) v),(9,.raw (.int .i64 i)),(10,.raw (.pointer (some ⟨b10,0,none⟩))),(11,.slice (j.2.1.map eIdent) j.2.2),(12,.raw (.int .i64 j.1))]) (fun _=> .box b10 180 (eAtm a4):: .tok v out.length 172:: .box b4 45 (eDig d)::LF) (0,[],.nil) ⟨by simp,by simp⟩ ⟨rfl,rfl,rfl,rfl,rfl,rfl,rfl⟩ (.refl _) ?_
  rintro⟨j,m,z⟩ ⟨hj,hm⟩
  dsimp only at hj hm ⊢
  have hml:m.length≤j:=by rw[hm];exact ab d a4.over j
  refine Ad ?_
  refine A1 (fun hc2=>?_) (fun hc2=>?_)
  ·have hlt2:j < a4.over.length:=by omega
   have:B3 (m.length≤1000000):=⟨by omega⟩
   refine Ad ?_
   refine⟨(j+1,QU m (Dp a4.over[j] d),.ro),⟨by dsimp only;omega,?_⟩,by dsimp only;omega,⟨rfl,rfl,rfl,rfl,rfl,rfl,rfl⟩,.refl _⟩
   dsimp only
   rw[A6 hlt2,DR,←hm];rfl
  ·rw[AA (by omega)]at hm
   refine Hh fun v'=>?_
   have e:Vb d own[i]= { a4 with over:=m }:=by rw[Vb,ha2,ha3,ha4,jd,jb,←hm]
   refine⟨(i+1,out++ [{ a4 with over:=m }],v'),⟨by dsimp only;omega,?_⟩,by dsimp only;omega,⟨rfl,rfl,rfl,rfl⟩,.cons _ (.refl _)⟩
   dsimp only
   rw[A6 hlt,Az,←ho,BG,e];rfl
 ·rw[AA (by omega)]at ho
  refine Ad ?_
  refine GM ?_
  rw[ho]
  exact .tuple2 (.ro _ _) (.refl _)⟩
theorem Il {b:Bool} (h:(!b)=false): ¬b=false:=by cases b<;>simp_all
theorem LA {b:Bool} (h:(!b)=true):b=false:=by cases b<;>simp_all
theorem Dc.great {s:List Sto} (h:Dc s) (d:Dig):EE ((getS s d).getD Pat.zero)=false:=by
 cases hg:getS s d with
 |none=>exact Tj
 |some p=>
  obtain⟨x,hx,_,rfl⟩:=Km hg
  exact h.2 x hx
def Ji (s:List Sto) (d:Dig):List Atm:=(Me ((getS s d).getD Pat.zero)).1
def JB (s:List Sto) (x:Ident):Option Atm:=if x.n < 0∨((Ji s x.patch).length:Int)≤x.n then none else(Ji s x.patch)[x.n.toNat]?
instance uy (s:List Sto) (x:Ident) (t:CW) [hs:B3 (Dc s)]:Bl Tryz.prog 214 [.slice (s.map eSto) t,.agg (eIdent x)] (.tuple [.agg (eAtm ((JB s x).getD Atm.zero)),.raw (.bool (JB s x).isSome)]):=⟨by
 have i1:B3 (EE ((getS s x.patch).getD Pat.zero)=false):=⟨hs.out.great _⟩
 refine Ak Tryz.func214 Tryz.ntmps214 rfl (rs:= [.cell 4 180,.tmp 5]) rfl rfl fun hb LF=>?_
 refine DB fun b3=>?_
 refine FI fun b4=>?_
 refine FI fun b6=>?_
 have e0:(Me ((getS s x.patch).getD Pat.zero)).1=Ji s x.patch:=rfl
 rw[e0]
 refine B0 [(31,.raw (.bool (decide (x.n < 0∨((Ji s x.patch).length:Int)≤x.n)))),(3,.raw (.pointer (some ⟨b3,0,none⟩))),(4,.raw (.pointer (some ⟨b4,0,none⟩))),(8,.slice ((Ji s x.patch).map eAtm) .ro)] (.box b6 42 (CP ((getS s x.patch).getD Pat.zero)):: .box b4 180 (eAtm Atm.zero):: .box b3 98 (eIdent x)::LF) ?_ ?_
 ·repeat' (first|(refine A1 (fun h=>?_) (fun h=>?_)<;>refine Ad ?_)|(refine AL (fun h=>?_) (fun h=>?_)<;>refine Ad ?_)|(refine AO (fun h=>?_) (fun h=>?_)<;>refine Ad ?_)|(refine An (fun h=>?_) (fun h=>?_)<;>(have h2:=h;(try simp only[AB,A7,AG,AF]at h2);refine Bz ?_)))
  all_goals (refine⟨⟨BO (by rfl) ?_,rfl,rfl,rfl⟩,.refl _⟩;first|(simp_all;done)|(simp_all;omega)|grind)
 refine Ad ?_
 refine A1 (fun h=>?_) (fun h=>?_)
 ·refine Ad ?_
  refine DX rfl (.of_eq ?_)
  rw[JB,if_pos h];rfl
 ·refine Ad ?_
  refine DX rfl (.of_eq ?_)
  have hlt:x.n.toNat < (Ji s x.patch).length:=by omega
  rw[JB,if_neg h,AZ hlt];rfl⟩
def Ef (o:Option Atm) (fits:Atm→Bool):Int:=if o.isSome=false then 7 else if fits (o.getD Atm.zero)=false then 8 else 0
def HT (s:List Sto) (x file:Ident) (id:Dig):Int:=if HB x=false∨x=file then 0 else Ef (JB s x) (Jg (HN file id))
instance x8 (s:List Sto) (x file:Ident) (id:Dig) (t:CW) [hs:B3 (Dc s)]:Bl Tryz.prog 217 [.slice (s.map eSto) t,.agg (eIdent x),.agg (eIdent file),.agg (eDig id)] (.raw (.int .i64 (HT s x file id))):=⟨by
 refine Ak Tryz.func217 Tryz.ntmps217 rfl (rs:= [.tmp 8]) rfl rfl fun hb LF=>?_
 refine DB fun b5=>?_
 refine FI fun b6=>?_
 refine FI fun b7=>?_
 refine B0 [(18,.raw (.bool (decide (HB x=false∨x=file)))),(0,.slice (s.map eSto) t),(5,.raw (.pointer (some ⟨b5,0,none⟩))),(6,.raw (.pointer (some ⟨b6,0,none⟩))),(7,.raw (.pointer (some ⟨b7,0,none⟩)))] (.box b7 45 (eDig id):: .box b6 98 (eIdent file):: .box b5 98 (eIdent x)::LF) ?_ ?_
 ·repeat' (first|(refine A1 (fun h=>?_) (fun h=>?_)<;>refine Ad ?_)|(refine AL (fun h=>?_) (fun h=>?_)<;>refine Ad ?_)|(refine AO (fun h=>?_) (fun h=>?_)<;>refine Ad ?_)|(refine An (fun h=>?_) (fun h=>?_)<;>(have h2:=h;(try simp only[AB,A7,AG,AF]at h2);refine Bz ?_)))
  all_goals (refine⟨⟨BO (by rfl) ?_,rfl,rfl,rfl,rfl⟩,.refl _⟩;first|(simp_all;done)|(simp_all;omega)|grind)
 refine Ad ?_
 refine A1 (fun h=>?_) (fun h=>?_)
 ·refine Ad ?_
  refine Ah (.of_eq ?_)
  rw[HT,if_pos h]
 rw[HT,if_neg h]
 refine DB fun b9=>?_
 refine AO (fun h2=>?_) (fun h2=>?_)
 ·refine Ad ?_
  refine Ah (.of_eq ?_)
  rw[Ef,if_pos (LA h2)]
 refine Ad ?_
 refine AO (fun h3=>?_) (fun h3=>?_)
 ·refine Ad ?_
  refine Ah (.of_eq ?_)
  rw[Ef,if_neg (Il h2),if_pos (LA h3)]
 ·refine Ad ?_
  refine Ah (.of_eq ?_)
  rw[Ef,if_neg (Il h2),if_neg (Il h3)]⟩
def K5 (s:List Sto) (c:Chg):Int:=if HB c.file=true then Ef (JB s c.file) (EL c.kind)else 0
def NC (s:List Sto) (c:Chg):Int:=if HB c.parent=true then Ef (JB s c.parent) rDirectory else 0
def P2 (s:List Sto) (c:Chg) (id:Dig) (x:Ident):Int:=if HB x=false then 0 else Ef (JB s x) (HL c.kind (HN c.file id))
def NF (s:List Sto) (c:Chg) (id:Dig):Int:=
 if K5 s c≠0 then K5 s c else if NC s c≠0 then NC s c else if HT s c.after c.file id≠0 then HT s c.after c.file id else
 if HT s c.before c.file id≠0 then HT s c.before c.file id else Aq (P2 s c id) c.over
instance r9 (s:List Sto) (c:Chg) (id:Dig) (t:CW) [hs:B3 (Dc s)]:Bl Tryz.prog 171 [.slice (s.map eSto) t,.agg (BC c),.agg (eDig id)] (.raw (.int .i64 (NF s c id))):=⟨by
 refine Ak Tryz.func171 Tryz.ntmps171 rfl (rs:= [.tmp 6]) rfl rfl fun hb LF=>?_
 have hlen:c.over.length≤140737488355328:=((hb (.agg (BC c)) (by simp)).agg_at (c:= .slice (c.over.map eIdent) .ro) (by simp[BC])).slice_map
 refine DB fun b4=>?_
 refine FI fun b5=>?_
 refine Cz (σ:=Unit) (fun _=>K5 s c=0) (fun _=> [(0,.slice (s.map eSto) t),(4,.raw (.pointer (some ⟨b4,0,none⟩))),(5,.raw (.pointer (some ⟨b5,0,none⟩)))]) (fun _=> .box b5 45 (eDig id):: .box b4 101 (BC c)::LF) ?_ ?_
 ·refine AO (fun h=>?_) (fun h=>?_)
  ·have e:K5 s c=Ef (JB s c.file) (EL c.kind):=by rw[K5,if_pos h]
   refine DB fun b7=>?_
   refine AO (fun h2=>?_) (fun h2=>?_)
   ·refine Ad ?_
    refine Ah (.of_eq ?_)
    rw[Ef,if_pos (LA h2)]at e
    rw[NF,if_pos (by rw[e];decide),e]
   refine Ad ?_
   refine AO (fun h3=>?_) (fun h3=>?_)
   ·refine Ad ?_
    refine Ah (.of_eq ?_)
    rw[Ef,if_neg (Il h2),if_pos (LA h3)]at e
    rw[NF,if_pos (by rw[e];decide),e]
   ·refine Ad ?_
    rw[Ef,if_neg (Il h2),if_neg (Il h3)]at e
    exact⟨(),e,⟨rfl,rfl,rfl⟩,.cons _ (.refl _)⟩
  ·refine Ad ?_
   exact⟨(),by rw[K5,if_neg (by simp[h])],⟨rfl,rfl,rfl⟩,.refl _⟩
 rintro _ hF
 refine Ad ?_
 refine Cz (σ:=Unit) (fun _=>NC s c=0) (fun _=> [(0,.slice (s.map eSto) t),(4,.raw (.pointer (some ⟨b4,0,none⟩))),(5,.raw (.pointer (some ⟨b5,0,none⟩)))]) (fun _=> .box b5 45 (eDig id):: .box b4 101 (BC c)::LF) ?_ ?_
 ·refine AO (fun h=>?_) (fun h=>?_)
  ·have e:NC s c=Ef (JB s c.parent) rDirectory:=by rw[NC,if_pos h]
   refine DB fun b7=>?_
   refine AO (fun h2=>?_) (fun h2=>?_)
   ·refine Ad ?_
    refine Ah (.of_eq ?_)
    rw[Ef,if_pos (LA h2)]at e
    rw[NF,if_neg (by simp[hF]),if_pos (by rw[e];decide),e]
   refine Ad ?_
   refine AO (fun h3=>?_) (fun h3=>?_)
   ·refine Ad ?_
    refine Ah (.of_eq ?_)
    rw[Ef,if_neg (Il h2),if_pos (LA h3)]at e
    rw[NF,if_neg (by simp[hF]),if_pos (by rw[e];decide),e]
   ·refine Ad ?_
    rw[Ef,if_neg (Il h2),if_neg (Il h3)]at e
    exact⟨(),e,⟨rfl,rfl,rfl⟩,.cons _ (.refl _)⟩
  ·refine Ad ?_
   exact⟨(),by rw[NC,if_neg (by simp[h])],⟨rfl,rfl,rfl⟩,.refl _⟩
 rintro _ hP
 rw[NF,if_neg (by simp[hF]),if_neg (by simp[hP])]
 refine Ad ?_
 refine AL (fun h1=>?_) (fun h1=>?_)
 ·refine Ad ?_
  refine Ah (.of_eq ?_)
  rw[if_pos h1]
 rw[if_neg (by simp[h1])]
 refine Ad ?_
 refine AL (fun h2=>?_) (fun h2=>?_)
 ·refine Ad ?_
  refine Ah (.of_eq ?_)
  rw[if_pos h2]
 rw[if_neg (by simp[h2])]
 refine Ad ?_
 refine AW (σ:=Nat) (fun k=>k≤c.over.length∧ ∀ i (h:i < c.over.length),i < k→P2 s c id c.over[i]=0) (fun k=>c.over.length - k) (fun k=> [(0,.slice (s.map eSto) t),(4,.raw (.pointer (some ⟨b4,0,none⟩))),(5,.raw (.pointer (some ⟨b5,0,none⟩))),(13,.raw (.int .i64 k))]) (fun _=> .box b5 45 (eDig id):: .box b4 101 (BC c)::LF) 0 ⟨by simp,by simp⟩ ⟨rfl,rfl,rfl,rfl⟩ (.refl _) ?_
 rintro k ⟨hk,he⟩
 refine Ad ?_
 refine A1 (fun hc=>?_) (fun hc=>?_)
 ·have hlt:k < c.over.length:=by omega
  refine Ad ?_
  refine AO (fun h=>?_) (fun h=>?_)
  ·refine Ad ?_
   exact⟨k+1,⟨by omega,DT he hlt (by rw[P2,if_pos (LA h)])⟩,by dsimp only;omega,⟨rfl,rfl,rfl,rfl⟩,.refl _⟩
  have e:P2 s c id c.over[k]=Ef (JB s c.over[k]) (HL c.kind (HN c.file id)):=by rw[P2,if_neg (Il h)]
  refine DB fun b14=>?_
  refine AO (fun h3=>?_) (fun h3=>?_)
  ·refine Ad ?_
   refine Ah (.of_eq ?_)
   rw[Ef,if_pos (LA h3)]at e
   rw[CQ hlt he (by rw[e];decide),e]
  refine Ad ?_
  refine AO (fun h4=>?_) (fun h4=>?_)
  ·refine Ad ?_
   refine Ah (.of_eq ?_)
   rw[Ef,if_neg (Il h3),if_pos (LA h4)]at e
   rw[CQ hlt he (by rw[e];decide),e]
  ·refine Ad ?_
   rw[Ef,if_neg (Il h3),if_neg (Il h4)]at e
   exact⟨k+1,⟨by omega,DT he hlt e⟩,by dsimp only;omega,⟨rfl,rfl,rfl,rfl⟩,.cons _ (.refl _)⟩
 ·refine Ad ?_
  refine Ah (.of_eq ?_)
  rw[CG fun i h=>he i h (by omega)]⟩
def FT (s:List Sto) (p:Pat) (id:Dig):Int:=Aq (fun c=>NF s c id) p.changes
instance gW (s:List Sto) (p:Pat) (id:Dig) (t:CW) [hs:B3 (Dc s)]:Bl Tryz.prog 125 [.slice (s.map eSto) t,.agg (CP p),.agg (eDig id)] (.raw (.int .i64 (FT s p id))):=⟨by
 refine Ak Tryz.func125 Tryz.ntmps125 rfl (rs:= [.tmp 6]) rfl rfl fun hb LF=>?_
 have hlen:p.changes.length≤140737488355328:=((hb (.agg (CP p)) (by simp)).agg_at (c:= .slice (p.changes.map BC) .ro) (by simp[CP])).slice_map
 refine DB fun b4=>?_
 refine FI fun b5=>?_
 refine AW (σ:=Nat) (fun k=>k≤p.changes.length∧ ∀ i (h:i < p.changes.length),i < k→NF s p.changes[i] id=0) (fun k=>p.changes.length - k) (fun k=> [(0,.slice (s.map eSto) t),(4,.raw (.pointer (some ⟨b4,0,none⟩))),(5,.raw (.pointer (some ⟨b5,0,none⟩))),(7,.raw (.int .i64 k))]) (fun _=> .box b5 45 (eDig id):: .box b4 42 (CP p)::LF) 0 ⟨by simp,by simp⟩ ⟨rfl,rfl,rfl,rfl⟩ (.refl _) ?_
 rintro k ⟨hk,he⟩
 refine Ad ?_
 refine A1 (fun hc=>?_) (fun hc=>?_)
 ·have hlt:k < p.changes.length:=by omega
  refine Ad ?_
  refine AL (fun h=>?_) (fun h=>?_)
  ·refine Ad ?_
   refine Ah (.of_eq ?_)
   rw[FT,CQ hlt he h]
  ·refine Ad ?_
   exact⟨k+1,⟨by omega,DT (f:=fun c=>NF s c id) he hlt h⟩,by dsimp only;omega,⟨rfl,rfl,rfl,rfl⟩,.refl _⟩
 ·refine Ad ?_
  refine Ah (.of_eq ?_)
  rw[FT,CG fun i h=>he i h (by omega)]⟩
end Go.Proofs
