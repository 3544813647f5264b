/- Contracts: what is too large for the statements; patches encoded (the reference's layers 4 and 16). -/
import Derived.Test.YtpebdiofdfpooaaGreatDoorWak
import Derived.Test.YtpebdiofdfpooaaGreatDoorWaj
import Derived.Test.YtpebdiofdfpooaaGreatDoorWae
import Derived.Test.YtpebdiofdfpooaaGreatDoorWaf
set_option linter.unusedSimpArgs false
set_option linter.unusedVariables false
set_option maxHeartbeats 8000000
namespace Go.Proofs
open Go Go.Q
attribute [local irreducible] EB AW B2 FW
def Kp (l:List Str):Nat:=(l.map List.length).sum
def si (l:List Str):Bool:=decide (40 < (l.length:Int))||decide (3000 < (Kp l:Int))
theorem XL {l:List Str} {k:Nat} (h:k < l.length):Kp (l.take (k+1))=Kp (l.take k)+l[k].length:=by
 unfold Kp;rw[A6 h,Az,K5];simp
theorem dF {l:List Str} {B:Nat} (h: ∀ s∈l,s.length≤B):Kp l≤l.length*B:=by
 unfold Kp
 induction l with
 |nil=>simp
 |cons x l ih=>
  have h1:=h x (by simp)
  have h2:=ih fun s hs=>h s (by simp[hs])
  simp only[BH,GI,AH,Bq];omega
instance tW (l:List Str) (t:CZ):Bj Tryz.prog 67 [.slice (l.map eS) t] (.raw (.bool (si l))):=⟨by
 refine Aj Tryz.func67 Tryz.ntmps67 rfl (rs:= [.tmp 2]) rfl rfl fun hb LF=>?_
 have hbs:=hb (.slice (l.map eS) t) (by simp)
 have hlen:l.length≤140737488355328:=hbs.slice_map
 have hel: ∀ s∈l,s.length≤140737488355328:=fun s hs=>(hbs.slice_at hs (c:= .str s) (by simp[eS])).str_len
 refine AY ?_
 refine AV (σ:=Nat × Int) (fun k=>k.1≤l.length∧(l.length≤40→k.2=(Kp (l.take k.1):Int))) (fun k=>l.length - k.1) (fun k=> [(0,.slice (l.map eS) t),(3,.raw (.int .i64 k.2)),(4,.raw (.int .i64 k.1))]) (fun _=>LF) (0,0) ⟨by simp,fun _=>by simp[Kp]⟩ ⟨rfl,rfl,rfl⟩ (.refl _) ?_
 rintro⟨k,n⟩ ⟨hk,hn⟩
 dsimp only at hk hn ⊢
 obtain⟨v,hv⟩: ∃ v,v=Value.int .i64 n:=⟨_,rfl⟩
 rw[←hv]
 refine AY ?_
 refine A1 (fun hc=>?_) (fun hc=>?_)
 ·have hlt:k < l.length:=by omega
  refine AY ?_
  refine Zf (by rfl) (by rfl) hv fun v1 hv1=>?_
  refine Bp ?_
  subst hv1
  refine⟨(k+1,IntKind.i64.wrap (n+(l[k].length:Int))),⟨by dsimp only;omega,fun h40=>?_⟩,by dsimp only;omega,⟨rfl,rfl,rfl⟩,.refl _⟩
  have h1:=hn h40
  have h2:=XL hlt
  have h3:=hel _ (AO hlt)
  have h4:=dF (l:=l.take k) (B:=140737488355328) fun s hs=>hel s (Ee hs)
  have h5:(l.take k).length≤40:=by rw[AG];omega
  have h6:(l.take k).length*140737488355328≤40*140737488355328:=Au _ h5
  dsimp only
  rw[IntWalk.i64_in _ (by omega),h1,h2];omega
 ·subst hv
  refine AY ?_
  rw[AA (by omega)]at hn
  refine Aw (fun hp=>?_) (fun hp=>?_)
  ·refine Bp ?_
   refine Al (.of_eq ?_)
   rw[si,hp,Bool.true_or]
  ·refine Bp ?_
   refine Al (.of_eq ?_)
   have:=B6 hp
   rw[si,hp,IB,hn (by omega)]⟩
def KA (c:Chg):Nat:=c.name.length+c.data.length
def dY (p:Pat):Nat:=p.author.length+p.message.length+(p.changes.map KA).sum
def ls (c:Chg):Bool:=si c.lines||decide (40 < (c.over.length:Int))
def Hi (p:Pat):Bool:=p.changes.any ls||decide (3000 < (dY p:Int))||decide (20 < (p.deps.length:Int))||decide (20 < (p.changes.length:Int))
def Oq (c:Chg):Nat:=1+c.lines.length+c.over.length
def EA (p:Pat):Bool:=p.changes.any (fun c=>ls c||decide (3000 < (KA c:Int)))||decide (30000 < (dY p:Int))||decide (200 < (p.deps.length:Int))||decide (200 < (p.changes.length:Int))||decide (2000 < ((p.changes.map Oq).sum:Int))
theorem FM {α:Type} {l:List α} {f:α→Nat} {B:Nat} (h: ∀ s∈l,f s≤B):(l.map f).sum≤l.length*B:=by
 induction l with
 |nil=>simp
 |cons x l ih=>
  have h1:=h x (by simp)
  have h2:=ih fun s hs=>h s (by simp[hs])
  simp only[BH,GI,AH,Bq];omega
theorem Lk {α:Type} {l:List α} {f:α→Nat} {k:Nat} (h:k < l.length):((l.take (k+1)).map f).sum=((l.take k).map f).sum+f l[k]:=by
 rw[A6 h,Az,K5];simp
instance sJ (p:Pat):Bj Tryz.prog 23 [.agg (Cc p)] (.raw (.bool (Hi p))):=⟨by
 refine Aj Tryz.func23 Tryz.ntmps23 rfl (rs:= [.tmp 2]) rfl rfl fun hb LF=>?_
 have hbp:=hb (.agg (Cc p)) (by simp)
 have ha:p.author.length≤140737488355328:=(hbp.agg_at (c:= .str p.author) (by simp[Cc])).str_len
 have hm:p.message.length≤140737488355328:=(hbp.agg_at (c:= .str p.message) (by simp[Cc])).str_len
 have hbc:=hbp.agg_at (c:= .slice (p.changes.map BG) .ro) (by simp[Cc])
 have hlen:p.changes.length≤140737488355328:=hbc.slice_map
 have hcn: ∀ c∈p.changes,c.name.length≤140737488355328:=fun c hc=>(hbc.slice_at hc (c:= .str c.name) (by simp[BG])).str_len
 have hcd: ∀ c∈p.changes,c.data.length≤140737488355328:=fun c hc=>(hbc.slice_at hc (c:= .str c.data) (by simp[BG])).str_len
 refine Cx fun b=>?_
 refine AV (σ:=Nat × Int) (fun k=>k.1≤p.changes.length∧(∀ i (h:i < p.changes.length),i < k.1→ls p.changes[i]=false)∧(p.changes.length≤20→k.2=((p.author.length+p.message.length+((p.changes.take k.1).map KA).sum:Nat):Int))) (fun k=>p.changes.length - k.1) (fun k=> [(1,.raw (.pointer (some ⟨b,0,none⟩))),(3,.raw (.int .i64 k.2)),(4,.raw (.int .i64 k.1))]) (fun _=> .box b 42 (Cc p)::LF) (0,(p.author.length:Int)+(p.message.length:Int)) ⟨by simp,by simp,fun _=>by simp⟩ ⟨rfl,rfl,rfl⟩ (.refl _) ?_
 rintro⟨k,n⟩ ⟨hk,hg,hn⟩
 dsimp only at hk hg hn ⊢
 obtain⟨v,hv⟩: ∃ v,v=Value.int .i64 n:=⟨_,rfl⟩
 rw[←hv]
 refine AY ?_
 refine A1 (fun hc=>?_) (fun hc=>?_)
 ·have hlt:k < p.changes.length:=by omega
  refine Cx fun b2=>?_
  refine BB [(33,.raw (.bool (ls p.changes[k]))),(1,.raw (.pointer (some ⟨b,0,none⟩))),(3,.raw v),(4,.raw (.int .i64 k)),(5,.raw (.pointer (some ⟨b2,0,none⟩)))] (.box b2 101 (BG p.changes[k]):: .box b 42 (Cc p)::LF) ?_ ?_
  ·repeat' (first|(refine A1 (fun h=>?_) (fun h=>?_)<;>refine AY ?_)|(refine AN (fun h=>?_) (fun h=>?_)<;>refine AY ?_)|(refine AU (fun h=>?_) (fun h=>?_)<;>refine AY ?_)|(refine Aw (fun h=>?_) (fun h=>?_)<;>(have h2:=h;(try simp only[AJ,A8,AQ,AR]at h2);refine Bp ?_)))
   all_goals (refine⟨⟨BW (by rfl) ?_,rfl,rfl,rfl,rfl⟩,.refl _⟩;simp_all[ls])
  refine AY ?_
  refine AU (fun h=>?_) (fun h=>?_)
  ·refine AY ?_
   refine Al (.of_eq ?_)
   have:p.changes.any ls=true:=by rw[Bg];exact⟨_,AO hlt,h⟩
   rw[Hi,this];rfl
  refine AY ?_
  refine Zf (by rfl) (by rfl) hv fun v1 hv1=>?_
  refine Bp ?_
  refine Zf (by rfl) (by rfl) hv1 fun v2 hv2=>?_
  refine Bp ?_
  subst hv2
  refine⟨(k+1,IntKind.i64.wrap (IntKind.i64.wrap (n+(p.changes[k].name.length:Int))+(p.changes[k].data.length:Int))),⟨by dsimp only;omega,fun i hi hik=>?_,fun h20=>?_⟩,by dsimp only;omega,⟨rfl,rfl,rfl⟩,.cons _ (.refl _)⟩
  ·rcases BC i k with h'|h'
   ·exact hg i hi h'
   ·have:i=k:=by dsimp only at hik;omega
    subst this;exact h
  ·have h1:=hn h20
   have h2:=Lk (f:=KA) hlt
   have h3:=hcn _ (AO hlt)
   have h3':=hcd _ (AO hlt)
   have h4:=FM (l:=p.changes.take k) (f:=KA) (B:=281474976710656) fun c hc=>by
    have q1:=hcn c (Ee hc)
    have q2:=hcd c (Ee hc)
    unfold KA;omega
   have h5:(p.changes.take k).length≤20:=by rw[AG];omega
   have h6:(p.changes.take k).length*281474976710656≤20*281474976710656:=Au _ h5
   dsimp only
   have h7:KA p.changes[k]=p.changes[k].name.length+p.changes[k].data.length:=rfl
   rw[IntWalk.i64_in (n+_) (by omega),IntWalk.i64_in _ (by omega),h1,h2];omega
 ·subst hv
  refine AY ?_
  rw[AA (by omega)]at hn
  have hany:p.changes.any ls=false:=by
   rw[Ew];intro c hc'
   obtain⟨i,hi,rfl⟩:=Ak.1 hc'
   simp[hg i hi (by omega)]
  have key:Hi p=(decide (3000 < n)||decide (20 < (p.deps.length:Int))||decide (20 < (p.changes.length:Int))):=by
   rw[Hi,hany,IB]
   by_cases h20:p.changes.length≤20
   ·rw[hn h20];rfl
   ·have:decide (20 < (p.changes.length:Int))=true:=Bh (by omega)
    rw[this,Bool.or_true,Bool.or_true]
  rw[key]
  clear key hany hn hg
  repeat' (first|(refine A1 (fun h=>?_) (fun h=>?_)<;>refine AY ?_)|(refine AN (fun h=>?_) (fun h=>?_)<;>refine AY ?_)|(refine AU (fun h=>?_) (fun h=>?_)<;>refine AY ?_)|(refine Aw (fun h=>?_) (fun h=>?_)<;>(have h2:=h;(try simp only[AJ,A8,AQ,AR]at h2);refine Bp ?_)))
  all_goals (refine Al (.of_eq ?_);first|(simp_all;done)|grind)⟩
theorem Jk (d:Nat) {s:Str} (h:s.length≤65536):O4 (d+1) (Ch s):= .inl ⟨rfl,rfl,h⟩
theorem ZP (d:Nat) (n:Int):O4 (d+1) (Fo n):=by
 unfold Fo Qd
 split
 ·exact .inl ⟨rfl,rfl,by decide⟩
 ·refine Jk d ?_
  have:=Nn (n:=n) ⟨by omega,by omega⟩
  omega
theorem fa (d:Nat) (x:Dig):O4 (d+1) (Jn x):=by
 unfold Jn
 split
 ·exact Jk d (by decide)
 ·exact Jk d (by rw[x.len];decide)
theorem Lb {d:Nat} {l:List Sx} (h: ∀ y∈l,O4 d y):O4 (d+1) (Du l):= .inr ⟨rfl,rfl,h⟩
theorem fZ (d:Nat) (x:Ident):O4 (d+2) (Fl x):=Lb fun y hy=>by
 simp only[AI,Ar,or_false]at hy
 rcases hy with rfl|rfl
 ·exact fa d _
 ·exact ZP d _
theorem lB (d:Nat) (l:List Ident):O4 (d+3) (Ie l):=Lb fun y hy=>by
 obtain⟨x,_,rfl⟩:=AX.1 hy
 exact fZ d x
theorem W3 (d:Nat) (s:Str):Hs (d+1) (Ch s)=1:=rfl
theorem Se (d:Nat) (n:Int):Hs (d+1) (Fo n)=1:=by
 unfold Fo Qd
 split<;>rfl
theorem im (d:Nat) (x:Dig):Hs (d+1) (Jn x)=1:=by
 unfold Jn;split<;>rfl
theorem Ns (d:Nat) (l:List Sx):Hs (d+1) (Du l)=1+(l.map (Hs d)).sum:=rfl
theorem W2 (d:Nat) (x:Ident):Hs (d+2) (Fl x)=3:=by
 rw[Fl,Ns];simp only[BH,CX,GI,OB,im,Se];rfl
theorem mf (d:Nat) (l:List Ident):Hs (d+3) (Ie l)≤1+l.length*3:=by
 rw[Ie,Ns,DK]
 have:=FM (l:=l) (f:=Hs (d+2) ∘ Fl) (B:=3) fun x _=>by simp[W2]
 omega
theorem JG (d:Nat) {s:Str} (h:s.length≤140737488355328):(Dc (d+1) (Ch s)).length≤16+s.length:=by
 show(HV s.length++58::s).length≤_
 have:=KD h
 rw[A7,AH];omega
theorem aL (d:Nat) (n:Int):(Dc (d+1) (Fo n)).length≤32:=by
 unfold Fo Qd
 split
 ·exact Cd (JG d (s:= []) (by decide)) (by decide)
 ·rename_i h
  have h1:=Nn (n:=n) ⟨by omega,by omega⟩
  have h2:=JG d (s:=Ik n) (by omega)
  dsimp only;omega
theorem j0 (d:Nat) (x:Dig):(Dc (d+1) (Jn x)).length≤48:=by
 unfold Jn
 split
 ·exact Cd (JG d (s:= []) (by decide)) (by decide)
 ·have h:=JG d (s:=x.bs) (by rw[x.len];decide)
  rw[x.len]at h;exact h
theorem Yf {α β:Type} (l:List α) (f:α→List β):(l.flatMap f).length=(l.map fun a=>(f a).length).sum:=by
 induction l with
 |nil=>rfl
 |cons x l ih=>simp[ih]
theorem MI (d:Nat) (l:List Sx):(Dc (d+1) (Du l)).length=2+(l.map fun a=>(Dc d a).length).sum:=by
 show(40::(l.flatMap (Dc d)++ [41])).length=_
 rw[AH,A7,Yf,CQ];omega
theorem iz (d:Nat) (x:Ident):(Dc (d+2) (Fl x)).length≤82:=by
 rw[Fl,MI]
 have h1:=j0 d x.patch
 have h2:=aL d x.n
 simp only[BH,CX,GI,OB];omega
theorem mn (d:Nat) (l:List Ident):(Dc (d+3) (Ie l)).length≤2+l.length*82:=by
 rw[Ie,MI,DK]
 have:=FM (l:=l) (f:=(fun a=>(Dc (d+2) a).length) ∘ Fl) (B:=82) fun x _=>iz d x
 omega
structure VF (c:Chg):Prop where
 lines:c.lines.length≤40
 line: ∀ s∈c.lines,s.length≤3000
 over:c.over.length≤40
 name:c.name.length≤3000
 data:c.data.length≤3000
theorem VE {c:Chg} {q:Sx→Prop} (h1: ∀ n,q (Fo n)) (h2: ∀ x,q (Fl x)) (h3:q (Ch c.name)) (h4:q (Ch c.data)) (h5:q (Du (c.lines.map Ch))) (h6:q (Ie c.over)): ∀ y∈([Fo c.kind]++Jh c++Ho c)++Kb c,q y:=by
 intro y hy
 simp only[Ay,B9]at hy
 rcases hy with ((rfl|hy)|hy)|hy
 ·exact h1 _
 ·unfold Jh at hy
  split at hy
  ·simp only[B9]at hy;subst hy;exact h2 _
  ·cases hy
 ·unfold Ho at hy
  repeat' split at hy
  all_goals simp only[AI,Ar,or_false]at hy
  ·subst hy;exact h1 _
  ·rcases hy with rfl|rfl
   ·exact h2 _
   ·exact h3
  ·subst hy;exact h1 _
  ·subst hy;exact h4
  ·rcases hy with rfl|rfl<;>exact h2 _
 ·unfold Kb at hy
  repeat' split at hy
  all_goals simp only[AI,Ar,or_false]at hy
  ·subst hy;exact h5
  ·subst hy;exact h6
theorem nV (c:Chg):(([Fo c.kind]++Jh c++Ho c)++Kb c).length≤5:=by
 have h1:=QW c
 have h2:=QV c
 have h3:(Kb c).length≤1:=by unfold Kb;repeat' split
                             all_goals simp
 simp only[A7,CQ];omega
theorem qC (d:Nat) {c:Chg} (h:VF c):O4 (d+4) (KX c):=
 Lb (VE (fun n=>ZP (d+2) n) (fun x=>fZ (d+1) x) (Jk (d+2) (by have:=h.name;omega)) (Jk (d+2) (by have:=h.data;omega))
  (Lb fun y hy=>by
   obtain⟨s,hs,rfl⟩:=AX.1 hy
   exact Jk (d+1) (by have:=h.line s hs;omega)) (lB d c.over))
theorem iq (d:Nat) (c:Chg):(([Fo c.kind]++Jh c++Ho c).map (Hs (d+3))).sum≤12:=by
 have h:=FM (l:= [Fo c.kind]++Jh c++Ho c) (f:=Hs (d+3)) (B:=3) fun y hy=>by
  simp only[Ay,B9]at hy
  rcases hy with (rfl|hy)|hy
  ·rw[Se (d+2)];decide
  ·unfold Jh at hy
   split at hy
   ·simp only[B9]at hy;subst hy;rw[W2 (d+1)];decide
   ·cases hy
  ·unfold Ho at hy
   repeat' split at hy
   all_goals simp only[AI,Ar,or_false]at hy
   ·subst hy;rw[Se (d+2)];decide
   ·rcases hy with rfl|rfl
    ·rw[W2 (d+1)];decide
    ·rw[W3 (d+2)];decide
   ·subst hy;rw[Se (d+2)];decide
   ·subst hy;rw[W3 (d+2)];decide
   ·rcases hy with rfl|rfl<;>(rw[W2 (d+1)];decide)
 have h1:=QW c
 have h2:=QV c
 simp only[A7,CQ]at h
 omega
theorem mg (d:Nat) (c:Chg):((Kb c).map (Hs (d+3))).sum≤3*Oq c:=by
 unfold Kb Oq
 repeat' split
 ·simp only[BH,CX,GI,OB]
  rw[Ns (d+2),DK]
  have:=FM (l:=c.lines) (f:=Hs (d+2) ∘ Ch) (B:=1) fun s _=>B4 _
  omega
 ·simp only[BH,CX,GI,OB]
  have:=mf d c.over
  omega
 ·simp
theorem rE (d:Nat) (c:Chg):Hs (d+4) (KX c)≤13+3*Oq c:=by
 rw[KX,Ns,Az,K5]
 have h1:=iq d c
 have h2:=mg d c
 omega
theorem XK {α:Type} {l:List α} {f g:α→Nat} {a b:Nat} (h: ∀ s∈l,f s≤a+b*g s):(l.map f).sum≤l.length*a+b*(l.map g).sum:=by
 induction l with
 |nil=>simp
 |cons x l ih=>
  have h1:=h x (by simp)
  have h2:=ih fun s hs=>h s (by simp[hs])
  simp only[BH,GI,AH,Bq,Nat.mul_add];omega
theorem rJ (d:Nat) {c:Chg} (h:VF c):(Dc (d+4) (KX c)).length≤650000:=by
 rw[KX,MI]
 have h1:=FM (f:=fun y=>(Dc (d+3) y).length) (B:=121000) (VE (c:=c) (q:=fun y=>(Dc (d+3) y).length≤121000) (fun n=>Cd (aL (d+2) n) (by decide)) (fun x=>Cd (iz (d+1) x) (by decide))
  (Cd (JG (d+2) (s:=c.name) (by have:=h.name;omega)) (by have:=h.name;omega)) (Cd (JG (d+2) (s:=c.data) (by have:=h.data;omega)) (by have:=h.data;omega))
  (by
   rw[MI (d+2),DK]
   have:=FM (l:=c.lines) (f:=(fun a=>(Dc (d+2) a).length) ∘ Ch) (B:=3016) fun s hs=>by
    have h3:=h.line s hs
    exact Cd (JG (d+1) (s:=s) (by omega)) (by omega)
   have:=h.lines;omega)
  (by have:=mn d c.over;have:=h.over;omega))
 have h2:=Au 121000 (nV c)
 omega
theorem MF {α:Type} {l:List α} {f:α→Nat} {a:α} (h:a∈l):f a≤(l.map f).sum:=by
 induction l with
 |nil=>cases h
 |cons x l ih=>
  simp only[BH,GI]
  rcases AI.1 h with rfl|h
  ·omega
  ·have:=ih h;omega
theorem RI {p:Pat} (h:Hi p=false):p.author.length≤3000∧p.message.length≤3000∧p.deps.length≤20∧p.changes.length≤20∧ ∀ c∈p.changes,VF c:=by
 unfold Hi at h
 simp only[Bz,A8,Ew]at h
 obtain⟨⟨⟨h1,h2⟩,h3⟩,h4⟩:=h
 have ht:dY p=p.author.length+p.message.length+(p.changes.map KA).sum:=rfl
 refine⟨by omega,by omega,by omega,by omega,fun c hc=>?_⟩
 have h5:=h1 c hc
 simp only[ls,si,kb,Bz,A8]at h5
 obtain⟨⟨h6,h7⟩,h8⟩:=h5
 have h9:=MF (f:=KA) hc
 have h10:KA c=c.name.length+c.data.length:=rfl
 refine⟨by omega,fun s hs=>?_,by omega,by omega,by omega⟩
 have:=MF (f:=List.length) hs
 unfold Kp at h7
 omega
theorem X0 {p:Pat} (h:Hi p=false):EA p=false:=by
 obtain⟨h1,h2,h3,h4,h5⟩:=RI h
 have hs:=FM (l:=p.changes) (f:=Oq) (B:=81) fun c hc=>by have a:=(h5 c hc).lines;have b:=(h5 c hc).over;unfold Oq;omega
 unfold Hi at h
 unfold EA
 simp only[Bz,A8,Ew]at h ⊢
 obtain⟨⟨⟨g1,g2⟩,g3⟩,g4⟩:=h
 refine⟨⟨⟨⟨fun c hc=>?_,by omega⟩,by omega⟩,by omega⟩,by omega⟩
 have k1:=g1 c hc
 have k2: ¬3000 < (KA c:Int):=by
  have:=MF (f:=KA) hc
  have ht:dY p=p.author.length+p.message.length+(p.changes.map KA).sum:=rfl
  omega
 simp only[kb]at k1
 simp[k1,k2]
theorem Hv {p:Pat} (h:EA p=false):p.author.length≤30000∧p.message.length≤30000∧p.deps.length≤200∧p.changes.length≤200∧ ∀ c∈p.changes,VF c:=by
 unfold EA at h
 simp only[Bz,A8,Ew]at h
 obtain⟨⟨⟨⟨h1,h2⟩,h3⟩,h4⟩,_⟩:=h
 have ht:dY p=p.author.length+p.message.length+(p.changes.map KA).sum:=rfl
 refine⟨by omega,by omega,by omega,by omega,fun c hc=>?_⟩
 have h5:=h1 c hc
 simp only[ls,si,kb,Bz,A8]at h5
 obtain⟨⟨⟨h6,h7⟩,h8⟩,h9⟩:=h5
 have h10:KA c=c.name.length+c.data.length:=rfl
 refine⟨by omega,fun s hs=>?_,by omega,by omega,by omega⟩
 have:=MF (f:=List.length) hs
 unfold Kp at h7
 omega
theorem nf {p:Pat} (h:EA p=false):(p.changes.map Oq).sum≤2000:=by
 unfold EA at h
 simp only[Bz,A8]at h
 omega
theorem NP {p:Pat} (h:EA p=false):VA p:=by
 obtain⟨h1,h2,h3,h4,h5⟩:=Hv h
 have hsum:=nf h
 refine⟨by omega,by omega,fun c hc=>⟨by have:=(h5 c hc).lines;omega,by have:=(h5 c hc).over;omega⟩,⟨?_,?_⟩,?_⟩
 ·refine Lb (d:=7) fun y hy=>?_
  simp only[AI,Ar,or_false]at hy
  rcases hy with rfl|rfl|rfl|rfl|rfl|rfl
  ·exact Jk 6 (by decide)
  ·exact Jk 6 (by omega)
  ·exact Jk 6 (by omega)
  ·exact ZP 6 _
  ·exact Lb fun y hy=>by obtain⟨x,_,rfl⟩:=AX.1 hy;exact fa 5 x
  ·exact Lb fun y hy=>by obtain⟨x,hx,rfl⟩:=AX.1 hy;exact qC 2 (h5 x hx)
 ·rw[Vj,Ns 7]
  simp only[BH,CX,GI,OB,W3 6,Se 6,Ns 6,DK]
  have e1:=FM (l:=p.deps) (f:=Hs 6 ∘ Jn) (B:=1) fun x _=>Dd (im 5 x)
  have e2:=XK (l:=p.changes) (f:=Hs 6 ∘ KX) (g:=Oq) (a:=13) (b:=3) fun x _=>rE 2 x
  have e3:=Au 13 h4
  omega
 ·rw[Mn,Vj,MI 7]
  simp only[BH,CX,GI,OB]
  have e0:(Dc 7 (Ch [113,117,105,108,116,49])).length≤22:=JG 6 (s:= [113,117,105,108,116,49]) (by decide)
  have e1:(Dc 7 (Ch p.author)).length≤16+p.author.length:=JG 6 (s:=p.author) (by omega)
  have e2:(Dc 7 (Ch p.message)).length≤16+p.message.length:=JG 6 (s:=p.message) (by omega)
  have e3:(Dc 7 (Fo p.time)).length≤32:=aL 6 p.time
  have e8:(Dc 7 (Du (p.deps.map Jn))).length=2+((p.deps.map Jn).map fun a=>(Dc 6 a).length).sum:=MI 6 _
  have e9:(Dc 7 (Du (p.changes.map KX))).length=2+((p.changes.map KX).map fun a=>(Dc 6 a).length).sum:=MI 6 _
  rw[DK]at e8 e9
  have e4:=FM (l:=p.deps) (f:=(fun a=>(Dc 6 a).length) ∘ Jn) (B:=48) fun x _=>j0 5 x
  have e5:=FM (l:=p.changes) (f:=(fun a=>(Dc 6 a).length) ∘ KX) (B:=650000) fun x hx=>rJ 2 (h5 x hx)
  have e6:=Au 650000 h4
  have e7:=Au 48 h3
  omega
def Cj (p:Pat):Str × Int:=if(Cv p).2≠0 then([],(Cv p).2)else Jo p
theorem Pa (p:Pat):(Cj p).1.length≤65536:=by
 unfold Cj Jo
 split
 ·simp
 ·split
  ·simp
  ·dsimp only;omega
instance sO (p:Pat) [hs:B0 (EA p=false)]:Bj Tryz.prog 167 [.agg (Cc p)] (.tuple [.str (Cj p).1,.raw (.int .i64 (Cj p).2)]):=⟨by
 have i1:B0 (VA p):=⟨NP hs.out⟩
 refine Aj Tryz.func167 Tryz.ntmps167 rfl (rs:= [.tmp 2,.tmp 3]) rfl rfl fun hb LF=>?_
 refine Cx fun b=>?_
 refine AN (fun h=>?_) (fun h=>?_)
 ·refine AY ?_
  refine Ei ?_
  rw[Cj,if_pos h]
  exact .refl _
 ·refine AY ?_
  refine Ei ?_
  rw[Cj,if_neg (by simp[h])]
  exact .refl _⟩
instance tZ (p:Pat) [hs:B0 (EA p=false)]:Bj Tryz.prog 169 [.agg (Cc p)] (.raw (.int .i64 (Cj p).2)):=⟨by
 refine Aj Tryz.func169 Tryz.ntmps169 rfl (rs:= [.tmp 2]) rfl rfl fun hb LF=>?_
 refine Cx fun b=>?_
 exact Al (.refl _)⟩
def EW (p:Pat):Dig × Int:=if(Cj p).2≠0 then(Dig.zero,(Cj p).2)else(dZ (Cj p).1,0)
instance xh (p:Pat) [hs:B0 (EA p=false)]:Bj Tryz.prog 120 [.agg (Cc p)] (.tuple [.agg (eDig (EW p).1),.raw (.int .i64 (EW p).2)]):=⟨by
 have i1:B0 ((Cj p).1.length≤1000000):=⟨by have:=Pa p;omega⟩
 refine Aj Tryz.func120 Tryz.ntmps120 rfl (rs:= [.cell 2 45,.tmp 3]) rfl rfl fun hb LF=>?_
 refine Cx fun b=>?_
 refine Ef fun b2=>?_
 refine AN (fun h=>?_) (fun h=>?_)
 ·refine AY ?_
  refine CJ rfl (.of_eq ?_)
  rw[EW,if_pos h]
 ·refine AY ?_
  refine CJ rfl (.of_eq ?_)
  rw[EW,if_neg (by simp[h])]⟩
end Go.Proofs
namespace Go.Q
open Go
structure sC {α β:Type} (B:α→β→Prop):Prop where
 out: ∀ a b,B a b
section
variable {P:Program} {N:Nat} {all:Array Oper} {K:Env→List Res→Prop} {fl:List Bool} {os:List Oper} {ρ:Env} {L:List Res} {Q:PPost} {c:Code} {d:Nat} {ty:TypeId} {pos:String} {af:Array Edge}
theorem qk (i:Nat) (x:PV) (hx:ρ i=x) (k:Bd x→EB P N c Q ρ L):EB P N c Q ρ L:=fun ro base a w g hs=>k (hx ▸ (hs.agr.slot i).bd) ro base a w g hs
theorem qZ {T sz by_:Nat} [hE:Ff P T sz by_] {x0 x1 x2 x3:Operand} {a0 a1 a2 a3:PV} {α:Type} {f:α→List PV} {e0 e1 e2 e3:α} (q0:ρ.ev x0=a0) (q1:ρ.ev x1=a1) (q2:ρ.ev x2=a2) (q3:ρ.ev x3=a3) [hC0:Fg a0 f e0] [hC1:Fg a1 f e1] [hC2:Fg a2 f e2] [hC3:Fg a3 f e3] [hf:KY f sz] (h24:4*sz≤16777216)
  (k: ∀ t,AW P N all K fl.tail os (CT ρ d (.slice ([e0,e1,e2,e3].map f) t)) (.tok t [e0,e1,e2,e3].length sz::L)) (hd:Nat.blt d N=true:=by rfl) (hfl:fl.headD true=true:=by rfl):AW P N all K fl (⟨some d,.buildSlice T 4 #[(0,x0),(1,x1),(2,x2),(3,x3)],ty,pos,af,none⟩::os) ρ L:=
 Dp rfl (QF hd) hfl (bt (n:=4) (xs:= [x0,x1,x2,x3]) (cs:= [e0,e1,e2,e3].map f) rfl rfl h24 (by decide) (fun i h1 h2=>by
  match i,h1,h2 with
  |0,_,_=>exact⟨q0 ▸ hC0.out,hf.out e0⟩
  |1,_,_=>exact⟨q1 ▸ hC1.out,hf.out e1⟩
  |2,_,_=>exact⟨q2 ▸ hC2.out,hf.out e2⟩
  |3,_,_=>exact⟨q3 ▸ hC3.out,hf.out e3⟩
  |m+4,h1,_=>exact absurd h1 (by simp only[AH,Aa];omega)) k)
theorem lF {A:Prop} {B:Nat→CZ→Prop} (k: ∀ b t,B b t) (h:sC B→A:=by
  intro hB
  refine fb ?_
  first|refine Xi (by rfl) fun b=>?_|refine BN fun b=>?_
  refine fb ?_
  refine qZ (by(conv=>lhs;whnf);done) (by(conv=>lhs;whnf);done) (by(conv=>lhs;whnf);done) (by(conv=>lhs;whnf);done) (hC0:=(by first|infer_instance|fail)) (hC1:=(by first|infer_instance|fail)) (hC2:=(by first|infer_instance|fail)) (hC3:=(by first|infer_instance|fail)) (hf:=(by first|infer_instance|fail)) (by decide) fun t=>?_
  refine AY ?_
  exact hB.out b t):A:=h ⟨k⟩
end
def Eo (l:List Dig):Prop:=l.Pairwise Dig.lt
theorem Eo.nil:Eo []:=List.Pairwise.nil
theorem Eo.nodup {l:List Dig} (h:Eo l):l.Nodup:=List.Pairwise.imp (fun h=>Dig.ne_of_lt h) h
theorem Ql {x d:Dig}: ∀ {l:List Dig},x∈Fu l d↔x=d∨x∈l
 | []=>by simp[Fu]
 |y::l=>by
  unfold Fu
  split
  ·simp only[AI,Ql (l:=l)]
   constructor
   ·rintro(h|h|h)
    ·exact .inr (.inl h)
    ·exact .inl h
    ·exact .inr (.inr h)
   ·rintro(h|h|h)
    ·exact .inr (.inl h)
    ·exact .inl h
    ·exact .inr (.inr h)
  ·split
   ·rename_i h;subst h
    simp only[AI]
    constructor
    ·exact .inr
    ·rintro(h|h)
     ·exact .inl h
     ·exact h
   ·simp only[AI]
theorem UB {d:Dig}: ∀ {l:List Dig},Eo l→Eo (Fu l d)
 | [],_=>by unfold Fu;exact Fj _ _
 |y::l,h=>by
  obtain⟨h1,h2⟩:=Bc.1 h
  unfold Fu
  split
  ·rename_i hy
   refine Bc.2 ⟨fun z hz=>?_,UB h2⟩
   rcases Ql.1 hz with rfl|hz
   ·exact hy
   ·exact h1 z hz
  ·rename_i hy
   split
   ·exact h
   ·rename_i hne
    have hlt:Dig.lt d y:=by
     rcases Dig.tri d y with h'|h'|h'
     ·exact h'
     ·exact absurd h'.symm hne
     ·exact absurd h' hy
    refine Bc.2 ⟨fun z hz=>?_,h⟩
    rcases AI.1 hz with rfl|hz
    ·exact hlt
    ·exact Dig.lt_trans hlt (h1 z hz)
theorem dA {l:List Dig} {d:Dig}:(Fu l d).length≤l.length+1:=by
 induction l with
 |nil=>simp[Fu]
 |cons y l ih=>
  unfold Fu
  split
  ·simp only[AH];omega
  ·split<;>simp only[AH]<;>omega
theorem Eo.ext: ∀ {l m:List Dig},Eo l→Eo m→(∀ d,d∈l↔d∈m)→l=m
 | [],[],_,_,_=>rfl
 | [],y::m,_,_,h=>absurd ((h y).2 (by simp)) (by simp)
 |x::l,[],_,_,h=>absurd ((h x).1 (by simp)) (by simp)
 |x::l,y::m,hl,hm,h=>by
  obtain⟨l1,l2⟩:=Bc.1 hl
  obtain⟨m1,m2⟩:=Bc.1 hm
  have e:x=y:=by
   rcases AI.1 ((h x).1 (by simp))with h1|h1
   ·exact h1
   ·rcases AI.1 ((h y).2 (by simp))with h2|h2
    ·exact h2.symm
    ·exact absurd (l1 y h2) (Dig.lt_asymm (m1 x h1))
  subst e
  congr 1
  refine Eo.ext l2 m2 fun d=>?_
  have hd:=h d
  simp only[AI]at hd
  constructor
  ·intro h1
   rcases hd.1 (.inr h1)with h2|h2
   ·subst h2;exact absurd (l1 _ h1) (Dig.lt_irrefl _)
   ·exact h2
  ·intro h1
   rcases hd.2 (.inr h1)with h2|h2
   ·subst h2;exact absurd (m1 _ h1) (Dig.lt_irrefl _)
   ·exact h2
def C9 (l m:List Dig):List Dig:=m.foldl Fu l
theorem EO {x:Dig}: ∀ {m l:List Dig},x∈C9 l m↔x∈l∨x∈m
 | [],l=>by simp[C9]
 |d::m,l=>by
  show x∈C9 (Fu l d) m↔_
  rw[EO,Ql,AI]
  constructor
  ·rintro((h|h)|h)
   ·exact .inr (.inl h)
   ·exact .inl h
   ·exact .inr (.inr h)
  ·rintro(h|h|h)
   ·exact .inl (.inr h)
   ·exact .inl (.inl h)
   ·exact .inr h
theorem EL: ∀ {m l:List Dig},Eo l→Eo (C9 l m)
 | [],_,h=>h
 |d::m,l,h=>by show Eo (C9 (Fu l d) m);exact EL (UB h)
theorem KZ: ∀ {m l:List Dig},(C9 l m).length≤l.length+m.length
 | [],_=>by simp[C9]
 |d::m,l=>by
  show(C9 (Fu l d) m).length≤_
  have h1:=KZ (m:=m) (l:=Fu l d)
  have h2:=dA (l:=l) (d:=d)
  simp only[AH];omega
theorem FJ {α:Type} [DecidableEq α] {l:List α} (hl:l.Nodup) {m:List α} (h: ∀ d∈l,d∈m):l.length≤m.length:=by
 induction l generalizing m with
 |nil=>simp
 |cons x l ih=>
  obtain⟨h1,h2⟩:=CP.1 hl
  have hx:x∈m:=h x (by simp)
  have:=ih h2 (m:=m.erase x) fun d hd=>by
   have hne:d≠x:=fun e=>h1 (e ▸ hd)
   exact(List.mem_erase_of_ne hne).2 (h d (by simp[hd]))
  rw[List.length_erase_of_mem hx]at this
  have hp:0 < m.length:=List.length_pos_of_mem hx
  simp only[AH];omega
def Oj (nd:Dig→List Dig) (out:List Dig):List Dig:=out.foldl (fun m x=>C9 m (nd x)) out
def Jj (nd:Dig→List Dig):Nat→List Dig→List Dig
 |0,out=>out
 |n+1,out=>Jj nd n (Oj nd out)
inductive Reach (nd:Dig→List Dig) (ids:List Dig):Dig→Prop
 |base {d:Dig} (h:d∈ids):Reach nd ids d
 |step {x d:Dig} (h:Reach nd ids x) (hd:d∈nd x):Reach nd ids d
section
variable {nd:Dig→List Dig}
theorem Qo {y:Dig}: ∀ {l m:List Dig},y∈l.foldl (fun m x=>C9 m (nd x)) m↔y∈m∨ ∃ x∈l,y∈nd x
 | [],m=>by simp
 |x::l,m=>by
  rw[ED,Qo,EO]
  simp only[AI,exists_eq_or_imp]
  rw[or_assoc]
theorem Qw: ∀ {l m:List Dig},Eo m→Eo (l.foldl (fun m x=>C9 m (nd x)) m)
 | [],_,h=>h
 |x::l,m,h=>by rw[ED];exact Qw (EL h)
theorem J3 {y:Dig} {out:List Dig}:y∈Oj nd out↔y∈out∨ ∃ x∈out,y∈nd x:=Qo
theorem Oi {out:List Dig} (h:Eo out):Eo (Oj nd out):=Qw h
theorem Qs: ∀ {n:Nat} {out:List Dig},Eo out→Eo (Jj nd n out)
 |0,_,h=>h
 |n+1,_,h=>Qs (n:=n) (Oi h)
theorem RB {ids:List Dig}: ∀ {n:Nat} {out:List Dig},(∀ d∈out,Reach nd ids d)→ ∀ d∈Jj nd n out,Reach nd ids d
 |0,_,h=>h
 |n+1,out,h=>RB (n:=n) fun d hd=>by
  rcases J3.1 hd with h1|⟨x,hx,h1⟩
  ·exact h d h1
  ·exact .step (h x hx) h1
theorem YR {U:List Dig} (hU: ∀ x∈U,∀ d∈nd x,d∈U): ∀ {n:Nat} {out:List Dig},(∀ d∈out,d∈U)→ ∀ d∈Jj nd n out,d∈U
 |0,_,h=>h
 |n+1,out,h=>YR hU (n:=n) fun d hd=>by
  rcases J3.1 hd with h1|⟨x,hx,h1⟩
  ·exact h d h1
  ·exact hU x (h x hx) d h1
theorem Ui: ∀ {n:Nat} {out:List Dig} {d:Dig},d∈out→d∈Jj nd n out
 |0,_,_,h=>h
 |n+1,_,_,h=>Ui (n:=n) (J3.2 (.inl h))
theorem Po {U:List Dig} (hU: ∀ x∈U,∀ d∈nd x,d∈U): ∀ {n:Nat} {out:List Dig},Eo out→(∀ d∈out,d∈U)→U.length+1≤out.length+n∨out= []∨(∀ x∈out,∀ d∈nd x,d∈out)→ ∀ x∈Jj nd n out,∀ d∈nd x,d∈Jj nd n out
 |0,out,ha,hu,h=>by
  rcases h with h|h|h
  ·have:=FJ ha.nodup hu
   omega
  ·subst h;intro x hx;cases hx
  ·exact h
 |n+1,out,ha,hu,h=>by
  have hu': ∀ d∈Oj nd out,d∈U:=YR hU (n:=1) hu
  refine Po hU (n:=n) (Oi ha) hu' ?_
  by_cases hc: ∀ x∈out,∀ d∈nd x,d∈out
  ·refine .inr (.inr ?_)
   have e:Oj nd out=out:=Eo.ext (Oi ha) ha fun d=>by
    rw[J3]
    constructor
    ·rintro(h1|⟨x,hx,h1⟩)
     ·exact h1
     ·exact hc x hx d h1
    ·exact .inl
   rw[e];exact hc
  ·rcases h with h|h|h
   ·refine .inl ?_
    have:out.length+1≤(Oj nd out).length:=by
     have⟨x,hx⟩:=Classical.not_forall.1 hc
     have⟨hx1,hx2⟩:=Classical.not_imp.1 hx
     have⟨d,hd⟩:=Classical.not_forall.1 hx2
     have⟨hd1,hd2⟩:=Classical.not_imp.1 hd
     have hn:(d::out).Nodup:=CP.2 ⟨hd2,ha.nodup⟩
     have:=FJ hn (m:=Oj nd out) fun y hy=>by
      rcases AI.1 hy with rfl|hy
      ·exact J3.2 (.inr ⟨x,hx1,hd1⟩)
      ·exact J3.2 (.inl hy)
     simpa using this
    omega
   ·subst h
    exact absurd (fun x hx=>by cases hx) hc
   ·exact absurd h hc
theorem Qm {U ids:List Dig} (hU: ∀ x∈U,∀ d∈nd x,d∈U) (hi: ∀ d∈ids,d∈U) {n:Nat} (hn:U.length≤n) {d:Dig}:d∈Jj nd n (C9 [] ids)↔Reach nd ids d:=by
 have hin: ∀ d∈C9 [] ids,d∈U:=fun d hd=>by
  rcases EO.1 hd with h|h
  ·cases h
  ·exact hi d h
 refine⟨fun h=>RB (fun d hd=>?_) d h,fun h=>?_⟩
 ·rcases EO.1 hd with h|h
  ·cases h
  ·exact .base h
 ·have ha:Eo (C9 [] ids):=EL .nil
  have hcl:=Po (nd:=nd) hU (n:=n) ha hin (by
   cases hw:C9 [] ids with
   |nil=>exact .inr (.inl rfl)
   |cons x l=>exact .inl (by simp;omega))
  induction h with
  |base h=>exact Ui (EO.2 (.inr h))
  |step h hd ih=>exact hcl _ ih _ hd
theorem Reach.in_ {U ids:List Dig} (hU: ∀ x∈U,∀ d∈nd x,d∈U) (hi: ∀ d∈ids,d∈U) {d:Dig} (h:Reach nd ids d):d∈U:=by
 induction h with
 |base h=>exact hi _ h
 |step h hd ih=>exact hU _ ih _ hd
end
section
variable (clo:Dig→List Dig)
end
end Go.Q
namespace Go.Proofs
open Go Go.Q
attribute [local irreducible] EB AW B2 FW
def Qe (c:Chg):List Ident:= [c.file,c.parent,c.after,c.before]++c.over
def FQ (l:List Ident):List Dig:=(l.filter fun x=>!decide (x.patch=Dig.zero)).map (·.patch)
def Nm (m:List Dig) (c:Chg):List Dig:=C9 m (FQ (Qe c))
def BX (p:Pat):List Dig:=if(Cj p).2≠0 then []else p.changes.foldl Nm (C9 [] p.deps)
theorem H5 (l m:List Dig) (d:Dig):C9 l (m++ [d])=Fu (C9 l m) d:=by
 unfold C9;rw[DF];rfl
theorem Vn (l:List Ident):(FQ l).length≤l.length:=by
 unfold FQ;rw[AF];exact CR _ _
theorem Tj {l:List Ident} {k:Nat} (h:k < l.length):FQ (l.take (k+1))=FQ (l.take k)++(if l[k].patch=Dig.zero then []else [l[k].patch]):=by
 unfold FQ
 rw[A6 h,DI,Az]
 by_cases hz:l[k].patch=Dig.zero<;>simp[hz]
instance vN (p:Pat) [hs:B0 (EA p=false)]:Bj Tryz.prog 123 [.agg (Cc p)] (.slice ((BX p).map eDig) .ro):=⟨by
 obtain⟨_,_,hd,hch,hcs⟩:=Hv hs.out
 refine Aj Tryz.func123 Tryz.ntmps123 rfl (rs:= [.tmp 2]) rfl rfl fun hb LF=>?_
 refine Cx fun b=>?_
 refine AN (fun h=>?_) (fun h=>?_)
 ·refine AY ?_
  refine Al ?_
  rw[BX,if_pos h]
  exact .ro _ _
 rw[BX,if_neg (by simp[h])]
 refine AY ?_
 refine AV (σ:=Nat × List Dig × CZ) (fun k=>k.1≤p.deps.length∧k.2.1=C9 [] (p.deps.take k.1)) (fun k=>p.deps.length - k.1) (fun k=> [(1,.raw (.pointer (some ⟨b,0,none⟩))),(3,.slice (k.2.1.map eDig) k.2.2),(4,.raw (.int .i64 k.1))]) (fun _=> .box b 42 (Cc p)::LF) (0,[],.nil) ⟨by simp,by simp[C9]⟩ ⟨rfl,rfl,rfl⟩ (.refl _) ?_
 rintro⟨k,out,t⟩ ⟨hk,ho⟩
 dsimp only at hk ho ⊢
 have hol:out.length≤200:=by
  rw[ho]
  have:=KZ (m:=p.deps.take k) (l:= [])
  simp only[AG,Aa]at this;omega
 refine AY ?_
 refine A1 (fun hc=>?_) (fun hc=>?_)
 ·have hlt:k < p.deps.length:=by omega
  have:B0 (out.length≤1000000):=⟨by omega⟩
  refine AY ?_
  refine⟨(k+1,Fu out p.deps[k],.ro),⟨by dsimp only;omega,by dsimp only;rw[A6 hlt,H5,ho]⟩,by dsimp only;omega,⟨rfl,rfl,rfl⟩,.refl _⟩
 rw[AA (by omega)]at ho
 refine AY ?_
 refine AV (σ:=Nat × List Dig × CZ) (fun k=>k.1≤p.changes.length∧k.2.1.length≤200+k.1*44∧k.2.1=(p.changes.take k.1).foldl Nm (C9 [] p.deps)) (fun k=>p.changes.length - k.1) (fun k=> [(1,.raw (.pointer (some ⟨b,0,none⟩))),(3,.slice (k.2.1.map eDig) k.2.2),(5,.raw (.int .i64 k.1))]) (fun _=> .box b 42 (Cc p)::LF) (0,out,t) ⟨by simp,by simp;omega,by simp[ho]⟩ ⟨rfl,rfl,rfl⟩ (.refl _) ?_
 clear ho hol hk hc k out t
 rintro⟨k,out,t⟩ ⟨hk,hol,ho⟩
 dsimp only at hk hol ho ⊢
 refine AY ?_
 refine A1 (fun hc=>?_) (fun hc=>?_)
 ·have hlt:k < p.changes.length:=by omega
  have hov:=(hcs _ (AO hlt)).over
  refine lF fun b2 t2=>?_
  refine Fk fun t3=>?_
  generalize hl: [p.changes[k].file,p.changes[k].parent,p.changes[k].after,p.changes[k].before]++p.changes[k].over=l
  have hll:l.length≤44:=by rw[←hl];simp only[A7,AH,Aa];omega
  refine AV (σ:=Nat × List Dig × CZ) (fun j=>j.1≤l.length∧j.2.1=C9 out (FQ (l.take j.1))) (fun j=>l.length - j.1) (fun j=> [(1,.raw (.pointer (some ⟨b,0,none⟩))),(3,.slice (j.2.1.map eDig) j.2.2),(5,.raw (.int .i64 k)),(7,.slice (l.map eIdent) t3),(8,.raw (.int .i64 j.1))]) (fun _=> .box b 42 (Cc p)::LF) (0,out,t) ⟨by simp,by simp[FQ,C9]⟩ ⟨rfl,rfl,rfl,rfl,rfl⟩ (.cons _ (.cons _ (.refl _))) ?_
  rintro⟨j,m,u⟩ ⟨hj,hm⟩
  dsimp only at hj hm ⊢
  have hml:m.length≤200+k*44+44:=by
   rw[hm]
   have h1:=KZ (m:=FQ (l.take j)) (l:=out)
   have h2:=Vn (l.take j)
   have h3:(l.take j).length≤44:=by rw[AG];omega
   omega
  refine AY ?_
  refine A1 (fun hc2=>?_) (fun hc2=>?_)
  ·have hlt2:j < l.length:=by omega
   have e:=Tj hlt2
   refine AY ?_
   refine AN (fun hz=>?_) (fun hz=>?_)
   ·have:B0 (m.length≤1000000):=⟨by omega⟩
    refine AY ?_
    rw[if_neg hz]at e
    refine⟨(j+1,Fu m l[j].patch,.ro),⟨by dsimp only;omega,by dsimp only;rw[e,H5,hm]⟩,by dsimp only;omega,⟨rfl,rfl,rfl,rfl,rfl⟩,.refl _⟩
   ·refine AY ?_
    rw[if_pos hz,B1]at e
    refine⟨(j+1,m,u),⟨by dsimp only;omega,by dsimp only;rw[e,hm]⟩,by dsimp only;omega,⟨rfl,rfl,rfl,rfl,rfl⟩,.refl _⟩
  ·refine AY ?_
   rw[AA (by omega)]at hm
   have e:(p.changes.take (k+1)).foldl Nm (C9 [] p.deps)=m:=by
    rw[A6 hlt,DF,←ho,hm,←hl];rfl
   refine⟨(k+1,m,u),⟨by dsimp only;omega,by dsimp only;omega,e.symm⟩,by dsimp only;omega,⟨rfl,rfl,rfl⟩,.refl _⟩
 ·refine AY ?_
  refine Al ?_
  rw[AA (by omega)]at ho
  rw[←ho]
  exact .ro _ _⟩
def xN (x:Sto):Nat:=(x.patch.changes.map Oq).sum
def Gp (s:List Sto):Bool:=(s.take 9).any (fun x=>Hi x.patch)||decide (8 < (s.length:Int))||decide (300 < (((s.take 9).map xN).sum:Int))
theorem lr {c:Chg} (h:VF c):Oq c≤81:=by have:=h.lines;have:=h.over;unfold Oq;omega
instance vS (s:List Sto) (t:CZ):Bj Tryz.prog 107 [.slice (s.map eSto) t,.raw (.int .i64 8)] (.raw (.bool (Gp s))):=⟨by
 refine Aj Tryz.func107 Tryz.ntmps107 rfl (rs:= [.tmp 4]) rfl rfl fun hb LF=>?_
 have hlen:s.length≤140737488355328:=(hb (.slice (s.map eSto) t) (by simp)).slice_map
 refine AY ?_
 refine AV (σ:=Nat × Nat) (fun k=>k.1≤s.length∧k.1≤9∧(∀ i (h:i < s.length),i < k.1→Hi s[i].patch=false)∧k.2≤k.1*1620∧k.2=((s.take k.1).map xN).sum) (fun k=>s.length - k.1) (fun k=> [(0,.slice (s.map eSto) t),(1,.raw (.int .i64 8)),(5,.raw (.int .i64 (k.2:Int))),(6,.raw (.int .i64 (k.1:Int)))]) (fun _=>LF) (0,0) ⟨by simp,by simp,by simp,by simp,by simp⟩ ⟨rfl,rfl,rfl,rfl⟩ (.refl _) ?_
 rintro⟨i,n⟩ ⟨hi,hi9,hg,hn,hs⟩
 dsimp only at hi hi9 hg hn hs ⊢
 have fin:(i:Int) < s.length∧(i:Int)≤8∨ ¬((i:Int) < s.length∧(i:Int)≤8):=Classical.em _
 refine AY ?_
 refine BB [(16,.raw (.bool (decide ((i:Int) < s.length∧(i:Int)≤8)))),(0,.slice (s.map eSto) t),(1,.raw (.int .i64 8)),(5,.raw (.int .i64 (n:Int))),(6,.raw (.int .i64 (i:Int)))] (LF) ?_ ?_
 ·repeat' (first|(refine A1 (fun h=>?_) (fun h=>?_)<;>refine AY ?_)|(refine AN (fun h=>?_) (fun h=>?_)<;>refine AY ?_)|(refine AU (fun h=>?_) (fun h=>?_)<;>refine AY ?_)|(refine Aw (fun h=>?_) (fun h=>?_)<;>(have h2:=h;(try simp only[AJ,A8,AQ,AR]at h2);refine Bp ?_)))
  all_goals (refine⟨⟨BW (by rfl) ?_,rfl,rfl,rfl,rfl⟩,.refl _⟩;first|(simp_all;done)|(simp_all;omega)|grind)
 refine AY ?_
 clear fin
 refine A1 (fun hc=>?_) (fun hc=>?_)
 ·have hlt:i < s.length:=by omega
  refine AY ?_
  refine AU (fun h=>?_) (fun h=>?_)
  ·refine AY ?_
   refine Al (.of_eq ?_)
   have:(s.take 9).any (fun x=>Hi x.patch)=true:=by
    rw[Bg]
    exact⟨s[i],Ak.2 ⟨i,by rw[AG];omega,by simp⟩,h⟩
   rw[Gp,this];rfl
  obtain⟨_,_,_,hch,hcs⟩:=RI h
  refine AY ?_
  refine AV (σ:=Nat × Nat) (fun j=>j.1≤s[i].patch.changes.length∧j.2≤n+j.1*81∧j.2=n+((s[i].patch.changes.take j.1).map Oq).sum) (fun j=>s[i].patch.changes.length - j.1) (fun j=> [(0,.slice (s.map eSto) t),(1,.raw (.int .i64 8)),(5,.raw (.int .i64 (j.2:Int))),(6,.raw (.int .i64 (i:Int))),(7,.raw (.int .i64 (j.1:Int)))]) (fun _=>LF) (0,n) ⟨by simp,by simp,by simp⟩ ⟨rfl,rfl,rfl,rfl,rfl⟩ (.refl _) ?_
  rintro⟨j,m⟩ ⟨hj,hm,hms⟩
  dsimp only at hj hm hms ⊢
  refine AY ?_
  refine A1 (fun hc2=>?_) (fun hc2=>?_)
  ·have hlt2:j < s[i].patch.changes.length:=by omega
   have hco:=hcs _ (AO hlt2)
   have h81:=lr hco
   have hl40:=hco.lines
   have ho40:=hco.over
   have e:=Lk (f:=Oq) hlt2
   have e2:Oq s[i].patch.changes[j]=1+s[i].patch.changes[j].lines.length+s[i].patch.changes[j].over.length:=rfl
   refine AY ?_
   refine⟨(j+1,m+Oq s[i].patch.changes[j]),⟨by dsimp only;omega,by dsimp only;omega,by dsimp only;omega⟩,by dsimp only;omega,⟨rfl,rfl,?_,rfl,rfl⟩,.refl _⟩
   show PV.raw (Value.int .i64 _)=PV.raw (Value.int .i64 _)
   congr 2;dsimp only;omega
  ·refine AY ?_
   rw[AA (by omega)]at hms
   have e:=Lk (f:=xN) hlt
   refine⟨(i+1,m),⟨by dsimp only;omega,by dsimp only;omega,fun x hx hxi=>?_,by dsimp only;omega,?_⟩,by dsimp only;omega,⟨rfl,rfl,rfl,rfl⟩,.refl _⟩
   ·rcases BC x i with h'|h'
    ·exact hg x hx h'
    ·have:x=i:=by dsimp only at hxi;omega
     subst this;exact h
   ·dsimp only;rw[e,←hs];exact hms
 ·refine AY ?_
  have hany:(s.take 9).any (fun x=>Hi x.patch)=false:=by
   rw[Ew];intro x hx
   obtain⟨j,hj,rfl⟩:=Ak.1 hx
   rw[AG]at hj
   simp only[Ep]
   rw[hg j (by omega) (by omega)];simp
  have htk:s.take i=s.take 9:=by
   by_cases h9:i=9
   ·rw[h9]
   ·rw[AA (by omega),AA (by omega)]
  rw[htk]at hs
  have key:Gp s=(decide (8 < (s.length:Int))||decide (300 < (n:Int))):=by rw[Gp,hany,IB,←hs]
  rw[key]
  clear key hany hs htk hg
  repeat' (first|(refine A1 (fun h=>?_) (fun h=>?_)<;>refine AY ?_)|(refine AN (fun h=>?_) (fun h=>?_)<;>refine AY ?_)|(refine AU (fun h=>?_) (fun h=>?_)<;>refine AY ?_)|(refine Aw (fun h=>?_) (fun h=>?_)<;>(have h2:=h;(try simp only[AJ,A8,AQ,AR]at h2);refine Bp ?_)))
  all_goals (refine Al (.of_eq ?_);first|(simp_all;done)|grind)⟩
instance tV (s:List Sto) (t:CZ):Bj Tryz.prog 49 [.slice (s.map eSto) t] (.raw (.bool (Gp s))):=⟨by
 refine Aj Tryz.func49 Tryz.ntmps49 rfl (rs:= [.tmp 2]) rfl rfl fun hb LF=>?_
 refine AY ?_
 exact Al (.refl _)⟩
def DX (s:List Sto):Prop:=s.length≤200∧ ∀ x∈s,EA x.patch=false
def GQ (s:List Sto) (out:List Dig) (k:Int) (i:Nat):Int:=
 if(¬(s.getD i Sto.zero).id∈out∧Ck out (BX (s.getD i Sto.zero).patch)=true)∧(k < 0∨DY (s.getD i Sto.zero).id (s.getD k.toNat Sto.zero).id < 0)then(i:Int)else k
def Kf (s:List Sto) (out:List Dig):Int:=(List.range s.length).foldl (GQ s out) (-1)
def NA (s:List Sto):Nat→List Dig→List Dig
 |0,out=>out
 |n+1,out=>if Kf s out < 0 then out else NA s n (out++ [(s.getD (Kf s out).toNat Sto.zero).id])
def Fv (s:List Sto):List Dig:=NA s s.length []
theorem Kr {s:List Sto} {out:List Dig} (n:Nat): -1≤(List.range n).foldl (GQ s out) (-1)∧(List.range n).foldl (GQ s out) (-1) < n:=by
 induction n with
 |zero=>simp
 |succ n ih=>
  rw[Bm]
  generalize (List.range n).foldl (GQ s out) (-1)=k at ih
  unfold GQ
  split<;>omega
instance vM (s:List Sto) (t:CZ) [hs:B0 (DX s)]:Bj Tryz.prog 124 [.slice (s.map eSto) t] (.slice ((Fv s).map eDig) .ro):=⟨by
 obtain⟨hl8,hgr⟩:=hs.out
 refine Aj Tryz.func124 Tryz.ntmps124 rfl (rs:= [.tmp 2]) rfl rfl fun hb LF=>?_
 refine AY ?_
 refine Dw 32 ?_
 refine AV (σ:=Nat × List Dig × CZ) (fun k=>k.1≤s.length∧k.2.1.length+k.1=s.length∧Fv s=NA s k.1 k.2.1) (fun k=>k.1) (fun k=> [(0,.slice (s.map eSto) t),(3,.slice (k.2.1.map eDig) k.2.2)]) (fun k=> .tok k.2.2 k.2.1.length 32::LF) (s.length,[],.nil) ⟨by simp,by simp,rfl⟩ ⟨rfl,rfl⟩ (.refl _) ?_
 rintro⟨n,out,u⟩ ⟨hn,hol,ho⟩
 dsimp only at hn hol ho ⊢
 refine AY ?_
 refine A1 (fun hc=>?_) (fun hc=>?_)
 ·obtain⟨m,rfl⟩: ∃ m,n=m+1:=⟨n - 1,by omega⟩
  rw[NA]at ho
  have hpr:=Kr (s:=s) (out:=out) s.length
  refine AY ?_
  refine AV (σ:=Nat) (fun i=>i≤s.length) (fun i=>s.length - i) (fun i=> [(0,.slice (s.map eSto) t),(3,.slice (out.map eDig) u),(4,.raw (.int .i64 ((List.range i).foldl (GQ s out) (-1)))),(5,.raw (.int .i64 (i:Int)))]) (fun _=> .tok u out.length 32::LF) 0 (by simp) ⟨rfl,rfl,rfl,rfl⟩ (.refl _) ?_
  intro i hi
  have hkr:=Kr (s:=s) (out:=out) i
  have hsucc:=Bm (GQ s out) (-1) i
  generalize hkk:(List.range i).foldl (GQ s out) (-1)=k at hkr hsucc ⊢
  refine AY ?_
  refine A1 (fun hc2=>?_) (fun hc2=>?_)
  ·have hlt:i < s.length:=by omega
   have i1:B0 (EA s[i].patch=false):=⟨hgr _ (AO hlt)⟩
   have e0:s.getD i Sto.zero=s[i]:=by simp[List.getD,hlt]
   rw[GQ,e0]at hsucc
   refine AY ?_
   refine BB [(53,.raw (.bool (decide ((¬s[i].id∈out∧Ck out (BX s[i].patch)=true)∧(k < 0∨DY s[i].id (s.getD k.toNat Sto.zero).id < 0))))),(0,.slice (s.map eSto) t),(3,.slice (out.map eDig) u),(4,.raw (.int .i64 k)),(5,.raw (.int .i64 (i:Int)))] (.tok u out.length 32::LF) ?_ ?_
   ·repeat' (first|(refine A1 (fun h=>?_) (fun h=>?_)<;>refine AY ?_)|(refine AN (fun h=>?_) (fun h=>?_)<;>refine AY ?_)|(refine AU (fun h=>?_) (fun h=>?_)<;>refine AY ?_)|(refine Aw (fun h=>?_) (fun h=>?_)<;>(have h2:=h;(try simp only[AJ,A8,AQ,AR]at h2);refine Bp ?_)))
    all_goals (refine⟨⟨BW (by rfl) ?_,rfl,rfl,rfl,rfl⟩,.refl _⟩;first|(simp_all;done)|(have hkl:k.toNat < s.length:=(by omega);simp_all[List.getD];done)|grind)
   refine AY ?_
   refine A1 (fun h=>?_) (fun h=>?_)
   ·refine AY ?_
    rw[if_pos h]at hsucc
    refine⟨i+1,by omega,by dsimp only;omega,⟨rfl,rfl,?_,rfl⟩,.refl _⟩
    rw[hsucc];rfl
   ·refine AY ?_
    rw[if_neg h]at hsucc
    refine⟨i+1,by omega,by dsimp only;omega,⟨rfl,rfl,?_,rfl⟩,.refl _⟩
    rw[hsucc];rfl
  ·have hii:i=s.length:=by omega
   subst hii
   have hpk:Kf s out=k:=hkk
   rw[hpk]at ho
   refine AY ?_
   refine A1 (fun h=>?_) (fun h=>?_)
   ·refine AY ?_
    rw[if_pos h]at ho
    refine Al ?_
    rw[ho];exact .ro _ _
   ·rw[if_neg h]at ho
    have hkl:k.toNat < s.length:=by omega
    have e0:s.getD k.toNat Sto.zero=s[k.toNat]:=by simp[List.getD,hkl]
    rw[e0]at ho
    refine GX fun u'=>?_
    refine⟨(m,out++ [s[k.toNat].id],u'),⟨by dsimp only;omega,by dsimp only;rw[A7,CQ];omega,ho⟩,by dsimp only;omega,⟨rfl,rfl⟩,.refl _⟩
 ·refine AY ?_
  have hn0:n=0:=by omega
  subst hn0
  refine Al ?_
  rw[ho];exact .ro _ _⟩
theorem Sv:EA Pat.zero=false:=by simp[EA,Pat.zero,dY]
theorem Ox:BX Pat.zero= []:=by
 have h:(Cj Pat.zero).2≠0:=by simp[Cj,Cv,EN,Pat.zero]
 rw[BX,if_pos h]
theorem KL {s:List Sto} {d:Dig} {p:Pat} (h:getS s d=some p): ∃ x∈s,x.id=d∧x.patch=p:=by
 induction s with
 |nil=>cases h
 |cons y s ih=>
  unfold getS at h
  split at h
  ·rename_i he
   exact⟨y,by simp,he,by simpa using h⟩
  ·obtain⟨x,hx,h1⟩:=ih h
   exact⟨x,by simp[hx],h1⟩
def ndS (s:List Sto) (d:Dig):List Dig:=BX ((getS s d).getD Pat.zero)
def KN (s:List Sto):Prop:=DX s∧ ∀ x∈s,∀ d∈BX x.patch,d∈ids s
theorem KN.great {s:List Sto} (h:KN s) (d:Dig):EA ((getS s d).getD Pat.zero)=false:=by
 cases hg:getS s d with
 |none=>exact Sv
 |some p=>
  obtain⟨x,hx,_,rfl⟩:=KL hg
  exact h.1.2 x hx
theorem KN.nd {s:List Sto} (h:KN s) (x:Dig): ∀ d∈ndS s x,d∈ids s:=by
 unfold ndS
 cases hg:getS s x with
 |none=>rw[De,Ox];intro d hd;cases hd
 |some p=>
  obtain⟨y,hy,_,rfl⟩:=KL hg
  exact h.2 y hy
theorem E6 (s:List Sto):(ids s).length=s.length:=by simp[ids]
theorem KN.small {s:List Sto} (h:KN s) {l:List Dig} (ha:Eo l) (hl: ∀ d∈l,d∈ids s):l.length≤200:=by
 have h1:=FJ ha.nodup hl
 have h2:=h.1.1
 rw[E6]at h1;omega
def Df (s:List Sto) (l:List Dig):List Dig × Int:=if Ck (ids s) l=false then([],7)else(Jj (ndS s) s.length (C9 [] l),0)
instance sR (s:List Sto) (l:List Dig) (t u:CZ) [hs:B0 (KN s)]:Bj Tryz.prog 108 [.slice (s.map eSto) t,.slice (l.map eDig) u] (.tuple [.slice ((Df s l).1.map eDig) .ro,.raw (.int .i64 (Df s l).2)]):=⟨by
 have hcl:=hs.out
 have hl8:=hcl.1.1
 refine Aj Tryz.func108 Tryz.ntmps108 rfl (rs:= [.tmp 4,.tmp 5]) rfl rfl fun hb LF=>?_
 have hlen:l.length≤140737488355328:=(hb (.slice (l.map eDig) u) (by simp)).slice_map
 refine AY ?_
 refine AU (fun h=>?_) (fun h=>?_)
 ·refine AY ?_
  refine Ei ?_
  rw[Df,if_pos (by simpa using h)]
  exact .tuple2 (.ro _ _) (.refl _)
 rw[Df,if_neg (by simpa using h)]
 have hin: ∀ d∈l,d∈ids s:=by
  have h':Ck (ids s) l=true:=by simpa using h
  intro d hd
  have:=B5.1 h' d hd
  simpa using this
 refine AY ?_
 refine AV (σ:=Nat × List Dig × CZ) (fun k=>k.1≤l.length∧k.2.1=C9 [] (l.take k.1)) (fun k=>l.length - k.1) (fun k=> [(0,.slice (s.map eSto) t),(1,.slice (l.map eDig) u),(6,.slice (k.2.1.map eDig) k.2.2),(7,.raw (.int .i64 k.1))]) (fun _=>LF) (0,[],.nil) ⟨by simp,by simp[C9]⟩ ⟨rfl,rfl,rfl,rfl⟩ (.refl _) ?_
 rintro⟨k,out,v⟩ ⟨hk,ho⟩
 dsimp only at hk ho ⊢
 have hoa:Eo out:=by rw[ho];exact EL .nil
 have hoi: ∀ d∈out,d∈ids s:=fun d hd=>by
  rw[ho]at hd
  rcases EO.1 hd with h'|h'
  ·cases h'
  ·exact hin d (Ee h')
 have hol:=hcl.small hoa hoi
 refine AY ?_
 refine A1 (fun hc=>?_) (fun hc=>?_)
 ·have hlt:k < l.length:=by omega
  have:B0 (out.length≤1000000):=⟨by omega⟩
  refine AY ?_
  refine⟨(k+1,Fu out l[k],.ro),⟨by dsimp only;omega,by dsimp only;rw[A6 hlt,H5,ho]⟩,by dsimp only;omega,⟨rfl,rfl,rfl,rfl⟩,.refl _⟩
 rw[AA (by omega)]at ho
 refine AY ?_
 refine AV (σ:=Nat × List Dig × CZ) (fun k=>k.1≤s.length∧Eo k.2.1∧(∀ d∈k.2.1,d∈ids s)∧Jj (ndS s) s.length (C9 [] l)=Jj (ndS s) (s.length - k.1) k.2.1) (fun k=>s.length - k.1) (fun k=> [(0,.slice (s.map eSto) t),(6,.slice (k.2.1.map eDig) k.2.2),(8,.raw (.int .i64 k.1))]) (fun _=>LF) (0,out,v) ⟨by simp,hoa,hoi,by simp[ho]⟩ ⟨rfl,rfl,rfl⟩ (.refl _) ?_
 clear ho hoa hoi hol hk hc k out v
 rintro⟨n,out,v⟩ ⟨hn,hoa,hoi,ho⟩
 dsimp only at hn hoa hoi ho ⊢
 have hol:=hcl.small hoa hoi
 refine AY ?_
 refine A1 (fun hc=>?_) (fun hc=>?_)
 ·refine AY ?_
  refine AV (σ:=Nat × List Dig × CZ) (fun i=>i.1≤out.length∧i.2.1=(out.take i.1).foldl (fun m x=>C9 m (ndS s x)) out) (fun i=>out.length - i.1) (fun i=> [(0,.slice (s.map eSto) t),(6,.slice (out.map eDig) v),(8,.raw (.int .i64 n)),(9,.slice (i.2.1.map eDig) i.2.2),(10,.raw (.int .i64 i.1))]) (fun _=>LF) (0,out,v) ⟨by simp,by simp⟩ ⟨rfl,rfl,rfl,rfl,rfl⟩ (.refl _) ?_
  rintro⟨i,more,w⟩ ⟨hi,hm⟩
  dsimp only at hi hm ⊢
  have hma:Eo more:=by rw[hm];exact Qw hoa
  have hmi: ∀ d∈more,d∈ids s:=fun d hd=>by
   rw[hm]at hd
   rcases Qo.1 hd with h'|⟨x,_,h'⟩
   ·exact hoi d h'
   ·exact hcl.nd x d h'
  refine AY ?_
  refine A1 (fun hc2=>?_) (fun hc2=>?_)
  ·have hlt:i < out.length:=by omega
   have i1:B0 (EA ((getS s out[i]).getD Pat.zero)=false):=⟨hcl.great _⟩
   refine Cx fun b=>?_
   have hndl:(BX ((getS s out[i]).getD Pat.zero)).length≤140737488355328∨True:= .inr trivial
   generalize hnn:BX ((getS s out[i]).getD Pat.zero)=nd
   have hnd:nd=ndS s out[i]:=by rw[←hnn];rfl
   refine qk (13) (.slice (nd.map eDig) .ro) rfl fun hbd=>?_
   have hndl:nd.length≤140737488355328:=hbd.slice_map
   refine AV (σ:=Nat × List Dig × CZ) (fun j=>j.1≤nd.length∧j.2.1=C9 more (nd.take j.1)) (fun j=>nd.length - j.1) (fun j=> [(0,.slice (s.map eSto) t),(6,.slice (out.map eDig) v),(8,.raw (.int .i64 n)),(9,.slice (j.2.1.map eDig) j.2.2),(10,.raw (.int .i64 i)),(13,.slice (nd.map eDig) .ro),(14,.raw (.int .i64 j.1))]) (fun _=>LF) (0,more,w) ⟨by simp,by simp[C9]⟩ ⟨rfl,rfl,rfl,rfl,rfl,rfl,rfl⟩ (.cons _ (.refl _)) ?_
   rintro⟨j,m,z⟩ ⟨hj,hj2⟩
   dsimp only at hj hj2 ⊢
   have hml:m.length≤200:=hcl.small (by rw[hj2];exact EL hma) fun d hd=>by
    rw[hj2]at hd
    rcases EO.1 hd with h'|h'
    ·exact hmi d h'
    ·exact hcl.nd out[i] d (hnd ▸ Ee h')
   refine AY ?_
   refine A1 (fun hc3=>?_) (fun hc3=>?_)
   ·have hlt3:j < nd.length:=by omega
    have:B0 (m.length≤1000000):=⟨by omega⟩
    refine AY ?_
    refine⟨(j+1,Fu m nd[j],.ro),⟨by dsimp only;omega,by dsimp only;rw[A6 hlt3,H5,hj2]⟩,by dsimp only;omega,⟨rfl,rfl,rfl,rfl,rfl,rfl,rfl⟩,.refl _⟩
   ·refine AY ?_
    rw[AA (by omega)]at hj2
    refine⟨(i+1,m,z),⟨by dsimp only;omega,?_⟩,by dsimp only;omega,⟨rfl,rfl,rfl,rfl,rfl⟩,.refl _⟩
    dsimp only
    rw[A6 hlt,DF,←hm,hj2,hnd];rfl
  ·refine AY ?_
   rw[AA (by omega)]at hm
   obtain⟨r,hr⟩: ∃ r,s.length - n=r+1:=⟨s.length - n - 1,by omega⟩
   refine⟨(n+1,more,w),⟨by dsimp only;omega,hma,hmi,?_⟩,by dsimp only;omega,⟨rfl,rfl,rfl⟩,.refl _⟩
   dsimp only
   rw[ho,hr,Jj,show s.length - (n+1)=r by omega,hm];rfl
 ·refine AY ?_
  refine Ei ?_
  rw[show s.length - n=0 by omega]at ho
  rw[ho]
  exact .tuple2 (.ro _ _) (.refl _)⟩
def nU (s:List Sto) (p:Dig):List Dig:=(Df s [p]).1
def Ps:List Ident→Ident→List Ident
 | [],d=> [d]
 |x::xs,d=>if J6 x d < 0 then x::Ps xs d else if x=d then x::xs else d::x::xs
theorem Rj: ∀ {l:List Ident} {d:Ident} {k:Nat},k≤l.length→(∀ i (h:i < l.length),i < k→J6 l[i] d < 0)→(∀ h:k < l.length,¬J6 l[k] d < 0)→
  Ps l d=if ∃ h:k < l.length,l[k]=d then l else l.take k++d::l.drop k
 | [],d,k,hk,_,_=>by simp[Ps]
 |x::xs,d,0,_,_,hk=>by
  have:=hk (by simp)
  simp only[B8]at this
  simp[Ps,this]
 |x::xs,d,k+1,hl,h1,h2=>by
  have h0:=h1 0 (by simp) (by omega)
  simp only[B8]at h0
  have ih:=Rj (l:=xs) (d:=d) (k:=k) (by simpa using hl) (fun i h hi=>by have:=h1 (i+1) (by simpa using h) (by omega);simpa using this) (fun h=>by have:=h2 (by simpa using h);simpa using this)
  simp only[Ps,h0,if_true,ih]
  simp only[AH,vW,Ct,O1,ZH]
  split<;>rfl
theorem jJ (l:List Ident) (d:Ident):(Ps l d).length≤l.length+1:=by
 induction l with
 |nil=>simp[Ps]
 |cons y l ih=>
  unfold Ps
  split
  ·simp only[AH];omega
  ·split<;>simp only[AH]<;>omega
instance tS (l:List Ident) (d:Ident) (t:CZ) [hs:B0 (l.length≤1000000)]:Bj Tryz.prog 292 [.slice (l.map eIdent) t,.agg (eIdent d)] (.slice ((Ps l d).map eIdent) .ro):=⟨by
 refine Aj Tryz.func292 Tryz.ntmps292 rfl (rs:= [.tmp 4]) rfl rfl fun hb LF=>?_
 have hlen:l.length≤1000000:=hs.out
 refine Cx fun b=>?_
 refine AV (σ:=Nat) (fun k=>k≤l.length∧ ∀ i (h:i < l.length),i < k→J6 l[i] d < 0) (fun k=>l.length - k) (fun k=> [(0,.slice (l.map eIdent) t),(3,.raw (.pointer (some ⟨b,0,none⟩))),(5,.raw (.int .i64 k))]) (fun _=> .box b 98 (eIdent d)::LF) 0 ⟨by simp,by simp⟩ ⟨rfl,rfl,rfl⟩ (.refl _) ?_
 rintro k ⟨hk,hne⟩
 refine AY ?_
 refine Aw (fun hp=>?_) (fun hp=>?_)
 ·have hc:(k:Int) < l.length:=An hp
  refine Bp ?_
  refine A1 (fun h1=>?_) (fun h1=>?_)
  ·refine AY ?_
   refine⟨k+1,⟨by omega,fun i h hi=>?_⟩,by dsimp only;omega,⟨rfl,rfl,rfl⟩,.refl _⟩
   rcases BC i k with h'|h'
   ·exact hne i h h'
   ·have:i=k:=by omega
    subst this;exact h1
  ·refine AY ?_
   refine A1 (fun h2=>?_) (fun h2=>?_)
   ·refine AY ?_
    refine Al (.ros ?_)
    rw[Rj hk hne (fun _=>h1),if_pos ⟨by omega,h2⟩]
   ·refine GX fun t1=>?_
    refine Fk fun t2=>?_
    refine Fk fun t3=>?_
    refine Al (.ros ?_)
    rw[Rj hk hne (fun _=>h1),if_neg (fun⟨_,e⟩=>h2 e)]
    simp
 ·have hc: ¬(k:Int) < l.length:=B6 hp
  refine Bp ?_
  refine Fk fun t1=>?_
  refine Fk fun t2=>?_
  refine Fk fun t3=>?_
  refine Al (.ros ?_)
  rw[Rj hk hne (fun h=>absurd (show(k:Int) < l.length by omega) hc),if_neg (fun⟨h,_⟩=>hc (by omega))]
  simp⟩
def iB (d:Dig) (l:List Ident):List Ident:=l.foldl (fun m y=>Ps m (Dm y d)) []
def Lu (d:Dig) (a:Atm):Atm:={ a with id:={ a.id with patch:=d } }
def Ou (d:Dig) (a:Atm):Atm:=if a.kind≠7 then { a with file:=Dm a.file d }else a
def Ot (d:Dig) (a:Atm):Atm:=if a.kind=2 then { a with parent:=Dm a.parent d }else a
def NB (d:Dig) (a:Atm):Atm:=if a.kind=6 then { a with src:=Dm a.src d,dst:=Dm a.dst d }else a
def iE (d:Dig) (a:Atm):Atm:={ a with over:=iB d a.over }
def Ua (d:Dig) (a:Atm):Atm:=iE d (NB d (Ot d (Ou d (Lu d a))))
theorem Xt (d:Dig) (a:Atm):(NB d (Ot d (Ou d (Lu d a)))).over=a.over:=by
 unfold NB Ot Ou Lu
 repeat' split
 all_goals rfl
theorem Zm (d:Dig) (l:List Ident) (k:Nat):((l.take k).foldl (fun m y=>Ps m (Dm y d)) []).length≤k:=by
 induction k with
 |zero=>simp
 |succ k ih=>
  by_cases h:k < l.length
  ·rw[A6 h,DF]
   have:=jJ ((l.take k).foldl (fun m y=>Ps m (Dm y d)) []) (Dm l[k] d)
   simp only[ED,List.foldl_nil];omega
  ·rw[AA (by omega)]at ih ⊢;omega
def Lz (p:Pat):List Atm × Int:=if(EW p).2≠0 then([],(EW p).2)else((Cv p).1.map (Ua (EW p).1),0)
theorem Zo {c:Chg} {first:Int} (h:c.over.length≤40): ∀ a∈EJ c first,a.over.length≤40:=by
 intro a ha
 unfold EJ at ha
 repeat' split at ha
 all_goals simp only[B9,Ay,AX]at ha
 all_goals first
  |(subst ha;first|exact h|(show([]:List Ident).length≤40;decide))
  |(rcases ha with ⟨_,_,rfl⟩|⟨_,_,rfl⟩<;>(show([]:List Ident).length≤40;decide))
theorem NF: ∀ (l:List Chg) (own:List Atm),(∀ c∈l,VF c)→(∀ a∈own,a.over.length≤40)→(DP l own).1.length≤own.length+l.length*81∧ ∀ a∈(DP l own).1,a.over.length≤40
 | [],own,_,h=>⟨by simp[DP],by simpa [DP]using h⟩
 |c::l,own,hc,ho=>by
  unfold DP
  split
  ·exact⟨by simp,by simp⟩
  ·split
   ·exact⟨by simp,by simp⟩
   ·have hcc:=hc c (by simp)
    have h1:=LK c own.length
    have h2:=Zo (first:=own.length) hcc.over
    have h3:=hcc.lines
    have ih:=NF l (own++EJ c own.length) (fun x hx=>hc x (by simp[hx])) (fun a ha=>by
     rcases Ay.1 ha with h|h
     ·exact ho a h
     ·exact h2 a h)
    rw[A7]at ih
    refine⟨?_,ih.2⟩
    have:=ih.1
    simp only[AH,Bq];omega
theorem OT {p:Pat} (h:EA p=false):(Cv p).1.length≤16200∧ ∀ a∈(Cv p).1,a.over.length≤40:=by
 obtain⟨_,_,_,hch,hcs⟩:=Hv h
 unfold Cv
 repeat' split
 all_goals first
  |exact⟨by simp,by simp⟩
  |(have:=NF p.changes [] hcs (by simp)
    exact⟨by have h1:=this.1;simp only[Aa]at h1;omega,this.2⟩)
instance vV (p:Pat) [hs:B0 (EA p=false)]:Bj Tryz.prog 256 [.agg (Cc p)] (.tuple [.slice ((Lz p).1.map eAtm) .ro,.raw (.int .i64 (Lz p).2)]):=⟨by
 obtain⟨hal,hao⟩:=OT hs.out
 refine Aj Tryz.func256 Tryz.ntmps256 rfl (rs:= [.tmp 2,.tmp 3]) rfl rfl fun hb LF=>?_
 refine Cx fun b1=>?_
 refine Ef fun b4=>?_
 refine AN (fun h=>?_) (fun h=>?_)
 ·refine AY ?_
  refine Ei ?_
  rw[Lz,if_pos h]
  exact .tuple2 (.ro _ _) (.refl _)
 rw[Lz,if_neg (by simp[h])]
 refine AY ?_
 generalize (EW p).1=d
 generalize (Cv p).1=own at hal hao
 refine Dw 172 ?_
 refine AV (σ:=Nat × List Atm × CZ) (fun k=>k.1≤own.length∧k.2.1=(own.take k.1).map (Ua d)) (fun k=>own.length - k.1) (fun k=> [(4,.raw (.pointer (some ⟨b4,0,none⟩))),(6,.slice (own.map eAtm) .ro),(8,.slice (k.2.1.map eAtm) k.2.2),(9,.raw (.int .i64 k.1))]) (fun k=> .tok k.2.2 k.2.1.length 172:: .box b4 45 (eDig d)::LF) (0,[],.nil) ⟨by simp,by simp⟩ ⟨rfl,rfl,rfl,rfl⟩ (.cons_cons _ (.cons_cons _ (.cons _ (.refl _)))) ?_
 rintro⟨i,out,v⟩ ⟨hi,ho⟩
 dsimp only at hi ho ⊢
 have hol:out.length=i:=by rw[ho];simp;omega
 refine AY ?_
 refine A1 (fun hc=>?_) (fun hc=>?_)
 ·have hlt:i < own.length:=by omega
  have hov:=hao _ (AO hlt)
  refine Cx fun b10=>?_
  refine DD (σ:=Unit) (fun _=>True) (fun _=> [(4,.raw (.pointer (some ⟨b4,0,none⟩))),(6,.slice (own.map eAtm) .ro),(8,.slice (out.map eAtm) v),(9,.raw (.int .i64 i)),(10,.raw (.pointer (some ⟨b10,0,none⟩)))]) (fun _=> .box b10 180 (eAtm (Ou d (Lu d own[i]))):: .tok v out.length 172:: .box b4 45 (eDig d)::LF) ?_ ?_
  ·refine AN (fun h7=>?_) (fun h7=>?_)
   ·refine AY ?_
    refine⟨(),trivial,⟨rfl,rfl,rfl,rfl,rfl⟩,?_⟩
    have h7':(Lu d own[i]).kind≠7:=h7
    rw[Ou,if_pos h7'];exact .refl _
   ·refine AY ?_
    refine⟨(),trivial,⟨rfl,rfl,rfl,rfl,rfl⟩,?_⟩
    have h7':(Lu d own[i]).kind=7:=h7
    rw[Ou,if_neg (by simp[h7'])];exact .refl _
  rintro _ _
  generalize ha2:Ou d (Lu d own[i])=a2
  refine AY ?_
  refine DD (σ:=Unit) (fun _=>True) (fun _=> [(4,.raw (.pointer (some ⟨b4,0,none⟩))),(6,.slice (own.map eAtm) .ro),(8,.slice (out.map eAtm) v),(9,.raw (.int .i64 i)),(10,.raw (.pointer (some ⟨b10,0,none⟩)))]) (fun _=> .box b10 180 (eAtm (Ot d a2)):: .tok v out.length 172:: .box b4 45 (eDig d)::LF) ?_ ?_
  ·refine A1 (fun h7=>?_) (fun h7=>?_)
   ·refine AY ?_
    refine⟨(),trivial,⟨rfl,rfl,rfl,rfl,rfl⟩,?_⟩
    rw[Ot,if_pos h7];exact .refl _
   ·refine AY ?_
    refine⟨(),trivial,⟨rfl,rfl,rfl,rfl,rfl⟩,?_⟩
    rw[Ot,if_neg h7];exact .refl _
  rintro _ _
  generalize ha3:Ot d a2=a3
  refine AY ?_
  refine DD (σ:=Unit) (fun _=>True) (fun _=> [(4,.raw (.pointer (some ⟨b4,0,none⟩))),(6,.slice (own.map eAtm) .ro),(8,.slice (out.map eAtm) v),(9,.raw (.int .i64 i)),(10,.raw (.pointer (some ⟨b10,0,none⟩)))]) (fun _=> .box b10 180 (eAtm (NB d a3)):: .tok v out.length 172:: .box b4 45 (eDig d)::LF) ?_ ?_
  ·refine A1 (fun h7=>?_) (fun h7=>?_)
   ·refine OG ?_
    refine Pc [false,false,false,false,false,false,false,false,false,true,false,true] ?_ ?_
    ·decide+kernel
    refine Bp ?_
    refine⟨(),trivial,⟨rfl,rfl,rfl,rfl,rfl⟩,?_⟩
    rw[NB,if_pos h7];exact .refl _
   ·refine AY ?_
    refine⟨(),trivial,⟨rfl,rfl,rfl,rfl,rfl⟩,?_⟩
    rw[NB,if_neg h7];exact .refl _
  rintro _ _
  have hover:(NB d a3).over=own[i].over:=by rw[←ha3,←ha2];exact Xt d own[i]
  generalize ha4:NB d a3=a4 at hover
  have hov4:a4.over.length≤40:=by rw[hover];exact hov
  refine AY ?_
  refine AV (σ:=Nat × List Ident × CZ) (fun j=>j.1≤a4.over.length∧j.2.1=(a4.over.take j.1).foldl (fun m y=>Ps m (Dm y d)) []) (fun j=>a4.over.length - j.1) (fun j=> [(4,.raw (.pointer (some ⟨b4,0,none⟩))),(6,.slice (own.map eAtm) .ro),(8,.slice (out.map eAtm) v),(9,.raw (.int .i64 i)),(10,.raw (.pointer (some ⟨b10,0,none⟩))),(11,.slice (j.2.1.map eIdent) j.2.2),(12,.raw (.int .i64 j.1))]) (fun _=> .box b10 180 (eAtm a4):: .tok v out.length 172:: .box b4 45 (eDig d)::LF) (0,[],.nil) ⟨by simp,by simp⟩ ⟨rfl,rfl,rfl,rfl,rfl,rfl,rfl⟩ (.refl _) ?_
  rintro⟨j,m,z⟩ ⟨hj,hm⟩
  dsimp only at hj hm ⊢
  have hml:m.length≤j:=by rw[hm];exact Zm d a4.over j
  refine AY ?_
  refine A1 (fun hc2=>?_) (fun hc2=>?_)
  ·have hlt2:j < a4.over.length:=by omega
   have:B0 (m.length≤1000000):=⟨by omega⟩
   refine AY ?_
   refine⟨(j+1,Ps m (Dm a4.over[j] d),.ro),⟨by dsimp only;omega,?_⟩,by dsimp only;omega,⟨rfl,rfl,rfl,rfl,rfl,rfl,rfl⟩,.refl _⟩
   dsimp only
   rw[A6 hlt2,DF,←hm];rfl
  ·rw[AA (by omega)]at hm
   refine GX fun v'=>?_
   have e:Ua d own[i]= { a4 with over:=m }:=by rw[Ua,ha2,ha3,ha4,iE,iB,←hm]
   refine⟨(i+1,out++ [{ a4 with over:=m }],v'),⟨by dsimp only;omega,?_⟩,by dsimp only;omega,⟨rfl,rfl,rfl,rfl⟩,.cons _ (.refl _)⟩
   dsimp only
   rw[A6 hlt,Az,←ho,BH,e];rfl
 ·rw[AA (by omega)]at ho
  refine AY ?_
  refine Ei ?_
  rw[ho]
  exact .tuple2 (.ro _ _) (.refl _)⟩
theorem Hl {b:Bool} (h:(!b)=false): ¬b=false:=by cases b<;>simp_all
theorem KG {b:Bool} (h:(!b)=true):b=false:=by cases b<;>simp_all
theorem DX.great {s:List Sto} (h:DX s) (d:Dig):EA ((getS s d).getD Pat.zero)=false:=by
 cases hg:getS s d with
 |none=>exact Sv
 |some p=>
  obtain⟨x,hx,_,rfl⟩:=KL hg
  exact h.2 x hx
def JO (s:List Sto) (d:Dig):List Atm:=(Lz ((getS s d).getD Pat.zero)).1
def Il (s:List Sto) (x:Ident):Option Atm:=if x.n < 0∨((JO s x.patch).length:Int)≤x.n then none else(JO s x.patch)[x.n.toNat]?
instance tM (s:List Sto) (x:Ident) (t:CZ) [hs:B0 (DX s)]:Bj Tryz.prog 214 [.slice (s.map eSto) t,.agg (eIdent x)] (.tuple [.agg (eAtm ((Il s x).getD Atm.zero)),.raw (.bool (Il s x).isSome)]):=⟨by
 have i1:B0 (EA ((getS s x.patch).getD Pat.zero)=false):=⟨hs.out.great _⟩
 refine Aj Tryz.func214 Tryz.ntmps214 rfl (rs:= [.cell 4 180,.tmp 5]) rfl rfl fun hb LF=>?_
 refine Cx fun b3=>?_
 refine Ef fun b4=>?_
 refine Ef fun b6=>?_
 have e0:(Lz ((getS s x.patch).getD Pat.zero)).1=JO s x.patch:=rfl
 rw[e0]
 refine BB [(31,.raw (.bool (decide (x.n < 0∨((JO s x.patch).length:Int)≤x.n)))),(3,.raw (.pointer (some ⟨b3,0,none⟩))),(4,.raw (.pointer (some ⟨b4,0,none⟩))),(8,.slice ((JO s x.patch).map eAtm) .ro)] (.box b6 42 (Cc ((getS s x.patch).getD Pat.zero)):: .box b4 180 (eAtm Atm.zero):: .box b3 98 (eIdent x)::LF) ?_ ?_
 ·repeat' (first|(refine A1 (fun h=>?_) (fun h=>?_)<;>refine AY ?_)|(refine AN (fun h=>?_) (fun h=>?_)<;>refine AY ?_)|(refine AU (fun h=>?_) (fun h=>?_)<;>refine AY ?_)|(refine Aw (fun h=>?_) (fun h=>?_)<;>(have h2:=h;(try simp only[AJ,A8,AQ,AR]at h2);refine Bp ?_)))
  all_goals (refine⟨⟨BW (by rfl) ?_,rfl,rfl,rfl⟩,.refl _⟩;first|(simp_all;done)|(simp_all;omega)|grind)
 refine AY ?_
 refine A1 (fun h=>?_) (fun h=>?_)
 ·refine AY ?_
  refine CJ rfl (.of_eq ?_)
  rw[Il,if_pos h];rfl
 ·refine AY ?_
  refine CJ rfl (.of_eq ?_)
  have hlt:x.n.toNat < (JO s x.patch).length:=by omega
  rw[Il,if_neg h,AZ hlt];rfl⟩
def EU (o:Option Atm) (fits:Atm→Bool):Int:=if o.isSome=false then 7 else if fits (o.getD Atm.zero)=false then 8 else 0
def HD (s:List Sto) (x file:Ident) (id:Dig):Int:=if Gy x=false∨x=file then 0 else EU (Il s x) (JM (H9 file id))
instance uu (s:List Sto) (x file:Ident) (id:Dig) (t:CZ) [hs:B0 (DX s)]:Bj Tryz.prog 217 [.slice (s.map eSto) t,.agg (eIdent x),.agg (eIdent file),.agg (eDig id)] (.raw (.int .i64 (HD s x file id))):=⟨by
 refine Aj Tryz.func217 Tryz.ntmps217 rfl (rs:= [.tmp 8]) rfl rfl fun hb LF=>?_
 refine Cx fun b5=>?_
 refine Ef fun b6=>?_
 refine Ef fun b7=>?_
 refine BB [(18,.raw (.bool (decide (Gy x=false∨x=file)))),(0,.slice (s.map eSto) t),(5,.raw (.pointer (some ⟨b5,0,none⟩))),(6,.raw (.pointer (some ⟨b6,0,none⟩))),(7,.raw (.pointer (some ⟨b7,0,none⟩)))] (.box b7 45 (eDig id):: .box b6 98 (eIdent file):: .box b5 98 (eIdent x)::LF) ?_ ?_
 ·repeat' (first|(refine A1 (fun h=>?_) (fun h=>?_)<;>refine AY ?_)|(refine AN (fun h=>?_) (fun h=>?_)<;>refine AY ?_)|(refine AU (fun h=>?_) (fun h=>?_)<;>refine AY ?_)|(refine Aw (fun h=>?_) (fun h=>?_)<;>(have h2:=h;(try simp only[AJ,A8,AQ,AR]at h2);refine Bp ?_)))
  all_goals (refine⟨⟨BW (by rfl) ?_,rfl,rfl,rfl,rfl⟩,.refl _⟩;first|(simp_all;done)|(simp_all;omega)|grind)
 refine AY ?_
 refine A1 (fun h=>?_) (fun h=>?_)
 ·refine AY ?_
  refine Al (.of_eq ?_)
  rw[HD,if_pos h]
 rw[HD,if_neg h]
 refine Cx fun b9=>?_
 refine AU (fun h2=>?_) (fun h2=>?_)
 ·refine AY ?_
  refine Al (.of_eq ?_)
  rw[EU,if_pos (KG h2)]
 refine AY ?_
 refine AU (fun h3=>?_) (fun h3=>?_)
 ·refine AY ?_
  refine Al (.of_eq ?_)
  rw[EU,if_neg (Hl h2),if_pos (KG h3)]
 ·refine AY ?_
  refine Al (.of_eq ?_)
  rw[EU,if_neg (Hl h2),if_neg (Hl h3)]⟩
def Ji (s:List Sto) (c:Chg):Int:=if Gy c.file=true then EU (Il s c.file) (EE c.kind)else 0
def Mf (s:List Sto) (c:Chg):Int:=if Gy c.parent=true then EU (Il s c.parent) rDirectory else 0
def OQ (s:List Sto) (c:Chg) (id:Dig) (x:Ident):Int:=if Gy x=false then 0 else EU (Il s x) (H8 c.kind (H9 c.file id))
def Mg (s:List Sto) (c:Chg) (id:Dig):Int:=
 if Ji s c≠0 then Ji s c else if Mf s c≠0 then Mf s c else if HD s c.after c.file id≠0 then HD s c.after c.file id else
 if HD s c.before c.file id≠0 then HD s c.before c.file id else Aq (OQ s c id) c.over
instance pS (s:List Sto) (c:Chg) (id:Dig) (t:CZ) [hs:B0 (DX s)]:Bj Tryz.prog 171 [.slice (s.map eSto) t,.agg (BG c),.agg (eDig id)] (.raw (.int .i64 (Mg s c id))):=⟨by
 refine Aj Tryz.func171 Tryz.ntmps171 rfl (rs:= [.tmp 6]) rfl rfl fun hb LF=>?_
 have hlen:c.over.length≤140737488355328:=((hb (.agg (BG c)) (by simp)).agg_at (c:= .slice (c.over.map eIdent) .ro) (by simp[BG])).slice_map
 refine Cx fun b4=>?_
 refine Ef fun b5=>?_
 refine DD (σ:=Unit) (fun _=>Ji s c=0) (fun _=> [(0,.slice (s.map eSto) t),(4,.raw (.pointer (some ⟨b4,0,none⟩))),(5,.raw (.pointer (some ⟨b5,0,none⟩)))]) (fun _=> .box b5 45 (eDig id):: .box b4 101 (BG c)::LF) ?_ ?_
 ·refine AU (fun h=>?_) (fun h=>?_)
  ·have e:Ji s c=EU (Il s c.file) (EE c.kind):=by rw[Ji,if_pos h]
   refine Cx fun b7=>?_
   refine AU (fun h2=>?_) (fun h2=>?_)
   ·refine AY ?_
    refine Al (.of_eq ?_)
    rw[EU,if_pos (KG h2)]at e
    rw[Mg,if_pos (by rw[e];decide),e]
   refine AY ?_
   refine AU (fun h3=>?_) (fun h3=>?_)
   ·refine AY ?_
    refine Al (.of_eq ?_)
    rw[EU,if_neg (Hl h2),if_pos (KG h3)]at e
    rw[Mg,if_pos (by rw[e];decide),e]
   ·refine AY ?_
    rw[EU,if_neg (Hl h2),if_neg (Hl h3)]at e
    exact⟨(),e,⟨rfl,rfl,rfl⟩,.cons _ (.refl _)⟩
  ·refine AY ?_
   exact⟨(),by rw[Ji,if_neg (by simp[h])],⟨rfl,rfl,rfl⟩,.refl _⟩
 rintro _ hF
 refine AY ?_
 refine DD (σ:=Unit) (fun _=>Mf s c=0) (fun _=> [(0,.slice (s.map eSto) t),(4,.raw (.pointer (some ⟨b4,0,none⟩))),(5,.raw (.pointer (some ⟨b5,0,none⟩)))]) (fun _=> .box b5 45 (eDig id):: .box b4 101 (BG c)::LF) ?_ ?_
 ·refine AU (fun h=>?_) (fun h=>?_)
  ·have e:Mf s c=EU (Il s c.parent) rDirectory:=by rw[Mf,if_pos h]
   refine Cx fun b7=>?_
   refine AU (fun h2=>?_) (fun h2=>?_)
   ·refine AY ?_
    refine Al (.of_eq ?_)
    rw[EU,if_pos (KG h2)]at e
    rw[Mg,if_neg (by simp[hF]),if_pos (by rw[e];decide),e]
   refine AY ?_
   refine AU (fun h3=>?_) (fun h3=>?_)
   ·refine AY ?_
    refine Al (.of_eq ?_)
    rw[EU,if_neg (Hl h2),if_pos (KG h3)]at e
    rw[Mg,if_neg (by simp[hF]),if_pos (by rw[e];decide),e]
   ·refine AY ?_
    rw[EU,if_neg (Hl h2),if_neg (Hl h3)]at e
    exact⟨(),e,⟨rfl,rfl,rfl⟩,.cons _ (.refl _)⟩
  ·refine AY ?_
   exact⟨(),by rw[Mf,if_neg (by simp[h])],⟨rfl,rfl,rfl⟩,.refl _⟩
 rintro _ hP
 rw[Mg,if_neg (by simp[hF]),if_neg (by simp[hP])]
 refine AY ?_
 refine AN (fun h1=>?_) (fun h1=>?_)
 ·refine AY ?_
  refine Al (.of_eq ?_)
  rw[if_pos h1]
 rw[if_neg (by simp[h1])]
 refine AY ?_
 refine AN (fun h2=>?_) (fun h2=>?_)
 ·refine AY ?_
  refine Al (.of_eq ?_)
  rw[if_pos h2]
 rw[if_neg (by simp[h2])]
 refine AY ?_
 refine AV (σ:=Nat) (fun k=>k≤c.over.length∧ ∀ i (h:i < c.over.length),i < k→OQ s c id c.over[i]=0) (fun k=>c.over.length - k) (fun k=> [(0,.slice (s.map eSto) t),(4,.raw (.pointer (some ⟨b4,0,none⟩))),(5,.raw (.pointer (some ⟨b5,0,none⟩))),(13,.raw (.int .i64 k))]) (fun _=> .box b5 45 (eDig id):: .box b4 101 (BG c)::LF) 0 ⟨by simp,by simp⟩ ⟨rfl,rfl,rfl,rfl⟩ (.refl _) ?_
 rintro k ⟨hk,he⟩
 refine AY ?_
 refine A1 (fun hc=>?_) (fun hc=>?_)
 ·have hlt:k < c.over.length:=by omega
  refine AY ?_
  refine AU (fun h=>?_) (fun h=>?_)
  ·refine AY ?_
   exact⟨k+1,⟨by omega,DT he hlt (by rw[OQ,if_pos (KG h)])⟩,by dsimp only;omega,⟨rfl,rfl,rfl,rfl⟩,.refl _⟩
  have e:OQ s c id c.over[k]=EU (Il s c.over[k]) (H8 c.kind (H9 c.file id)):=by rw[OQ,if_neg (Hl h)]
  refine Cx fun b14=>?_
  refine AU (fun h3=>?_) (fun h3=>?_)
  ·refine AY ?_
   refine Al (.of_eq ?_)
   rw[EU,if_pos (KG h3)]at e
   rw[CV hlt he (by rw[e];decide),e]
  refine AY ?_
  refine AU (fun h4=>?_) (fun h4=>?_)
  ·refine AY ?_
   refine Al (.of_eq ?_)
   rw[EU,if_neg (Hl h3),if_pos (KG h4)]at e
   rw[CV hlt he (by rw[e];decide),e]
  ·refine AY ?_
   rw[EU,if_neg (Hl h3),if_neg (Hl h4)]at e
   exact⟨k+1,⟨by omega,DT he hlt e⟩,by dsimp only;omega,⟨rfl,rfl,rfl,rfl⟩,.cons _ (.refl _)⟩
 ·refine AY ?_
  refine Al (.of_eq ?_)
  rw[CN fun i h=>he i h (by omega)]⟩
def FP (s:List Sto) (p:Pat) (id:Dig):Int:=Aq (fun c=>Mg s c id) p.changes
instance fH (s:List Sto) (p:Pat) (id:Dig) (t:CZ) [hs:B0 (DX s)]:Bj Tryz.prog 125 [.slice (s.map eSto) t,.agg (Cc p),.agg (eDig id)] (.raw (.int .i64 (FP s p id))):=⟨by
 refine Aj Tryz.func125 Tryz.ntmps125 rfl (rs:= [.tmp 6]) rfl rfl fun hb LF=>?_
 have hlen:p.changes.length≤140737488355328:=((hb (.agg (Cc p)) (by simp)).agg_at (c:= .slice (p.changes.map BG) .ro) (by simp[Cc])).slice_map
 refine Cx fun b4=>?_
 refine Ef fun b5=>?_
 refine AV (σ:=Nat) (fun k=>k≤p.changes.length∧ ∀ i (h:i < p.changes.length),i < k→Mg s p.changes[i] id=0) (fun k=>p.changes.length - k) (fun k=> [(0,.slice (s.map eSto) t),(4,.raw (.pointer (some ⟨b4,0,none⟩))),(5,.raw (.pointer (some ⟨b5,0,none⟩))),(7,.raw (.int .i64 k))]) (fun _=> .box b5 45 (eDig id):: .box b4 42 (Cc p)::LF) 0 ⟨by simp,by simp⟩ ⟨rfl,rfl,rfl,rfl⟩ (.refl _) ?_
 rintro k ⟨hk,he⟩
 refine AY ?_
 refine A1 (fun hc=>?_) (fun hc=>?_)
 ·have hlt:k < p.changes.length:=by omega
  refine AY ?_
  refine AN (fun h=>?_) (fun h=>?_)
  ·refine AY ?_
   refine Al (.of_eq ?_)
   rw[FP,CV hlt he h]
  ·refine AY ?_
   exact⟨k+1,⟨by omega,DT (f:=fun c=>Mg s c id) he hlt h⟩,by dsimp only;omega,⟨rfl,rfl,rfl,rfl⟩,.refl _⟩
 ·refine AY ?_
  refine Al (.of_eq ?_)
  rw[FP,CN fun i h=>he i h (by omega)]⟩
end Go.Proofs
