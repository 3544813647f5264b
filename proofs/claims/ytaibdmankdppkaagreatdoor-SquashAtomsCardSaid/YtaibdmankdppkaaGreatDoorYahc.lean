/- Contracts: lists of digests and sets of patches (the reference's layers 16 and 17). -/
import Derived.Test.YtaibdmankdppkaaGreatDoorYahb
set_option linter.unusedSimpArgs false
set_option linter.unusedVariables false
set_option maxHeartbeats 8000000
namespace Go.Proofs
open Go Go.Q
attribute [local irreducible] ER AV BA Fc
def Aw {α:Type} (f:α→Int):List α→Int
 | []=>0
 |x::l=>if f x=0 then Aw f l else f x
theorem E3 {α:Type} {f:α→Int}: ∀ {l:List α},(∀ i (h:i < l.length),f l[i]=0)→Aw f l=0
 | [],_=>rfl
 |x::l,h=>by
  have h0:=h 0 (by simp)
  simp only[BJ]at h0
  rw[Aw,if_pos h0]
  exact E3 fun i hi=>by have:=h (i+1) (by simpa using hi);simpa using this
theorem DU {α:Type} {f:α→Int}: ∀ {l:List α} {k:Nat} (hk:k < l.length),(∀ i (h:i < l.length),i < k→f l[i]=0)→f l[k]≠0→Aw f l=f l[k]
 |x::l,0,hk,_,hn=>by simp only[BJ]at hn ⊢;rw[Aw,if_neg hn]
 |x::l,k+1,hk,h,hn=>by
  have h0:=h 0 (by simp) (by omega)
  simp only[BJ]at h0
  simp only[DF]at hn ⊢
  rw[Aw,if_pos h0]
  exact DU (by simpa using hk) (fun i hi hik=>by have:=h (i+1) (by simpa using hi) (by omega);simpa using this) hn
theorem EC {α:Type} {l:List α} {f:α→Int} {k:Nat} (he: ∀ i (h:i < l.length),i < k→f l[i]=0) (hk:k < l.length) (h:f l[k]=0): ∀ i (h:i < l.length),i < k+1→f l[i]=0:=fun i hi hik=>by
 rcases B9 i k with h'|h'
 ·exact he i hi h'
 ·have:i=k:=by omega
  subst this;exact h
def rRoot:Ident:=⟨Dig.zero,-1⟩
def K1 (c:Chg) (own:List Atm):Int:=if 2≤c.kind∧c.kind≤6 then J7 c.file own (EL c.kind (Lv own c.file))else 0
def Lq (c:Chg) (own:List Atm):Int:=if c.kind=2∧c.parent≠rRoot then J7 c.parent own (rDirectory (Lv own c.parent))else 0
def QM (c:Chg) (own:List Atm) (x:Ident):Int:=J7 x own (decide (x=c.file)||Jb c.file (Lv own x))
def Nu (c:Chg) (own:List Atm) (x:Ident):Int:=J7 x own (HO c.kind c.file (Lv own x))
def IK (c:Chg) (own:List Atm):Int:=if IV c.kind=true then Aw (QM c own) [c.after,c.before]else 0
def FA (c:Chg) (own:List Atm):Int:=
 if K1 c own≠0 then K1 c own else if Lq c own≠0 then Lq c own else if IK c own≠0 then IK c own else
 if Aw (Nu c own) c.over≠0 then Aw (Nu c own) c.over else if c.kind=2∧c.parent=c.file then 20 else
 if(IV c.kind=true∧c.after=c.before)∧(c.kind=6∨c.after≠c.file)then 1 else 0
instance mh (c:Chg) (own:List Atm) (t:CF):CB Tryz.prog 217 [.agg (eChg c),.slice (own.map eAtm) t] (.raw (.int .i64 (FA c own))):=⟨by
 refine Au Tryz.func217 Tryz.ntmps217 rfl (rs:= [.tmp 4]) rfl rfl fun hb LF=>?_
 have hlen:c.over.length≤140737488355328:=((hb (.agg (eChg c)) (by simp)).agg_at (c:= .slice (c.over.map eIdent) .ro) (by simp[eChg])).slice_map
 refine DQ fun b=>?_
 refine BZ [(20,.raw (.bool (decide (2≤c.kind∧c.kind≤6)))),(1,.slice (own.map eAtm) t),(2,.raw (.pointer (some ⟨b,0,none⟩)))] (.box b 73 (eChg c)::LF) ?_ ?_
 ·repeat' (first|(refine A6 (fun h=>?_) (fun h=>?_)<;>refine AX ?_)|(refine AY (fun h=>?_) (fun h=>?_)<;>refine AX ?_)|(refine AW (fun h=>?_) (fun h=>?_)<;>refine AX ?_)|(refine Av (fun h=>?_) (fun h=>?_)<;>(have h2:=h;(try simp only[AB,A8,AJ,AL]at h2);refine CK ?_)))
  all_goals (refine⟨⟨CD (by rfl) ?_,rfl,rfl⟩,.refl _⟩;first|(simp_all;done)|(simp_all;omega)|grind)
 refine AX ?_
 refine KZ (K1 c own=0) [(1,.slice (own.map eAtm) t),(2,.raw (.pointer (some ⟨b,0,none⟩)))] (.box b 73 (eChg c)::LF) ?_ fun hF=>?_
 ·refine A6 (fun h=>?_) (fun h=>?_)
  ·refine AX ?_
   have e:K1 c own=J7 c.file own (EL c.kind (Lv own c.file)):=by rw[K1,if_pos h]
   refine AY (fun h'=>?_) (fun h'=>?_)
   ·refine AX ?_
    refine B2 (.of_eq ?_)
    rw[FA,if_pos (by rw[e];exact h'),e]
   ·refine AX ?_
    exact⟨e.trans h',⟨rfl,rfl⟩,.refl _⟩
  ·refine AX ?_
   exact⟨by rw[K1,if_neg h],⟨rfl,rfl⟩,.refl _⟩
 refine AX ?_
 refine BZ [(43,.raw (.bool (decide (c.kind=2∧c.parent≠rRoot)))),(1,.slice (own.map eAtm) t),(2,.raw (.pointer (some ⟨b,0,none⟩)))] (.box b 73 (eChg c)::LF) ?_ ?_
 ·repeat' (first|(refine A6 (fun h=>?_) (fun h=>?_)<;>refine AX ?_)|(refine AY (fun h=>?_) (fun h=>?_)<;>refine AX ?_)|(refine AW (fun h=>?_) (fun h=>?_)<;>refine AX ?_)|(refine Av (fun h=>?_) (fun h=>?_)<;>(have h2:=h;(try simp only[AB,A8,AJ,AL]at h2);refine CK ?_)))
  all_goals (refine⟨⟨CD (by rfl) ?_,rfl,rfl⟩,.refl _⟩;simp_all[rRoot])
 refine AX ?_
 refine KZ (Lq c own=0) [(1,.slice (own.map eAtm) t),(2,.raw (.pointer (some ⟨b,0,none⟩)))] (.box b 73 (eChg c)::LF) ?_ fun hP=>?_
 ·refine A6 (fun h=>?_) (fun h=>?_)
  ·refine DQ fun b2=>?_
   have e:Lq c own=J7 c.parent own (rDirectory (Lv own c.parent)):=by rw[Lq,if_pos h]
   refine Av (fun hp=>?_) (fun hp=>?_)
   ·refine CK ?_
    have e2:rDirectory (Lv own c.parent)=decide ((Lv own c.parent).type=4):=by rw[rDirectory,hp,EK]
    rw[e2]at e
    refine AY (fun h'=>?_) (fun h'=>?_)
    ·refine AX ?_
     refine B2 (.of_eq ?_)
     rw[FA,if_neg (by simp[hF]),if_pos (by rw[e];exact h'),e]
    ·refine AX ?_
     exact⟨e.trans h',⟨rfl,rfl⟩,.cons _ (.refl _)⟩
   ·refine CK ?_
    have e2:rDirectory (Lv own c.parent)=false:=by rw[rDirectory,hp,vJ]
    rw[e2]at e
    refine AY (fun h'=>?_) (fun h'=>?_)
    ·refine AX ?_
     refine B2 (.of_eq ?_)
     rw[FA,if_neg (by simp[hF]),if_pos (by rw[e];exact h'),e]
    ·refine AX ?_
     exact⟨e.trans h',⟨rfl,rfl⟩,.cons _ (.refl _)⟩
  ·refine AX ?_
   exact⟨by rw[Lq,if_neg h],⟨rfl,rfl⟩,.refl _⟩
 refine AX ?_
 refine KZ (IK c own=0) [(1,.slice (own.map eAtm) t),(2,.raw (.pointer (some ⟨b,0,none⟩)))] (.box b 73 (eChg c)::LF) ?_ fun hE=>?_
 ·refine AW (fun h=>?_) (fun h=>?_)
  ·refine AX ?_
   have e:IK c own=Aw (QM c own) [c.after,c.before]:=by rw[IK,if_pos h]
   generalize hends: [c.after,c.before]=ends at e
   have hl2:ends.length=2:=by rw[←hends];rfl
   refine Ad (σ:=Nat) (fun k=>k≤2∧ ∀ i (h:i < ends.length),i < k→QM c own ends[i]=0) (fun k=>2 - k) (fun k=> [(1,.slice (own.map eAtm) t),(2,.raw (.pointer (some ⟨b,0,none⟩))),(8,.slice (ends.map eIdent) .ro),(9,.raw (.int .i64 k))]) (fun _=> .box b 73 (eChg c)::LF) 0 ⟨by simp,by simp⟩ ⟨rfl,rfl,by rw[←hends];rfl,rfl⟩ (.refl _) ?_
   rintro k ⟨hk,he⟩
   refine AX ?_
   refine A6 (fun hc=>?_) (fun hc=>?_)
   ·have hlt:k < ends.length:=by omega
    refine AX ?_
    refine Av (fun hp=>?_) (fun hp=>?_)
    ·refine CK ?_
     have e2:QM c own ends[k]=J7 ends[k] own true:=by rw[QM,hp,Bool.true_or]
     refine AY (fun h'=>?_) (fun h'=>?_)
     ·refine AX ?_
      refine B2 (.of_eq ?_)
      have e3:IK c own=J7 ends[k] own true:=by rw[e,DU hlt he (by rw[e2];exact h'),e2]
      rw[FA,if_neg (by simp[hF]),if_neg (by simp[hP]),if_pos (by rw[e3];exact h'),e3]
     ·refine AX ?_
      exact⟨k+1,⟨by omega,EC he hlt (e2.trans h')⟩,by dsimp only;omega,⟨rfl,rfl,rfl,rfl⟩,.refl _⟩
    ·refine CK ?_
     have e2:QM c own ends[k]=J7 ends[k] own (Jb c.file (Lv own ends[k])):=by rw[QM,hp,GU]
     refine AY (fun h'=>?_) (fun h'=>?_)
     ·refine AX ?_
      refine B2 (.of_eq ?_)
      have e3:IK c own=J7 ends[k] own (Jb c.file (Lv own ends[k])):=by rw[e,DU hlt he (by rw[e2];exact h'),e2]
      rw[FA,if_neg (by simp[hF]),if_neg (by simp[hP]),if_pos (by rw[e3];exact h'),e3]
     ·refine AX ?_
      exact⟨k+1,⟨by omega,EC he hlt (e2.trans h')⟩,by dsimp only;omega,⟨rfl,rfl,rfl,rfl⟩,.refl _⟩
   ·refine AX ?_
    exact⟨by rw[e,E3 fun i h=>he i h (by omega)],⟨rfl,rfl⟩,.refl _⟩
  ·refine AX ?_
   exact⟨by rw[IK,if_neg (by simp[h])],⟨rfl,rfl⟩,.refl _⟩
 refine AX ?_
 refine Ad (σ:=Nat) (fun k=>k≤c.over.length∧ ∀ i (h:i < c.over.length),i < k→Nu c own c.over[i]=0) (fun k=>c.over.length - k) (fun k=> [(1,.slice (own.map eAtm) t),(2,.raw (.pointer (some ⟨b,0,none⟩))),(11,.raw (.int .i64 k))]) (fun _=> .box b 73 (eChg c)::LF) 0 ⟨by simp,by simp⟩ ⟨rfl,rfl,rfl⟩ (.refl _) ?_
 rintro k ⟨hk,he⟩
 refine AX ?_
 refine A6 (fun hc=>?_) (fun hc=>?_)
 ·have hlt:k < c.over.length:=by omega
  refine AX ?_
  refine AY (fun h'=>?_) (fun h'=>?_)
  ·refine AX ?_
   refine B2 (.of_eq ?_)
   have e3:Aw (Nu c own) c.over=Nu c own c.over[k]:=DU hlt he h'
   rw[FA,if_neg (by simp[hF]),if_neg (by simp[hP]),if_neg (by simp[hE]),if_pos (by rw[e3];exact h'),e3];rfl
  ·refine AX ?_
   exact⟨k+1,⟨by omega,EC he hlt h'⟩,by dsimp only;omega,⟨rfl,rfl,rfl⟩,.refl _⟩
 have hO:Aw (Nu c own) c.over=0:=E3 fun i h=>he i h (by omega)
 refine AX ?_
 refine BZ [(140,.raw (.bool (decide (c.kind=2∧c.parent=c.file)))),(2,.raw (.pointer (some ⟨b,0,none⟩)))] (.box b 73 (eChg c)::LF) ?_ ?_
 ·repeat' (first|(refine A6 (fun h=>?_) (fun h=>?_)<;>refine AX ?_)|(refine AY (fun h=>?_) (fun h=>?_)<;>refine AX ?_)|(refine AW (fun h=>?_) (fun h=>?_)<;>refine AX ?_)|(refine Av (fun h=>?_) (fun h=>?_)<;>(have h2:=h;(try simp only[AB,A8,AJ,AL]at h2);refine CK ?_)))
  all_goals (refine⟨⟨CD (by rfl) ?_,rfl⟩,.refl _⟩;first|(simp_all;done)|(simp_all;omega)|grind)
 refine AX ?_
 refine A6 (fun h1=>?_) (fun h1=>?_)
 ·refine AX ?_
  refine B2 (.of_eq ?_)
  rw[FA,if_neg (by simp[hF]),if_neg (by simp[hP]),if_neg (by simp[hE]),if_neg (by simp[hO]),if_pos h1]
 refine AX ?_
 refine BZ [(162,.raw (.bool (decide ((IV c.kind=true∧c.after=c.before)∧(c.kind=6∨c.after≠c.file))))),(2,.raw (.pointer (some ⟨b,0,none⟩)))] (.box b 73 (eChg c)::LF) ?_ ?_
 ·repeat' (first|(refine A6 (fun h=>?_) (fun h=>?_)<;>refine AX ?_)|(refine AY (fun h=>?_) (fun h=>?_)<;>refine AX ?_)|(refine AW (fun h=>?_) (fun h=>?_)<;>refine AX ?_)|(refine Av (fun h=>?_) (fun h=>?_)<;>(have h2:=h;(try simp only[AB,A8,AJ,AL]at h2);refine CK ?_)))
  all_goals (refine⟨⟨CD (by rfl) ?_,rfl⟩,.refl _⟩;first|(simp_all;done)|(simp_all;omega)|grind)
 refine AX ?_
 refine A6 (fun h2=>?_) (fun h2=>?_)
 ·refine AX ?_
  refine B2 (.of_eq ?_)
  rw[FA,if_neg (by simp[hF]),if_neg (by simp[hP]),if_neg (by simp[hE]),if_neg (by simp[hO]),if_neg h1,if_pos h2]
 ·refine AX ?_
  refine B2 (.of_eq ?_)
  rw[FA,if_neg (by simp[hF]),if_neg (by simp[hP]),if_neg (by simp[hE]),if_neg (by simp[hO]),if_neg h1,if_neg h2]⟩
def Hb (l:List Dig) (i:Nat):Int:=if l.getD i Dig.zero=Dig.zero then 1 else if 0 < (i:Int)∧0≤Ep (l.getD (i - 1) Dig.zero) (l.getD i Dig.zero)then 9 else 0
def Ir (l:List Dig):Int:=if 100 < (l.length:Int)then 4 else Aw (Hb l) (List.range l.length)
instance z6 (l:List Dig) (t:CF):CB Tryz.prog 162 [.slice (l.map eDig) t] (.raw (.int .i64 (Ir l))):=⟨by
 refine Au Tryz.func162 Tryz.ntmps162 rfl (rs:= [.tmp 2]) rfl rfl fun hb LF=>?_
 have hlen:l.length≤140737488355328:=(hb (.slice (l.map eDig) t) (by simp)).slice_map
 refine AX ?_
 refine A6 (fun h1=>?_) (fun h1=>?_)
 ·refine AX ?_
  refine B2 (.of_eq ?_)
  rw[Ir,if_pos h1]
 refine AX ?_
 refine Ad (σ:=Nat) (fun k=>k≤l.length∧ ∀ i (h:i < (List.range l.length).length),i < k→Hb l (List.range l.length)[i]=0) (fun k=>l.length - k) (fun k=> [(0,.slice (l.map eDig) t),(3,.raw (.int .i64 k))]) (fun _=>LF) 0 ⟨by simp,by simp⟩ ⟨rfl,rfl⟩ (.refl _) ?_
 rintro k ⟨hk,he⟩
 refine AX ?_
 refine A6 (fun hc=>?_) (fun hc=>?_)
 ·have hlt:k < l.length:=by omega
  have hltr:k < (List.range l.length).length:=by simpa using hlt
  have ek:(List.range l.length)[k]=k:=by simp
  have e0:l.getD k Dig.zero=l[k]:=by simp[List.getD,hlt]
  refine AX ?_
  refine A6 (fun h2=>?_) (fun h2=>?_)
  ·refine AX ?_
   refine B2 (.of_eq ?_)
   have e:Hb l (List.range l.length)[k]=1:=by rw[ek,Hb,e0,if_pos h2]
   rw[Ir,if_neg h1,DU hltr he (by rw[e];decide),e]
  refine AX ?_
  refine Av (fun hp=>?_) (fun hp=>?_)
  ·have hp':0 < (k:Int):=BB hp
   refine CK ?_
   have e1:l.getD (k - 1) Dig.zero=l[((k:Int) - 1).toNat]:=by
    have:((k:Int) - 1).toNat=k - 1:=by omega
    simp only[this]
    have h':k - 1 < l.length:=by omega
    simp[List.getD,h']
   refine A6 (fun h3=>?_) (fun h3=>?_)
   ·refine AX ?_
    refine B2 (.of_eq ?_)
    have e:Hb l (List.range l.length)[k]=9:=by rw[ek,Hb,e0,e1,if_neg h2,if_pos ⟨hp',h3⟩]
    rw[Ir,if_neg h1,DU hltr he (by rw[e];decide),e]
   ·refine AX ?_
    have e:Hb l (List.range l.length)[k]=0:=by rw[ek,Hb,e0,e1,if_neg h2,if_neg (fun h=>h3 h.2)]
    exact⟨k+1,⟨by omega,EC he hltr e⟩,by dsimp only;omega,⟨rfl,rfl⟩,.refl _⟩
  ·have hp': ¬0 < (k:Int):=Bp hp
   refine CK ?_
   have e:Hb l (List.range l.length)[k]=0:=by rw[ek,Hb,e0,if_neg h2,if_neg (fun h=>hp' h.1)]
   exact⟨k+1,⟨by omega,EC he hltr e⟩,by dsimp only;omega,⟨rfl,rfl⟩,.refl _⟩
 ·refine AX ?_
  refine B2 (.of_eq ?_)
  rw[Ir,if_neg h1,E3 fun i h=>he i h (by simp at h;omega)]⟩
def Fi (c:Chg) (first:Int) (i:Nat):Atm:={ Atm.zero with id:=⟨Dig.zero,first+i⟩,kind:=5,file:=c.file,text:=c.lines.getD i [] }
def Ez (c:Chg) (first:Int) (i:Nat):Atm:={ Atm.zero with id:=⟨Dig.zero,first+c.lines.length+i⟩,kind:=6,file:=c.file,src:=if 0 < (i:Int)then⟨Dig.zero,first+i - 1⟩else c.after,dst:=if(i:Int) < c.lines.length then⟨Dig.zero,first+i⟩else c.before }
def Ca (c:Chg) (first:Int):List Atm:=
 if c.kind=1 then [{ Atm.zero with id:=⟨Dig.zero,first⟩,kind:=1,file:=⟨Dig.zero,first⟩,type:=c.type }]else
 if c.kind=2 then [{ Atm.zero with id:=⟨Dig.zero,first⟩,kind:=2,file:=c.file,parent:=c.parent,name:=c.name,over:=c.over }]else
 if c.kind=3 then [{ Atm.zero with id:=⟨Dig.zero,first⟩,kind:=3,file:=c.file,mode:=c.mode,over:=c.over }]else
 if c.kind=4 then [{ Atm.zero with id:=⟨Dig.zero,first⟩,kind:=4,file:=c.file,data:=c.data,over:=c.over }]else
 if c.kind=6 then [{ Atm.zero with id:=⟨Dig.zero,first⟩,kind:=6,file:=c.file,src:=c.after,dst:=c.before,over:=c.over }]else
 if c.kind=7 then [{ Atm.zero with id:=⟨Dig.zero,first⟩,kind:=7,over:=c.over }]else
 (List.range c.lines.length).map (Fi c first)++(List.range (c.lines.length+1)).map (Ez c first)
theorem Lu (c:Chg) (first:Int):(Ca c first).length≤2*c.lines.length+1:=by
 unfold Ca
 repeat' split
 all_goals first|(simp only[AN,Af];omega)|(simp only[AA,AR,H4];omega)
instance zH (c:Chg) (first:Int) [hs:B1 (c.lines.length≤2000∧0≤first∧first≤1000000000)]:CB Tryz.prog 32 [.agg (eChg c),.raw (.int .i64 first)] (.slice ((Ca c first).map eAtm) .ro):=⟨by
 refine Au Tryz.func32 Tryz.ntmps32 rfl (rs:= [.tmp 4]) rfl rfl fun hb LF=>?_
 obtain⟨hl,hf0,hf1⟩:=hs.out
 refine DQ fun b=>?_
 refine Fh fun b2=>?_
 refine A6 (fun h1=>?_) (fun h1=>?_)
 ·refine AX ?_
  refine B2 (.of_eq ?_)
  rw[Ca,if_pos h1];rfl
 refine AX ?_
 refine A6 (fun h2=>?_) (fun h2=>?_)
 ·refine AX ?_
  refine B2 (.of_eq ?_)
  rw[Ca,if_neg h1,if_pos h2];rfl
 refine AX ?_
 refine A6 (fun h3=>?_) (fun h3=>?_)
 ·refine AX ?_
  refine B2 (.of_eq ?_)
  rw[Ca,if_neg h1,if_neg h2,if_pos h3];rfl
 refine AX ?_
 refine A6 (fun h4=>?_) (fun h4=>?_)
 ·refine AX ?_
  refine B2 (.of_eq ?_)
  rw[Ca,if_neg h1,if_neg h2,if_neg h3,if_pos h4];rfl
 refine AX ?_
 refine A6 (fun h6=>?_) (fun h6=>?_)
 ·refine AX ?_
  refine B2 (.of_eq ?_)
  rw[Ca,if_neg h1,if_neg h2,if_neg h3,if_neg h4,if_pos h6];rfl
 refine AX ?_
 refine A6 (fun h7=>?_) (fun h7=>?_)
 ·refine AX ?_
  refine B2 (.of_eq ?_)
  rw[Ca,if_neg h1,if_neg h2,if_neg h3,if_neg h4,if_neg h6,if_pos h7];rfl
 refine AX ?_
 refine EO 172 ?_
 refine Ad (σ:=Nat × CF) (fun k=>k.1≤c.lines.length) (fun k=>c.lines.length - k.1) (fun k=> [(1,.raw (.int .i64 first)),(2,.raw (.pointer (some ⟨b,0,none⟩))),(6,.slice (((List.range k.1).map (Fi c first)).map eAtm) k.2),(7,.raw (.int .i64 c.lines.length)),(8,.raw (.int .i64 k.1))]) (fun k=> .tok k.2 ((List.range k.1).map (Fi c first)).length 172:: .box b 73 (eChg c)::LF) (0,.nil) (by simp) ⟨rfl,rfl,rfl,rfl,rfl⟩ (.cons_cons _ (.cons _ (.refl _))) ?_
 rintro⟨k,v⟩ hk
 dsimp only at hk
 refine AX ?_
 refine A6 (fun hc=>?_) (fun hc=>?_)
 ·have hlt:k < c.lines.length:=by omega
  have hll:((List.range k).map (Fi c first)).length=k:=by simp
  generalize hB:(List.range k).map (Fi c first)=B at hll ⊢
  refine SE ?_
  refine Bj 14 ?_ ?_
  ·decide+kernel
  refine IJ fun v'=>?_
  have e:(List.range (k+1)).map (Fi c first)=(List.range k).map (Fi c first)++ [Fi c first k]:=by rw[EJ,Ak];rfl
  rw[hB]at e
  have e2:Fi c first k= { Atm.zero with id:=⟨Dig.zero,first+k⟩,kind:=5,file:=c.file,text:=c.lines[k] }:=by simp[Fi,List.getD,hlt]
  rw[e2]at e
  refine⟨(k+1,v'),by dsimp only;omega,by dsimp only;omega,⟨rfl,rfl,by dsimp only;rw[e];rfl,rfl,rfl⟩,by dsimp only;rw[e];exact .refl _⟩
 have hkk:k=c.lines.length:=by omega
 subst hkk
 refine AX ?_
 generalize hA:(List.range c.lines.length).map (Fi c first)=A
 have hAl:A.length=c.lines.length:=by rw[←hA];simp
 refine Ad (σ:=Nat × CF) (fun k=>k.1≤c.lines.length+1) (fun k=>c.lines.length+1 - k.1) (fun k=> [(1,.raw (.int .i64 first)),(2,.raw (.pointer (some ⟨b,0,none⟩))),(6,.slice ((A++(List.range k.1).map (Ez c first)).map eAtm) k.2),(7,.raw (.int .i64 c.lines.length)),(9,.raw (.int .i64 k.1))]) (fun k=> .tok k.2 (A++(List.range k.1).map (Ez c first)).length 172:: .box b 73 (eChg c)::LF) (0,v) (by simp) ⟨rfl,rfl,by simp only[qf,CU,BX];rfl,rfl,rfl⟩ (by simp only[qf,CU,BX];exact .refl _) ?_
 rintro⟨k,v⟩ hk
 dsimp only at hk
 refine AX ?_
 refine A6 (fun hc=>?_) (fun hc=>?_)
 ·have hll:(A++(List.range k).map (Ez c first)).length=c.lines.length+k:=by simp[hAl]
  have e:A++(List.range (k+1)).map (Ez c first)=(A++(List.range k).map (Ez c first))++ [Ez c first k]:=by rw[EJ,Ak,AU];rfl
  generalize hB:A++(List.range k).map (Ez c first)=B at hll e ⊢
  refine DQ fun b3=>?_
  refine A6 (fun h8=>?_) (fun h8=>?_)
  ·refine AX ?_
   refine A6 (fun h9=>?_) (fun h9=>?_)
   ·refine Hq fun v'=>?_
    have e2:Ez c first k= { Atm.zero with id:=⟨Dig.zero,first+c.lines.length+k⟩,kind:=6,file:=c.file,src:=⟨Dig.zero,first+k - 1⟩,dst:=⟨Dig.zero,first+k⟩ }:=by rw[Ez,if_pos h8,if_pos h9]
    rw[e2]at e
    refine⟨(k+1,v'),by dsimp only;omega,by dsimp only;omega,⟨rfl,rfl,by dsimp only;rw[e];rfl,rfl,rfl⟩,by dsimp only;rw[e];exact .cons _ (.refl _)⟩
   ·refine Hq fun v'=>?_
    have e2:Ez c first k= { Atm.zero with id:=⟨Dig.zero,first+c.lines.length+k⟩,kind:=6,file:=c.file,src:=⟨Dig.zero,first+k - 1⟩,dst:=c.before }:=by rw[Ez,if_pos h8,if_neg h9]
    rw[e2]at e
    refine⟨(k+1,v'),by dsimp only;omega,by dsimp only;omega,⟨rfl,rfl,by dsimp only;rw[e];rfl,rfl,rfl⟩,by dsimp only;rw[e];exact .cons _ (.refl _)⟩
  ·refine AX ?_
   refine A6 (fun h9=>?_) (fun h9=>?_)
   ·refine Hq fun v'=>?_
    have e2:Ez c first k= { Atm.zero with id:=⟨Dig.zero,first+c.lines.length+k⟩,kind:=6,file:=c.file,src:=c.after,dst:=⟨Dig.zero,first+k⟩ }:=by rw[Ez,if_neg h8,if_pos h9]
    rw[e2]at e
    refine⟨(k+1,v'),by dsimp only;omega,by dsimp only;omega,⟨rfl,rfl,by dsimp only;rw[e];rfl,rfl,rfl⟩,by dsimp only;rw[e];exact .cons _ (.refl _)⟩
   ·refine Hq fun v'=>?_
    have e2:Ez c first k= { Atm.zero with id:=⟨Dig.zero,first+c.lines.length+k⟩,kind:=6,file:=c.file,src:=c.after,dst:=c.before }:=by rw[Ez,if_neg h8,if_neg h9]
    rw[e2]at e
    refine⟨(k+1,v'),by dsimp only;omega,by dsimp only;omega,⟨rfl,rfl,by dsimp only;rw[e];rfl,rfl,rfl⟩,by dsimp only;rw[e];exact .cons _ (.refl _)⟩
 ·refine AX ?_
  refine B2 (.ros ?_)
  have hkk:k=c.lines.length+1:=by omega
  subst hkk
  rw[Ca,if_neg h1,if_neg h2,if_neg h3,if_neg h4,if_neg h6,if_neg h7,hA]⟩
theorem JT {c:Chg} (h:C3 c=0):c.lines.length≤2000:=by
 unfold C3 at h
 split at h
 ·omega
 split at h
 ·omega
 rename_i h2
 split at h
 ·omega
 split at h
 ·omega
 split at h
 ·omega
 split at h
 ·omega
 split at h
 ·unfold Mo at h
  split at h
  ·omega
  split at h
  ·omega
  ·omega
 ·rename_i h7
  simp only[Bool.not_eq_false,Fl,BW,AB,Hx,h7,if_false]at h2
  omega
def DA:List Chg→List Atm→List Atm × Int
 | [],own=>(own,0)
 |c::l,own=>if C3 c≠0 then([],C3 c)else if FA c own≠0 then([],FA c own)else DA l (own++Ca c own.length)
theorem LP {l:List Chg} {k:Nat} (hk:k < l.length) (own:List Atm):DA (l.drop k) own=if C3 l[k]≠0 then([],C3 l[k])else if FA l[k] own≠0 then([],FA l[k] own)else DA (l.drop (k+1)) (own++Ca l[k] own.length):=by
 rw[CH hk,DA]
instance uh (l:List Chg) (t:CF) [hs:B1 (l.length≤400)]:CB Tryz.prog 163 [.slice (l.map eChg) t] (.tuple [.slice ((DA l []).1.map eAtm) .ro,.raw (.int .i64 (DA l []).2)]):=⟨by
 refine Au Tryz.func163 Tryz.ntmps163 rfl (rs:= [.tmp 2,.tmp 3]) rfl rfl fun hb LF=>?_
 have hl:=hs.out
 refine AX ?_
 refine EO 172 ?_
 refine Ad (σ:=Nat × CF × List Atm) (fun k=>k.1≤l.length∧k.2.2.length≤k.1*4001∧DA l []=DA (l.drop k.1) k.2.2) (fun k=>l.length - k.1) (fun k=> [(0,.slice (l.map eChg) t),(4,.slice (k.2.2.map eAtm) k.2.1),(5,.raw (.int .i64 k.1))]) (fun k=> .tok k.2.1 k.2.2.length 172::LF) (0,.nil,[]) ⟨by simp,by simp,by simp⟩ ⟨rfl,rfl,rfl⟩ (.refl _) ?_
 rintro⟨k,v,own⟩ ⟨hk,hlen,he⟩
 dsimp only at hk hlen he
 refine AX ?_
 refine A6 (fun hc=>?_) (fun hc=>?_)
 ·have hlt:k < l.length:=by omega
  rw[LP hlt]at he
  refine AX ?_
  refine AY (fun h1=>?_) (fun h1=>?_)
  ·refine AX ?_
   rw[if_pos h1]at he
   refine HH (.tuple2 ?_ (.of_eq ?_))
   ·rw[he];exact .ro _ _
   ·rw[he]
  rw[if_neg (by simp[h1])]at he
  refine AX ?_
  refine AY (fun h2=>?_) (fun h2=>?_)
  ·refine AX ?_
   rw[if_pos h2]at he
   refine HH (.tuple2 ?_ (.of_eq ?_))
   ·rw[he];exact .ro _ _
   ·rw[he]
  rw[if_neg (by simp[h2])]at he
  have hll:l[k].lines.length≤2000:=JT h1
  have hmm:=Lu l[k] own.length
  have:B1 (l[k].lines.length≤2000∧(0:Int)≤own.length∧(own.length:Int)≤1000000000):=⟨hll,by omega,by omega⟩
  refine Hq fun v'=>?_
  refine⟨(k+1,v',own++Ca l[k] own.length),⟨by dsimp only;omega,by dsimp only;rw[AA];omega,he⟩,by dsimp only;omega,⟨rfl,rfl,rfl⟩,.refl _⟩
 ·refine AX ?_
  have hkk:l.drop k= []:=DH (by omega)
  rw[hkk]at he
  refine HH (.tuple2 ?_ (.of_eq ?_))
  ·rw[he];exact .ro _ _
  ·rw[he];rfl⟩
def C9 (p:Pat):List Atm × Int:=
 if Ja p.author=false then([],5)else if 1000 < (p.message.length:Int)then([],4)else if p.time < 0∨1099511627776 < p.time then([],2)else
 if Ir p.deps≠0 then([],Ir p.deps)else if(p.changes.length:Int)=0 then([],1)else if 400 < (p.changes.length:Int)then([],4)else DA p.changes []
instance vt (p:Pat):CB Tryz.prog 113 [.agg (Bz p)] (.tuple [.slice ((C9 p).1.map eAtm) .ro,.raw (.int .i64 (C9 p).2)]):=⟨by
 refine Au Tryz.func113 Tryz.ntmps113 rfl (rs:= [.tmp 2,.tmp 3]) rfl rfl fun hb LF=>?_
 refine DQ fun b=>?_
 refine AW (fun h1=>?_) (fun h1=>?_)
 ·refine AX ?_
  rw[C9,if_pos (by simpa using h1)]
  refine HH ?_;exact .tuple2 (.ro _ _) (.refl _)
 rw[C9,if_neg (by simpa using h1)]
 refine AX ?_
 refine A6 (fun h2=>?_) (fun h2=>?_)
 ·refine AX ?_
  rw[if_pos h2]
  refine HH ?_;exact .tuple2 (.ro _ _) (.refl _)
 rw[if_neg h2]
 refine AX ?_
 refine BZ [(20,.raw (.bool (decide (p.time < 0∨1099511627776 < p.time)))),(1,.raw (.pointer (some ⟨b,0,none⟩)))] (.box b 40 (Bz p)::LF) ?_ ?_
 ·repeat' (first|(refine A6 (fun h=>?_) (fun h=>?_)<;>refine AX ?_)|(refine AY (fun h=>?_) (fun h=>?_)<;>refine AX ?_)|(refine AW (fun h=>?_) (fun h=>?_)<;>refine AX ?_)|(refine Av (fun h=>?_) (fun h=>?_)<;>(have h2:=h;(try simp only[AB,A8,AJ,AL]at h2);refine CK ?_)))
  all_goals (refine⟨⟨CD (by rfl) ?_,rfl⟩,.refl _⟩;first|(simp_all;done)|(simp_all;omega)|grind)
 refine AX ?_
 refine A6 (fun h3=>?_) (fun h3=>?_)
 ·refine AX ?_
  rw[if_pos h3]
  refine HH ?_;exact .tuple2 (.ro _ _) (.refl _)
 rw[if_neg h3]
 refine AX ?_
 refine AY (fun h4=>?_) (fun h4=>?_)
 ·refine AX ?_
  rw[if_pos h4]
  refine HH ?_;exact .tuple2 (.ro _ _) (.refl _)
 rw[if_neg (by simp[h4])]
 refine AX ?_
 refine A6 (fun h5=>?_) (fun h5=>?_)
 ·refine AX ?_
  rw[if_pos h5]
  refine HH ?_;exact .tuple2 (.ro _ _) (.refl _)
 rw[if_neg h5]
 refine AX ?_
 refine A6 (fun h6=>?_) (fun h6=>?_)
 ·refine AX ?_
  rw[if_pos h6]
  refine HH ?_;exact .tuple2 (.ro _ _) (.refl _)
 rw[if_neg h6]
 have:B1 (p.changes.length≤400):=⟨by omega⟩
 refine AX ?_
 refine HH ?_;exact .refl _⟩
end Go.Proofs
