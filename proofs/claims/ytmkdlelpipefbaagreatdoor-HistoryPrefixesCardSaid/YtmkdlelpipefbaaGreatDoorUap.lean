/- Contracts of the program: the resolver of a set. -/
import Derived.Test.YtmkdlelpipefbaaGreatDoorUao
import Derived.Test.YtmkdlelpipefbaaGreatDoorUam
import Derived.Test.YtmkdlelpipefbaaGreatDoorUan
import Derived.Test.YtmkdlelpipefbaaGreatDoorUah
import Derived.Carry
import Derived.Test.YtmkdlelpipefbaaGreatDoorUal
set_option linter.unusedSimpArgs false
set_option linter.unusedVariables false
namespace Go.Proofs
open Go Go.Q
attribute [local irreducible] pwp pops PCalls OpN
instance zr_res:ZeroE Tryz.prog 139 [.slice [] .ro,.raw (.map none)]:=ZeroE.of (us:= [PV.slice [] .ro,.raw (.map none)].map zv) (by kernel_rfl) (by kernel_rfl)
def eRsv (s:List Sto) (m:Nat):List PV:= [.slice (s.map eSto) .ro,.raw (.map (some m))]
def knownR (m:Nat) (known:List (Dig × List Atm)):List Res:= [.map m (eMap kDig (vSl eAtm) known)]
theorem newResolver_fn (s:List Sto) (t:Tag):PCalls Tryz.prog 58 [.slice (s.map eSto) t] [] (fun r L'=> ∃ m,r= .pt (eRsv s m) 0∧L'=knownR m []):=by
 refine pcalls_bd Tryz.func58 rfl Tryz.ntmps58 (rs:= [.tmp 2]) rfl rfl fun hb LF=>?_
 refine wf ?_
 refine s_makeMap fun m=>?_
 refine wf ?_
 exact⟨trivial,_,knownR m [],.cons (.tmp 2) .nil,.refl _,m,rfl,rfl⟩
end Go.Proofs
namespace Go.Proofs
open Go Go.Q
attribute [local irreducible] pwp pops PCalls OpN
theorem getS_idx (s:List Sto) (d:Dig):(idxF (fun x=>decide (x.id=d)) s < 0→getS s d=none)∧(∀ k:Nat,idxF (fun x=>decide (x.id=d)) s=(k:Int)→ ∃ h:k < s.length,getS s d=some s[k].patch):=by
 have key: ∀ l:List Sto,(l.any (fun x=>decide (x.id=d))=false→getS l d=none)∧(l.any (fun x=>decide (x.id=d))=true→ ∃ h:l.findIdx (fun x=>decide (x.id=d)) < l.length,getS l d=some (l[l.findIdx fun x=>decide (x.id=d)]).patch):=fun l=>by
  induction l with
  |nil=>exact⟨fun _=>rfl,fun h=>by cases h⟩
  |cons x l ih=>
   by_cases hx:x.id=d
   ·refine⟨fun h=>by simp[hx]at h,fun _=>?_⟩
    have e:(x::l).findIdx (fun x=>decide (x.id=d))=0:=by simp[List.findIdx_cons,hx]
    refine⟨by rw[e];simp,?_⟩
    simp only[e,List.getElem_cons_zero]
    rw[getS,if_pos hx]
   ·have eg:getS (x::l) d=getS l d:=by rw[getS,if_neg hx]
    refine⟨fun h=>by rw[eg];exact ih.1 (by simpa [hx]using h),fun h=>?_⟩
    obtain⟨h1,h2⟩:=ih.2 (by simpa [hx]using h)
    have e:(x::l).findIdx (fun x=>decide (x.id=d))=l.findIdx (fun x=>decide (x.id=d))+1:=by simp[List.findIdx_cons,hx]
    refine⟨by rw[e,List.length_cons];omega,?_⟩
    simp only[e,List.getElem_cons_succ]
    rw[eg,h2]
 obtain⟨k1,k2⟩:=key s
 refine⟨fun h=>k1 ?_,fun k h=>?_⟩
 ·unfold idxF at h
  by_cases ha:s.any (fun x=>decide (x.id=d))=true
  ·rw[if_pos ha]at h;omega
  ·simpa using ha
 ·unfold idxF at h
  by_cases ha:s.any (fun x=>decide (x.id=d))=true
  ·rw[if_pos ha]at h
   have hk:s.findIdx (fun x=>decide (x.id=d))=k:=by omega
   obtain⟨h1,h2⟩:=k2 ha
   subst hk
   exact⟨h1,h2⟩
  ·rw[if_neg ha]at h;omega
instance get1_ct (x:Sto) (d:Dig):FnC Tryz.prog 46 [.agg (eSto x),.pt (eDig d) 0] (.raw (.bool (decide (x.id=d)))):=⟨by
 refine fn_of Tryz.func46 Tryz.ntmps46 rfl (rs:= [.tmp 3]) rfl rfl fun hb LF=>?_
 refine wf ?_
 exact end1 (.refl _)⟩
instance GetP_ct (s:List Sto) (t:Tag) (d:Dig):FnC Tryz.prog 21 [.slice (s.map eSto) t,.agg (eDig d)] (.tuple [.agg (ePat ((getS s d).getD Pat.zero)),.raw (.bool (getS s d).isSome)]):=⟨by
 have i1: ∀ t,FnC Tryz.prog 45 [.slice (s.map eSto) t,.clo 46 [.pt (eDig d) 0]] (.raw (.int .i64 (idxF (fun x=>decide (x.id=d)) s))):=fun t=>indexS_fn _ _ _ s t
 obtain⟨g1,g2⟩:=getS_idx s d
 refine fn_of Tryz.func21 Tryz.ntmps21 rfl (rs:= [.cell 4 44,.tmp 5]) rfl rfl fun hb LF=>?_
 refine wf ?_
 refine s_alloc fun b4=>?_
 refine wf ?_
 refine pwp_condD (fun h=>?_) (fun h=>?_)
 ·rw[g1 h]
  rw[Option.isSome_none,Option.getD_none]
  refine wf ?_
  exact endC1 rfl (.refl _)
 ·obtain⟨k,hk⟩: ∃ k:Nat,idxF (fun x=>decide (x.id=d)) s=(k:Int):=⟨(idxF (fun x=>decide (x.id=d)) s).toNat,by omega⟩
  obtain⟨hlt,hg⟩:=g2 k hk
  rw[hk,hg,Option.isSome_some,Option.getD_some]
  refine wf ?_
  exact endC1 rfl (.refl _)⟩
end Go.Proofs
namespace Go.Proofs
open Go Go.Q
attribute [local irreducible] pwp pops PCalls OpN
def coreA (a:Atm):Atm:={ a with over:= [] }
theorem idsOk_changes: ∀ (l:List Chg) (own:List Atm),idsOk own→idsOk (rChanges l own).1
 | [],_,h=>h
 |c::l,own,h=>by
  unfold rChanges
  split
  ·exact fun i hi=>absurd hi (by simp)
  ·split
   ·exact fun i hi=>absurd hi (by simp)
   ·exact idsOk_changes l _ (idsOk_made c h)
theorem idsOk_check (p:Pat):idsOk (rCheckP p).1:=by
 have h0:idsOk ([]:List Atm):=fun i hi=>absurd hi (by simp)
 unfold rCheckP
 repeat' split
 all_goals first|exact h0|exact idsOk_changes _ _ h0
theorem fP_core (d:Dig) {a:Atm} (h1:a.id.patch=Dig.zero) (h2:0≤a.id.n):coreA (fP d a)=coreA (rFull d a):=by
 have e:fP1 d a=rFull1 d a:=by
  unfold fP1 rFull1 rWhole;rw[if_pos ⟨h1,h2⟩]
 rw[fP,rFull,e]
 rfl
theorem rEx_id (p:Pat):(rEx p).2.2=(rId p).2:=by
 rw[rEx_err,rId]
 by_cases h:(rEncodeP p).2≠0
 ·rw[if_pos h]
 ·rw[if_neg h];simpa using h
theorem rEx_own {p:Pat} (h:(rEx p).2.2=0):(rEx p).1=(rCheckP p).1∧(rCheckP p).2=0:=by
 unfold rEx at h ⊢
 by_cases g1:(rCheckP p).2≠0
 ·rw[if_pos g1]at h;exact absurd h g1
 by_cases g2:65536 < ((rEnc p).length:Int)
 ·rw[if_neg g1,if_pos g2]at h;exact absurd h (by decide)
 rw[if_neg g1,if_neg g2]
 exact⟨rfl,by simpa using g1⟩
theorem atoms_core (p:Pat):(atomsP p).1.map coreA=(rAtoms p).1.map coreA:=by
 unfold atomsP rAtoms
 rw[rEx_id]
 by_cases h:(rId p).2≠0
 ·rw[if_pos h,if_pos h]
 ·rw[if_neg h,if_neg h,if_neg h]
  have h3:(rEx p).2.2=0:=by rw[rEx_id];simpa using h
  dsimp only
  rw[(rEx_own h3).1,List.map_map,List.map_map]
  refine List.map_congr_left fun a ha=>?_
  obtain⟨i,hi,rfl⟩:=List.mem_iff_getElem.1 ha
  have e:=idsOk_check p i hi
  exact fP_core _ (by rw[e]) (by rw[e];exact Int.natCast_nonneg _)
def atomsPS (s:List Sto) (d:Dig):List Atm:=(atomsP ((getS s d).getD Pat.zero)).1
def atomPS (s:List Sto) (x:Ident):Option Atm:=if x.n < 0∨((atomsPS s x.patch).length:Int)≤x.n then none else(atomsPS s x.patch)[x.n.toNat]?
theorem atom_core (s:List Sto) (x:Ident):(atomPS s x).map coreA=(rAtom s x).map coreA:=by
 have e:=atoms_core ((getS s x.patch).getD Pat.zero)
 have el:=congrArg List.length e
 rw[List.length_map,List.length_map]at el
 unfold atomPS rAtom atomsPS rAtomsOf
 rw[el]
 by_cases h:x.n < 0∨((rAtoms ((getS s x.patch).getD Pat.zero)).1.length:Int)≤x.n
 ·rw[if_pos h,if_pos h]
 ·rw[if_neg h,if_neg h,←List.getElem?_map,←List.getElem?_map,e]
theorem refOk_core {f:Atm→Bool} (hf: ∀ a,f a=f (coreA a)) {o p:Option Atm} (e:o.map coreA=p.map coreA):rRefOk o f=rRefOk p f:=by
 cases o with
 |none=>cases p with
  |none=>rfl
  |some b=>cases e
 |some a=>cases p with
  |none=>cases e
  |some b=>
   have e2:coreA a=coreA b:=by simpa using e
   unfold rRefOk
   rw[Option.getD_some,Option.getD_some,hf a,hf b,e2];rfl
theorem refOk_set (s:List Sto) (x:Ident) {f:Atm→Bool} (hf: ∀ a,f a=f (coreA a)):rRefOk (atomPS s x) f=rRefOk (rAtom s x) f:=refOk_core hf (atom_core s x)
def predS (c:Chg) (g:Ident) (r:Rfc):Atm→Bool:=
 if r.f=132 then ffP c.kind else if r.f=134 then pf5 else if r.f=135 then sf4 r.id c.file g else sf5 (ovK c.kind) g
theorem mem_putR {l:List Rfc} {r x:Rfc} (h:r∈putR l x):r∈l∨r=x:=by
 unfold putR at h
 split at h
 ·exact .inl h
 ·simpa using h
theorem mem_foldR {α:Type} {f:α→Rfc} {r:Rfc}: ∀ {o:List α} {l:List Rfc},r∈o.foldl (fun l x=>putR l (f x)) l→r∈l∨ ∃ x∈o,r=f x
 | [],_,h=> .inl h
 |y::o,l,h=>by
  rw[List.foldl_cons]at h
  rcases mem_foldR (o:=o) h with h|⟨x,hx,e⟩
  ·rcases mem_putR h with h|h
   ·exact .inl h
   ·exact .inr ⟨y,by simp,h⟩
  ·exact .inr ⟨x,by simp[hx],e⟩
theorem fitsS_mem (id:Dig) (c:Chg) (r:Rfc) (h:r∈refsS id c):Fits Tryz.prog r (predS c (fileS id c) r):=by
 unfold refsS rs4 at h
 rcases mem_foldR h with h|⟨x,_,rfl⟩
 ·unfold rs3 at h
  have key:r∈rs2 c (rs1 c)∨ ∃ x:Ident,r=end1R (fileS id c) c x:=by
   split at h
   ·rcases mem_foldR h with h|⟨x,_,e⟩
    ·exact .inl h
    ·exact .inr ⟨x,e⟩
   ·exact .inl h
  rcases key with h|⟨x,rfl⟩
  ·unfold rs2 at h
   have key:r∈rs1 c∨r=⟨c.parent,134,[]⟩:=by
    split at h
    ·exact mem_putR h
    ·exact .inl h
   rcases key with h|rfl
   ·unfold rs1 at h
    have key:r=⟨c.file,132,[.pt (eChg c) 0]⟩:=by
     split at h
     ·rcases mem_putR h with h|h
      ·cases h
      ·exact h
     ·cases h
    subst key
    exact⟨inferInstance,fun a=>(sf2_ct c a).out⟩
   ·exact⟨inferInstance,fun a=>(sf3_ct a).out⟩
  ·exact⟨(inferInstance:TFun Tryz.prog 135),fun a=>(sf4_ct x (fileS id c) c a).out⟩
 ·exact⟨(inferInstance:TFun Tryz.prog 137),fun a=>(sf5_ct (ovK c.kind) (fileS id c) a).out⟩
def refSE (s:List Sto) (c:Chg) (g:Ident) (r:Rfc):Int:=rRefOk (atomPS s r.id) (predS c g r)
def chgSE (s:List Sto) (id:Dig) (c:Chg):Int:=firstErr (refSE s c (fileS id c)) (refsS id c)
def unfitP (s:List Sto) (p:Pat) (id:Dig):Int:=firstErr (chgSE s id) p.changes
theorem firstErr_putR (f:Rfc→Int) (l:List Rfc) (r:Rfc):firstErr f (putR l r)=if firstErr f l≠0 then firstErr f l else if r.id.patch=Dig.zero then 0 else f r:=by
 unfold putR
 by_cases h:r.id.patch=Dig.zero
 ·rw[if_pos h,if_pos h]
  by_cases h2:firstErr f l=0
  ·rw[if_neg (by simp[h2]),h2]
  ·rw[if_pos h2]
 ·rw[if_neg h,if_neg h,firstErr_append]
  have:firstErr f [r]=f r:=by
   rw[firstErr,firstErr];split
   ·rename_i h;exact h.symm
   ·rfl
  rw[this]
theorem firstErr_foldR {α:Type} (f:Rfc→Int) (h:α→Rfc): ∀ (o:List α) (l:List Rfc),firstErr f (o.foldl (fun l x=>putR l (h x)) l)=if firstErr f l≠0 then firstErr f l else firstErr (fun x=>if(h x).id.patch=Dig.zero then 0 else f (h x)) o
 | [],l=>by
   by_cases h2:firstErr f l=0
   ·simp[h2,firstErr]
   ·simp[h2]
 |x::o,l=>by
  rw[List.foldl_cons,firstErr_foldR f h o,firstErr_putR,firstErr]
  generalize (if(h x).id.patch=Dig.zero then 0 else f (h x))=v
  by_cases h2:firstErr f l=0<;>by_cases h3:v=0<;>simp[h2,h3]
theorem rEmpty_rest {c:Chg} (hf:rFields c=0):(¬(2≤c.kind∧c.kind≤6)→c.file=Ident.zero)∧(c.kind≠2→c.parent=Ident.zero)∧(¬(c.kind=5∨c.kind=6)→c.after=Ident.zero∧c.before=Ident.zero):=by
 have h2:=fields_empty hf
 unfold rEmpty rRest at h2
 simp only[Bool.and_eq_true,decide_eq_true_eq]at h2
 obtain⟨⟨⟨⟨⟨⟨⟨⟨⟨h1,_⟩,h3⟩,_⟩,_⟩,_⟩,h7⟩,h8⟩,_⟩,_⟩:=h2
 refine⟨fun h=>?_,fun h=>?_,fun h=>⟨?_,?_⟩⟩
 ·rwa [if_neg h]at h1
 ·rwa [if_neg h]at h3
 ·rwa [if_neg h]at h7
 ·rwa [if_neg h]at h8
theorem chgSE_eq (s:List Sto) (id:Dig) {c:Chg} {own:List Atm} (hf:rFields c=0) (hr:rRefs c own=0):chgSE s id c=rChgE s c id:=by
 have hk:=fields_kind hf
 obtain⟨z1,z2,z3⟩:=rEmpty_rest hf
 have hn:2≤c.kind∧c.kind≤6→0≤c.file.n:=fun h=>by
  have h1:rRefF c own=0:=by
   by_cases h0:rRefF c own=0
   ·exact h0
   ·rw[rRefs,if_pos h0]at hr;exact absurd hr h0
  rw[rRefF,if_pos h,rOne]at h1
  by_cases h2:rAllowed c.file own.length=false
  ·rw[if_pos h2]at h1;omega
  ·have h2:rAllowed c.file own.length=true:=by simpa using h2
   unfold rAllowed at h2
   split at h2<;>simp at h2<;>omega
 have hg:2≤c.kind∧c.kind≤6→fileS id c=rComplete c.file id:=fun h=>by
  unfold fileS rComplete
  by_cases h1:c.file.patch=Dig.zero
  ·rw[if_pos h1,if_pos ⟨hn h,h1⟩]
  ·rw[if_neg h1,if_neg (fun h=>h1 h.2)]
 have e1:firstErr (refSE s c (fileS id c)) (rs1 c)=rChgF s c:=by
  unfold rs1 rChgF
  by_cases h:c.kind≠1∧c.kind≠7
  ·rw[if_pos h,firstErr_putR,if_neg (by simp[firstErr])]
   unfold rOther
   by_cases h1:c.file.patch=Dig.zero
   ·rw[if_pos h1,if_neg (by simp[h1])]
   ·rw[if_neg h1,if_pos (by simp[h1]),refSE,show predS c (fileS id c) ⟨c.file,132,[.pt (eChg c) 0]⟩=ffP c.kind from rfl,refOk_set s c.file (fun a=>rfl)]
    congr 1
    funext a
    unfold ffP rFitsFile rText
    by_cases h5:c.kind=5∨c.kind=6
    ·rcases h5 with h|h<;>simp[h]
    ·have: ¬c.kind=5∧ ¬c.kind=6:=⟨fun h=>h5 (.inl h),fun h=>h5 (.inr h)⟩
     by_cases h4:c.kind=4<;>simp[this,h4]
  ·rw[if_neg h,z1 (by omega)]
   simp[firstErr,rOther,Ident.zero]
 have e2: ∀ l,firstErr (refSE s c (fileS id c)) (rs2 c l)=if firstErr (refSE s c (fileS id c)) l≠0 then firstErr (refSE s c (fileS id c)) l else rChgP s c:=fun l=>by
  unfold rs2 rChgP
  by_cases h:c.kind=2
  ·rw[if_pos h,firstErr_putR]
   unfold rOther
   by_cases h1:c.parent.patch=Dig.zero
   ·rw[if_pos h1,if_neg (by simp[h1]: ¬(!decide (c.parent.patch=Dig.zero))=true)]
   ·rw[if_neg h1,if_pos (by simp[h1]:(!decide (c.parent.patch=Dig.zero))=true),refSE,show predS c (fileS id c) ⟨c.parent,134,[]⟩=pf5 from rfl,refOk_set s c.parent (fun a=>rfl)]
    rfl
  ·rw[if_neg h,z2 h,if_neg (by simp[rOther,Ident.zero]: ¬rOther Ident.zero=true)]
   split
   ·rfl
   ·rename_i h;simpa using h
 have e3:rChgF s c=0→ ∀ l,firstErr (refSE s c (fileS id c)) (rs3 (fileS id c) c l)=if firstErr (refSE s c (fileS id c)) l≠0 then firstErr (refSE s c (fileS id c)) l else if rEndE s c.after c.file id≠0 then rEndE s c.after c.file id else rEndE s c.before c.file id:=fun hF l=>by
  unfold rs3
  by_cases h:c.kind=5∨c.kind=6
  ·have hx: ∀ x:Ident,(if(end1R (fileS id c) c x).id.patch=Dig.zero then 0 else refSE s c (fileS id c) (end1R (fileS id c) c x))=rEndE s x c.file id:=fun x=>by
    unfold rEndE rOther
    by_cases h1:x.patch=Dig.zero
    ·rw[if_pos (show(end1R (fileS id c) c x).id.patch=Dig.zero from h1),if_pos (by simp[h1])]
    ·rw[if_neg (show ¬(end1R (fileS id c) c x).id.patch=Dig.zero from h1),refSE,show predS c (fileS id c) (end1R (fileS id c) c x)=sf4 x c.file (fileS id c) from rfl,show(end1R (fileS id c) c x).id=x from rfl,refOk_set s x (fun a=>rfl)]
     by_cases h2:x=c.file
     ·rw[if_pos (.inr h2)]
      subst h2
      rw[rChgF,if_pos (by simp[rOther,h1]),rRefOk]at hF
      by_cases h3:(rAtom s c.file).isSome=false
      ·rw[if_pos h3]at hF;omega
      ·rw[rRefOk,if_neg h3,if_neg (by simp[sf4])]
     ·rw[if_neg (by simp[h1,h2]),hg (by omega)]
      congr 1
      funext a
      simp[sf4,rFitsEnd,h2]
   rw[if_pos h,firstErr_foldR,firstErr,firstErr,firstErr,hx,hx]
   by_cases q1:rEndE s c.after c.file id=0
   ·rw[if_pos q1,if_neg (by simp[q1]: ¬rEndE s c.after c.file id≠0)]
    by_cases q2:rEndE s c.before c.file id=0
    ·rw[if_pos q2,q2]
    ·rw[if_neg q2]
   ·rw[if_neg q1,if_pos q1]
  ·obtain⟨za,zb⟩:=z3 h
   have q:rEndE s Ident.zero c.file id=0:=by rw[rEndE,if_pos (.inl (by simp[rOther,Ident.zero]))]
   rw[if_neg h,za,zb,q]
   split
   ·rfl
   ·rename_i h;simpa using h
 have e4: ∀ l,firstErr (refSE s c (fileS id c)) (rs4 (fileS id c) c l c.over)=if firstErr (refSE s c (fileS id c)) l≠0 then firstErr (refSE s c (fileS id c)) l else firstErr (rChgO s c id) c.over:=fun l=>by
  unfold rs4
  rw[firstErr_foldR]
  congr 1
  refine firstErr_congr fun x hx=>?_
  have h15:c.kind≠1∧c.kind≠5:=⟨fun h=>(by rw[fields_over hf (.inl h)]at hx;simp at hx),fun h=>(by rw[fields_over hf (.inr h)]at hx;simp at hx)⟩
  unfold rChgO rOther
  by_cases h1:x.patch=Dig.zero
  ·rw[if_pos (show(over1R (fileS id c) c x).id.patch=Dig.zero from h1),if_pos (by simp[h1])]
  ·rw[if_neg (show ¬(over1R (fileS id c) c x).id.patch=Dig.zero from h1),if_neg (by simp[h1]),refSE,show predS c (fileS id c) (over1R (fileS id c) c x)=sf5 (ovK c.kind) (fileS id c) from rfl,show(over1R (fileS id c) c x).id=x from rfl,refOk_set s x (fun a=>rfl)]
   congr 1
   funext a
   unfold sf5 rFitsOver rWant ovK
   by_cases h7:c.kind=7
   ·simp[h7]
   ·have:c.kind=2∨c.kind=3∨c.kind=4∨c.kind=6:=by omega
    rw[if_pos this,if_neg h7,hg (by omega)]
 unfold chgSE refsS rChgE
 rw[e4]
 by_cases q0:rChgF s c=0
 ·rw[e3 q0,e2,e1,q0]
  by_cases q1:rChgP s c=0
  ·by_cases q2:rEndE s c.after c.file id=0
   ·by_cases q3:rEndE s c.before c.file id=0
    ·simp[q1,q2,q3]
    ·simp[q1,q2,q3]
   ·simp[q1,q2]
  ·simp[q1]
 ·have k2:firstErr (refSE s c (fileS id c)) (rs2 c (rs1 c))=rChgF s c:=by rw[e2,e1,if_pos q0]
  have k3:firstErr (refSE s c (fileS id c)) (rs3 (fileS id c) c (rs2 c (rs1 c)))=rChgF s c:=by
   unfold rs3
   split
   ·rw[firstErr_foldR,k2,if_pos q0]
   ·exact k2
  rw[k3,if_pos q0,if_pos q0]
theorem changes_ok: ∀ {l:List Chg} {own:List Atm},(rChanges l own).2=0→ ∀ c∈l,rFields c=0∧ ∃ own,rRefs c own=0
 | [],_,_,c,h=>by cases h
 |x::l,own,h,c,hc=>by
  unfold rChanges at h
  by_cases h1:rFields x≠0
  ·rw[if_pos h1]at h;exact absurd h h1
  by_cases h2:rRefs x own≠0
  ·rw[if_neg h1,if_pos h2]at h;exact absurd h h2
  rw[if_neg h1,if_neg h2]at h
  rcases List.mem_cons.1 hc with rfl|hc
  ·exact⟨by simpa using h1,own,by simpa using h2⟩
  ·exact changes_ok h c hc
theorem check_changes {p:Pat} (h:(rCheckP p).2=0): ∀ c∈p.changes,rFields c=0∧ ∃ own,rRefs c own=0:=by
 have e:rHead p=0:=by
  by_cases h0:rHead p=0
  ·exact h0
  ·rw[checkP_head,if_pos h0]at h;exact absurd h h0
 rw[rCheckP_ok e]at h
 exact changes_ok h
theorem unfit_eq (s:List Sto) {p:Pat} (id:Dig) (h:(rId p).2=0):unfitP s p id=rRefsS s p id:=by
 have h2:=(rEx_own (p:=p) (by rw[rEx_id];exact h)).2
 refine firstErr_congr fun c hc=>?_
 obtain⟨hf,own,hr⟩:=check_changes h2 c hc
 exact chgSE_eq s id hf hr
end Go.Proofs
namespace Go.Proofs
open Go Go.Q
theorem u8_toNat {n:Nat} (h:n < 256):(UInt8.ofNat n).toNat=n:=by
 rw[UInt8.toNat_ofNat'];omega
theorem rDec_digit (n:Nat): ∀ c∈rDec n,48≤c.toNat∧c.toNat≤57:=by
 induction n using Nat.strongRecOn with
 |_ n ih=>
  by_cases h:n < 10
  ·rw[rDec_small h]
   intro c hc
   rw[List.mem_singleton.1 hc,u8_toNat (by omega)]
   omega
  ·rw[rDec_big h]
   intro c hc
   rcases List.mem_append.1 hc with hc|hc
   ·exact ih (n / 10) (by omega) c hc
   ·rw[List.mem_singleton.1 hc,u8_toNat (by omega)]
    omega
theorem rDec_ne (n:Nat):rDec n≠ []:=by
 by_cases h:n < 10
 ·rw[rDec_small h];simp
 ·rw[rDec_big h];simp
def undec (l:Str):Nat:=l.foldl (fun a c=>10*a+(c.toNat - 48)) 0
theorem undec_rDec (n:Nat):undec (rDec n)=n:=by
 induction n using Nat.strongRecOn with
 |_ n ih=>
  by_cases h:n < 10
  ·rw[rDec_small h]
   show 10*0+((UInt8.ofNat (48+n)).toNat - 48)=n
   rw[u8_toNat (by omega)];omega
  ·rw[rDec_big h]
   have e:=ih (n / 10) (by omega)
   unfold undec at e ⊢
   rw[List.foldl_append,e]
   show 10*(n / 10)+((UInt8.ofNat (48+n % 10)).toNat - 48)=n
   rw[u8_toNat (by omega)];omega
theorem rDec_inj {n m:Nat} (h:rDec n=rDec m):n=m:=by rw[←undec_rDec n,h,undec_rDec]
theorem rDec_no45 (n:Nat) (l:Str) (r:Str): ¬45::l=rDec n++r:=fun h=>by
 cases hd:rDec n with
 |nil=>exact rDec_ne n hd
 |cons c t=>
  rw[hd,List.cons_append]at h
  injection h with h1 _
  have:=rDec_digit n c (by rw[hd];simp)
  rw[←h1]at this
  exact absurd this.1 (by decide)
theorem rDecI_inj {n m:Int} (h:rDecI n=rDecI m):n=m:=by
 unfold rDecI at h
 by_cases h1:n < 0
 ·by_cases h2:m < 0
  ·rw[if_pos h1,if_pos h2]at h
   injection h with _ h
   have:=rDec_inj h
   omega
  ·rw[if_pos h1,if_neg h2]at h
   exact absurd (by rw[h,List.append_nil]) (rDec_no45 m.toNat _ [])
 ·by_cases h2:m < 0
  ·rw[if_neg h1,if_pos h2]at h
   exact absurd (by rw[←h,List.append_nil]) (rDec_no45 n.toNat (rDec (-m).toNat) [])
  ·rw[if_neg h1,if_neg h2]at h
   have:=rDec_inj h
   omega
theorem split58: ∀ {a b r s:Str},(∀ c∈a,c.toNat≤57)→(∀ c∈b,c.toNat≤57)→a++58::r=b++58::s→a=b∧r=s
 | [],[],r,s,_,_,h=>⟨rfl,by simpa using h⟩
 | [],y::b,r,s,_,hb,h=>by
   rw[List.nil_append,List.cons_append]at h
   injection h with h1 _
   have:=hb y (by simp)
   rw[←h1]at this
   exact absurd this (by decide)
 |x::a,[],r,s,ha,_,h=>by
  rw[List.nil_append,List.cons_append]at h
  injection h with h1 _
  have:=ha x (by simp)
  rw[h1]at this
  exact absurd this (by decide)
 |x::a,y::b,r,s,ha,hb,h=>by
  rw[List.cons_append,List.cons_append]at h
  injection h with h1 h2
  obtain⟨e1,e2⟩:=split58 (fun c hc=>ha c (List.mem_cons_of_mem _ hc)) (fun c hc=>hb c (List.mem_cons_of_mem _ hc)) h2
  exact⟨by rw[h1,e1],e2⟩
theorem encX_head: ∀ {d:Nat} {x:Sx},wfX d x→ ∃ c t,encX d x=c::t∧c≠41∧(c=40↔x.isList=true)
 |0,_,h=>h.elim
 |d+1,x,_=>by
  cases hl:x.isList with
  |true=>exact⟨40,_,by rw[encX,if_pos hl],by decide,by simp⟩
  |false=>
   have e:encX (d+1) x=rDec x.atom.length++58::x.atom:=by rw[encX,if_neg (by simp[hl])]
   cases hd:rDec x.atom.length with
   |nil=>exact absurd hd (rDec_ne _)
   |cons c t=>
    have hc:=rDec_digit x.atom.length c (by rw[hd];simp)
    refine⟨c,t++58::x.atom,by rw[e,hd];rfl,?_,?_⟩
    ·rintro rfl;exact absurd hc.1 (by decide)
    ·constructor
     ·rintro rfl;exact absurd hc.1 (by decide)
     ·intro h';cases h'
theorem encL_inj {d:Nat} (ih: ∀ {x y:Sx} {r s:Str},wfX d x→wfX d y→encX d x++r=encX d y++s→x=y∧r=s): ∀ {l m:List Sx} {r s:Str},(∀ y∈l,wfX d y)→(∀ y∈m,wfX d y)→l.flatMap (encX d)++41::r=m.flatMap (encX d)++41::s→l=m∧r=s
 | [],[],r,s,_,_,h=>⟨rfl,by simpa using h⟩
 | [],y::m,r,s,_,hm,h=>by
   obtain⟨c,t,e,h41,_⟩:=encX_head (hm y (by simp))
   rw[List.flatMap_nil,List.nil_append,List.flatMap_cons,e,List.cons_append,List.cons_append]at h
   injection h with h1 _
   exact absurd h1.symm h41
 |x::l,[],r,s,hl,_,h=>by
  obtain⟨c,t,e,h41,_⟩:=encX_head (hl x (by simp))
  rw[List.flatMap_nil,List.nil_append,List.flatMap_cons,e,List.cons_append,List.cons_append]at h
  injection h with h1 _
  exact absurd h1 h41
 |x::l,y::m,r,s,hl,hm,h=>by
  rw[List.flatMap_cons,List.flatMap_cons,List.append_assoc,List.append_assoc]at h
  obtain⟨e1,e2⟩:=ih (hl x (by simp)) (hm y (by simp)) h
  obtain⟨e3,e4⟩:=encL_inj ih (fun z hz=>hl z (List.mem_cons_of_mem _ hz)) (fun z hz=>hm z (List.mem_cons_of_mem _ hz)) e2
  exact⟨by rw[e1,e3],e4⟩
theorem encX_inj: ∀ (d:Nat) {x y:Sx} {r s:Str},wfX d x→wfX d y→encX d x++r=encX d y++s→x=y∧r=s
 |0,_,_,_,_,h,_,_=>h.elim
 |d+1,x,y,r,s,hx,hy,h=>by
  obtain⟨c1,t1,e1,_,k1⟩:=encX_head hx
  obtain⟨c2,t2,e2,_,k2⟩:=encX_head hy
  have hc:c1=c2:=by
   rw[e1,e2,List.cons_append,List.cons_append]at h
   injection h
  subst hc
  have hkind:x.isList=y.isList:=by
   rw[Bool.eq_iff_iff];exact k1.symm.trans k2
  clear k1 k2 e1 e2
  obtain⟨b1,a1,l1⟩:=x
  obtain⟨b2,a2,l2⟩:=y
  change b1=b2 at hkind
  subst hkind
  rcases hx with ⟨h1,h2,h3⟩|⟨h1,h2,h3⟩
  ·rcases hy with ⟨_,g2,_⟩|⟨g1,_⟩
   ·change b1=false at h1
    change l1= []at h2
    change l2= []at g2
    subst h1 h2 g2
    have q1:encX (d+1) (.mk false a1 [])=rDec a1.length++58::a1:=rfl
    have q2:encX (d+1) (.mk false a2 [])=rDec a2.length++58::a2:=rfl
    rw[q1,q2,List.append_assoc,List.append_assoc,List.cons_append,List.cons_append]at h
    obtain⟨e1,e2⟩:=split58 (fun c hc=>(rDec_digit _ c hc).2) (fun c hc=>(rDec_digit _ c hc).2) h
    obtain⟨e3,e4⟩:=List.append_inj e2 (rDec_inj e1)
    exact⟨by rw[e3],e4⟩
   ·change b1=false at h1
    change b1=true at g1
    rw[h1]at g1;cases g1
  ·rcases hy with ⟨g1,_⟩|⟨_,g2,g3⟩
   ·change b1=true at h1
    change b1=false at g1
    rw[h1]at g1;cases g1
   ·change b1=true at h1
    change a1= []at h2
    change a2= []at g2
    subst h1 h2 g2
    have q1:encX (d+1) (.mk true [] l1)=40::(l1.flatMap (encX d)++ [41]):=rfl
    have q2:encX (d+1) (.mk true [] l2)=40::(l2.flatMap (encX d)++ [41]):=rfl
    rw[q1,q2,List.cons_append,List.cons_append,List.append_assoc,List.append_assoc]at h
    injection h with _ h
    obtain⟨e1,e2⟩:=encL_inj (fun hx hy h=>encX_inj d hx hy h) h3 g3 h
    exact⟨congrArg (Sx.mk true []) e1,e2⟩
theorem map_inj_on {α β:Type} {f:α→β}: ∀ {l m:List α},(∀ x∈l,∀ y∈m,f x=f y→x=y)→l.map f=m.map f→l=m
 | [],[],_,_=>rfl
 | [],y::m,_,h=>by simp at h
 |x::l,[],_,h=>by simp at h
 |x::l,y::m,hf,h=>by
  rw[List.map_cons,List.map_cons]at h
  injection h with h1 h2
  rw[hf x (by simp) y (by simp) h1,map_inj_on (fun a ha b hb=>hf a (List.mem_cons_of_mem _ ha) b (List.mem_cons_of_mem _ hb)) h2]
theorem sAtom_inj {a b:Str} (h:sAtom a=sAtom b):a=b:=congrArg Sx.atom h
theorem sList_inj {l m:List Sx} (h:sList l=sList m):l=m:=congrArg Sx.list h
theorem sDig_inj {a b:Dig} (h:sDig a=sDig b):a=b:=by
 unfold sDig at h
 by_cases h1:a=Dig.zero
 ·by_cases h2:b=Dig.zero
  ·rw[h1,h2]
  ·rw[if_pos h1,if_neg h2]at h
   have:=congrArg List.length (sAtom_inj h)
   rw[b.len]at this;simp at this
 ·by_cases h2:b=Dig.zero
  ·rw[if_neg h1,if_pos h2]at h
   have:=congrArg List.length (sAtom_inj h)
   rw[a.len]at this;simp at this
  ·rw[if_neg h1,if_neg h2]at h
   exact Dig.ext (sAtom_inj h)
def inR (n:Int):Prop:= -1099511627776≤n∧n≤1099511627776
theorem sNum_inj {n m:Int} (hn:inR n) (hm:inR m) (h:sNum n=sNum m):n=m:=by
 unfold inR at hn hm
 unfold sNum rInt at h
 rw[if_neg (by omega),if_neg (by omega)]at h
 exact rDecI_inj (sAtom_inj h)
theorem sRef_inj {x y:Ident} (hx:inR x.n) (hy:inR y.n) (h:sRef x=sRef y):x=y:=by
 have h:=sList_inj h
 injection h with h1 h2
 injection h2 with h2 _
 obtain⟨p,n⟩:=x
 obtain⟨q,m⟩:=y
 have e1:=sDig_inj h1
 have e2:=sNum_inj hx hy h2
 subst e1 e2;rfl
structure chgR (c:Chg):Prop where
 fields:rFields c=0
 file:inR c.file.n
 parent:inR c.parent.n
 after:inR c.after.n
 before:inR c.before.n
 over: ∀ x∈c.over,inR x.n
 mode:c.kind=3→inR c.mode
 type:c.kind=1→inR c.type
theorem sOver_inj {l m:List Ident} (hl: ∀ x∈l,inR x.n) (hm: ∀ x∈m,inR x.n) (h:sOver l=sOver m):l=m:=
 map_inj_on (fun x hx y hy e=>sRef_inj (hl x hx) (hm y hy) e) (sList_inj h)
theorem sChg_list (c:Chg):(sChg c).list=([sNum c.kind]++sChg1 c++sChg2 c)++sChg3 c:=rfl
theorem sChg_inj {c e:Chg} (hc:chgR c) (he:chgR e) (h:sChg c=sChg e):c=e:=by
 have k1:=fields_kind hc.fields
 have k2:=fields_kind he.fields
 have z1:=fields_empty hc.fields
 have z2:=fields_empty he.fields
 have h:=congrArg Sx.list h
 rw[sChg_list,sChg_list]at h
 have hk:c.kind=e.kind:=by
  have h1:=congrArg List.head? h
  simp only[List.singleton_append,List.cons_append,List.head?_cons,Option.some.injEq]at h1
  exact sNum_inj (by unfold inR;omega) (by unfold inR;omega) h1
 obtain⟨ck,cfile,ctype,cparent,cname,cmode,cdata,cafter,cbefore,clines,cover⟩:=c
 obtain⟨ek,efile,etype,eparent,ename,emode,edata,eafter,ebefore,elines,eover⟩:=e
 change ck=ek at hk
 subst hk
 obtain⟨_,c1,c2,c3,c4,c5,c6,c7⟩:=hc
 obtain⟨_,e1,e2,e3,e4,e5,e6,e7⟩:=he
 simp only at k1 c1 c2 c3 c4 c5 c6 c7 e1 e2 e3 e4 e5 e6 e7
 unfold rEmpty rRest at z1 z2
 simp only[Bool.and_eq_true,decide_eq_true_eq]at z1 z2
 obtain⟨⟨⟨⟨⟨⟨⟨⟨⟨p1,p2⟩,p3⟩,p4⟩,p5⟩,p6⟩,p7⟩,p8⟩,p9⟩,p10⟩:=z1
 obtain⟨⟨⟨⟨⟨⟨⟨⟨⟨q1,q2⟩,q3⟩,q4⟩,q5⟩,q6⟩,q7⟩,q8⟩,q9⟩,q10⟩:=z2
 have n9: ∀ {α:Type} {l:List α},(l.length:Int)=0→l= []:=fun h=>List.eq_nil_of_length_eq_zero (by omega)
 have p9:=n9 p9
 have p10:=n9 p10
 have q9:=n9 q9
 have q10:=n9 q10
 clear n9
 have hlin: ∀ {l m:List Str},sList (l.map sAtom)=sList (m.map sAtom)→l=m:=fun h=>map_inj_on (fun _ _ _ _ e=>sAtom_inj e) (sList_inj h)
 rcases kinds k1 with rfl|rfl|rfl|rfl|rfl|rfl|rfl<;>
  simp (decide:=true) only[sChg1,sChg2,sChg3,if_true,if_false,ite_true,ite_false,List.nil_append,List.append_nil,List.singleton_append,List.cons_append,List.cons.injEq,true_and,and_true,and_self,true_or,or_true,or_self,ne_eq,not_true_eq_false,not_false_eq_true]at h p1 p2 p3 p4 p5 p6 p7 p8 p9 p10 q1 q2 q3 q4 q5 q6 q7 q8 q9 q10
 ·have:=sNum_inj (c7 rfl) (e7 rfl) h
  simp only[*]
 ·obtain⟨h1,h2,h3,h4⟩:=h
  have:=sRef_inj c1 e1 h1
  have:=sRef_inj c2 e2 h2
  have:=sAtom_inj h3
  have:=sOver_inj c5 e5 h4
  simp only[*]
 ·obtain⟨h1,h2,h3⟩:=h
  have:=sRef_inj c1 e1 h1
  have:=sNum_inj (c6 rfl) (e6 rfl) h2
  have:=sOver_inj c5 e5 h3
  simp only[*]
 ·obtain⟨h1,h2,h3⟩:=h
  have:=sRef_inj c1 e1 h1
  have:=sAtom_inj h2
  have:=sOver_inj c5 e5 h3
  simp only[*]
 ·obtain⟨h1,h2,h3,h4⟩:=h
  have:=sRef_inj c1 e1 h1
  have:=sRef_inj c3 e3 h2
  have:=sRef_inj c4 e4 h3
  have:=hlin h4
  simp only[*]
 ·obtain⟨h1,h2,h3,h4⟩:=h
  have:=sRef_inj c1 e1 h1
  have:=sRef_inj c3 e3 h2
  have:=sRef_inj c4 e4 h3
  have:=sOver_inj c5 e5 h4
  simp only[*]
 ·have:=sOver_inj c5 e5 h
  simp only[*]
theorem changes_okN (N:Nat): ∀ {l:List Chg} {own:List Atm},(rChanges l own).2=0→own.length+4001*l.length≤N→ ∀ c∈l,rFields c=0∧ ∃ own:List Atm,own.length≤N∧rRefs c own=0
 | [],_,_,_,c,h=>by cases h
 |x::l,own,h,hN,c,hc=>by
  unfold rChanges at h
  by_cases h1:rFields x≠0
  ·rw[if_pos h1]at h;exact absurd h h1
  by_cases h2:rRefs x own≠0
  ·rw[if_neg h1,if_pos h2]at h;exact absurd h h2
  rw[if_neg h1,if_neg h2]at h
  have h1:rFields x=0:=by simpa using h1
  rw[List.length_cons]at hN
  rcases List.mem_cons.1 hc with rfl|hc
  ·exact⟨h1,own,by omega,by simpa using h2⟩
  ·refine changes_okN N h ?_ c hc
   have:=rMade_len x own.length
   have:=rFields_lines h1
   rw[List.length_append]
   omega
theorem rOne_inR {x:Ident} {own:List Atm} {b:Bool} (hN:own.length≤1000000000) (h:rOne x own b=0):inR x.n:=by
 unfold rOne at h
 by_cases h1:rAllowed x own.length=false
 ·rw[if_pos h1]at h;exact absurd h (by decide)
 ·have h1:rAllowed x own.length=true:=by simpa using h1
  unfold rAllowed at h1
  unfold inR
  split at h1<;>simp at h1<;>omega
theorem inR_zero:inR Ident.zero.n:=by unfold inR;exact⟨by decide,by decide⟩
theorem chgR_of {c:Chg} {own:List Atm} (hN:own.length≤1000000000) (hf:rFields c=0) (hr:rRefs c own=0):chgR c:=by
 obtain⟨z1,z2,z3⟩:=rEmpty_rest hf
 have r1:rRefF c own=0:=by
  by_cases h0:rRefF c own=0
  ·exact h0
  ·rw[rRefs,if_pos h0]at hr;exact absurd hr h0
 rw[rRefs,if_neg (by simp[r1])]at hr
 have r2:rRefP c own=0:=by
  by_cases h0:rRefP c own=0
  ·exact h0
  ·rw[if_pos h0]at hr;exact absurd hr h0
 rw[if_neg (by simp[r2])]at hr
 have r3:rRefEs c own=0:=by
  by_cases h0:rRefEs c own=0
  ·exact h0
  ·rw[if_pos h0]at hr;exact absurd hr h0
 rw[if_neg (by simp[r3])]at hr
 have r4:firstErr (rRefO c own) c.over=0:=by
  by_cases h0:firstErr (rRefO c own) c.over=0
  ·exact h0
  ·rw[if_pos h0]at hr;exact absurd hr h0
 have hE:(c.kind=5∨c.kind=6)→ ∀ x∈ [c.after,c.before],inR x.n:=fun h x hx=>by
  rw[rRefEs,if_pos (by unfold rText;simpa using h)]at r3
  exact rOne_inR hN (firstErr_eq_zero r3 x hx)
 refine⟨hf,?_,?_,?_,?_,fun x hx=>rOne_inR hN (firstErr_eq_zero r4 x hx),fun h=>?_,fun h=>?_⟩
 ·by_cases h:2≤c.kind∧c.kind≤6
  ·rw[rRefF,if_pos h]at r1;exact rOne_inR hN r1
  ·rw[z1 h];exact inR_zero
 ·by_cases h:c.kind=2
  ·by_cases h2:c.parent=rRoot
   ·rw[h2];unfold inR;exact⟨by decide,by decide⟩
   ·rw[rRefP,if_pos ⟨h,h2⟩]at r2;exact rOne_inR hN r2
  ·rw[z2 h];exact inR_zero
 ·by_cases h:c.kind=5∨c.kind=6
  ·exact hE h _ (by simp)
  ·rw[(z3 h).1];exact inR_zero
 ·by_cases h:c.kind=5∨c.kind=6
  ·exact hE h _ (by simp)
  ·rw[(z3 h).2];exact inR_zero
 ·unfold inR
  unfold rFields at hf
  have: ¬(c.mode < 0∨511 < c.mode):=fun hm=>by
   rw[if_neg (by omega)]at hf
   split at hf
   ·omega
   ·rw[if_neg (by omega),if_neg (by omega),if_pos ⟨h,hm⟩]at hf;omega
  omega
 ·unfold inR
  unfold rFields at hf
  have: ¬(c.type < 1∨4 < c.type):=fun hm=>by
   rw[if_neg (by omega)]at hf
   split at hf
   ·omega
   ·rw[if_pos ⟨h,hm⟩]at hf;omega
  omega
theorem check_chgR {p:Pat} (h:(rCheckP p).2=0):(∀ c∈p.changes,chgR c)∧inR p.time:=by
 have e:rHead p=0:=by
  by_cases h0:rHead p=0
  ·exact h0
  ·rw[checkP_head,if_pos h0]at h;exact absurd h h0
 rw[rCheckP_ok e]at h
 have ht: ¬(p.time < 0∨1099511627776 < p.time)∧ ¬400 < (p.changes.length:Int):=by
  unfold rHead at e
  split at e
  ·omega
  split at e
  ·omega
  split at e
  ·omega
  rename_i ht
  split at e
  ·rename_i hd;exact absurd e hd
  split at e
  ·omega
  split at e
  ·omega
  rename_i hc
  exact⟨ht,hc⟩
 refine⟨fun c hc=>?_,by unfold inR;omega⟩
 obtain⟨hf,own,hN,hr⟩:=changes_okN 1600400 h (by simp;omega) c hc
 exact chgR_of (by omega) hf hr
theorem rEnc_inj {p q:Pat} (hp:encOk p) (hq:encOk q) (cp:(rCheckP p).2=0) (cq:(rCheckP q).2=0) (h:rEnc p=rEnc q):p=q:=by
 obtain⟨c1,t1⟩:=check_chgR cp
 obtain⟨c2,t2⟩:=check_chgR cq
 have h1:=(encX_inj 8 (r:= []) (s:= []) hp.ok.1 hq.ok.1 (by rw[List.append_nil,List.append_nil];exact h)).1
 have h1:=sList_inj h1
 simp only[List.cons.injEq,and_true,true_and]at h1
 obtain⟨e1,e2,e3,e4,e5⟩:=h1
 replace e1:=sAtom_inj e1
 replace e2:=sAtom_inj e2
 replace e3:=sNum_inj t1 t2 e3
 replace e4:=map_inj_on (fun _ _ _ _ e=>sDig_inj e) (sList_inj e4)
 replace e5:=map_inj_on (fun x hx y hy e=>sChg_inj (c1 x hx) (c2 y hy) e) (sList_inj e5)
 obtain⟨a1,a2,a3,a4,a5⟩:=p
 obtain⟨b1,b2,b3,b4,b5⟩:=q
 simp only at e1 e2 e3 e4 e5
 subst e1 e2 e3 e4 e5;rfl
end Go.Proofs
namespace Go.Proofs
open Go Go.Q
attribute [local irreducible] pwp pops PCalls OpN
section
variable {P:Program} {N:Nat} {all:Array Oper} {K:Env→List Res→Prop} {fl:List Bool} {os:List Oper} {ρ:Env} {L:List Res} {d:Nat} {ty:TypeId} {pos:String} {af:Array Edge}
theorem s_nilCheckF {x:Operand} {cs:List PV} {off:Nat} (hx:ρ.ev x= .pt cs off) (k:pops P N all K fl.tail os (upd ρ d (.pt cs off)) L) (hd:Nat.blt d N=true:=by rfl):pops P N all K fl (⟨some d,.nilCheck x,ty,pos,af,none⟩::os) ρ L:=
 step_q hd (qop_of_run fun a w g ha hi=>by
  have h1:=ha x (by simp[Op.operands])
  rw[hx]at h1
  generalize hv:a.eval x=v at h1
  cases h1 with
  |pt ff hH hv'=>
   rename_i b o
   exact⟨.pointer (some ⟨b,o+off,none⟩),by simp[execOp,hv],.pt ff hH hv'⟩) k
end
instance fld_rsv0 (s:List Sto) (m:Nat):Fld (eRsv s m) 0 [.slice (s.map eSto) .ro]:=⟨by simp[eRsv]⟩
instance fld_rsv1 (s:List Sto) (m:Nat):Fld (eRsv s m) 1 [.raw (.map (some m))]:=⟨by simp[eRsv]⟩
def KnownOk (s:List Sto) (known:List (Dig × List Atm)):Prop:= ∀ d l,mGet d known=some l→l=atomsPS s d
theorem KnownOk.set {s:List Sto} {known:List (Dig × List Atm)} (h:KnownOk s known) (d:Dig):KnownOk s (mSet d (atomsPS s d) known):=fun x l e=>by
 rw[mGet_mSet]at e
 split at e
 ·rename_i hx;subst hx;injection e with e;exact e.symm
 ·exact h x l e
set_option maxHeartbeats 1000000 in
theorem atomR_fn (s:List Sto) (hg:goodS s) (m:Nat) (known:List (Dig × List Atm)) (hk:KnownOk s known) (x:Ident):PCalls Tryz.prog 100 [.pt (eRsv s m) 0,.agg (eIdent x)] (knownR m known) (fun r L'=>r= .tuple [.agg (eAtm ((atomPS s x).getD Atm.zero)),.raw (.bool (atomPS s x).isSome)]∧ ∃ known',L'=knownR m known'∧KnownOk s known'):=by
 have i1:Small (rBig ((getS s x.patch).getD Pat.zero)=false):=⟨hg.great _⟩
 refine pcalls_bd Tryz.func100 rfl Tryz.ntmps100 (rs:= [.cell 4 125,.tmp 5]) rfl rfl fun hb LF=>?_
 rw[show knownR m known++LF= .map m (eMap kDig (vSl eAtm) known)::LF from rfl]
 refine wf ?_
 refine s_alloc fun b4=>?_
 refine wf ?_
 refine s_nilCheckF rfl ?_
 refine wf ?_
 refine pwp_perm (.swap _ _ _) ?_
 refine pwp_joinG (σ:=List (Dig × List Atm)) (fun k=>KnownOk s k) (fun k=> [(3,.pt (eIdent x) 0),(4,.raw (.pointer (some ⟨b4,0,none⟩))),(6,.slice ((atomsPS s x.patch).map eAtm) .ro)]) (fun k=> .map m (eMap kDig (vSl eAtm) k):: .box b4 125 (eAtm Atm.zero)::LF) ?_ ?_
 ·refine pwp_condB (fun h=>?_) (fun h=>?_)
  ·refine wn ?_
   refine pwp_drawA [10,11] (by decide+kernel) ?_
   refine pAny_quiet 0 rfl (by decide+kernel) rfl (fun L'=>q_of_pops (N:=60) rfl rfl (by refine wo ?_;refine pops_nil ?_;exact⟨upd_self _ _ _,rfl⟩)) ?_
   refine pAny_quiet 1 rfl (by decide+kernel) rfl (fun L'=>q_of_pops (N:=60) rfl rfl (by refine s_nilCheckF rfl ?_;refine pops_nil ?_;exact⟨upd_self _ _ _,rfl⟩)) ?_
   refine pAny_quiet 2 rfl (by decide+kernel) rfl (fun L'=>q_of_pops (N:=60) rfl rfl (by refine wo ?_;refine pops_nil ?_;exact⟨upd_self _ _ _,rfl⟩)) ?_
   refine pAny_quiet 3 rfl (by decide+kernel) rfl (fun L'=>q_of_pops (N:=60) rfl rfl (by refine wo ?_;refine pops_nil ?_;exact⟨upd_self _ _ _,rfl⟩)) ?_
   refine pAny_quiet 4 rfl (by decide+kernel) rfl (fun L'=>q_of_pops (N:=60) rfl rfl (by refine wo ?_;refine pops_nil ?_;exact⟨upd_self _ _ _,rfl⟩)) ?_
   refine pAny_quiet 5 rfl (by decide+kernel) rfl (fun L'=>q_of_pops (N:=60) rfl rfl (by refine wo ?_;refine pops_nil ?_;exact⟨upd_self _ _ _,rfl⟩)) ?_
   refine pAny_quiet 6 rfl (by decide+kernel) rfl (fun L'=>q_of_pops (N:=60) rfl rfl (by refine wo ?_;refine pops_nil ?_;exact⟨upd_self _ _ _,rfl⟩)) ?_
   refine pAny_quiet 7 rfl (by decide+kernel) rfl (fun L'=>q_of_pops (N:=60) rfl rfl (by refine wo ?_;refine pops_nil ?_;exact⟨upd_self _ _ _,rfl⟩)) ?_
   refine pAny_quiet 8 rfl (by decide+kernel) rfl (fun L'=>q_of_pops (N:=60) rfl rfl (by refine wo ?_;refine pops_nil ?_;exact⟨upd_self _ _ _,rfl⟩)) ?_
   refine pAny_quiet 9 rfl (by decide+kernel) rfl (fun L'=>q_of_pops (N:=60) rfl rfl (by refine wo ?_;refine pops_nil ?_;exact⟨upd_self _ _ _,rfl⟩)) ?_
   refine pAny_next (fuel:=2) [10] (by decide+kernel) (by simp) fun i hi=>?_
   simp only[List.mem_cons,List.not_mem_nil,or_false]at hi
   subst hi
   refine⟨_,rfl,?_⟩
   refine s_alloc fun b8=>?_
   refine pops_nil ?_
   refine pAny_next (fuel:=1) [11] (by decide+kernel) (by simp) fun i hi=>?_
   simp only[List.mem_cons,List.not_mem_nil,or_false]at hi
   subst hi
   refine⟨_,rfl,?_⟩
   refine wo ?_
   refine pops_nil ?_
   refine pAny_next (fuel:=0) [12] (by decide+kernel) (by simp) fun i hi=>?_
   simp only[List.mem_cons,List.not_mem_nil,or_false]at hi
   subst hi
   refine⟨_,rfl,?_⟩
   refine wo ?_
   refine pops_nil ?_
   refine pAny_end (by decide+kernel) ?_
   refine pwp_freezeD 8 ?_
   refine wn ?_
   refine pwp_drawN 7 ?_ ?_
   ·decide+kernel
   refine wf ?_
   refine s_nilCheckF rfl ?_
   refine wf ?_
   exact⟨mSet x.patch (atomsPS s x.patch) known,hk.set _,⟨rfl,rfl,rfl⟩,.refl _⟩
  ·have h1:(mGet x.patch known).isSome=true:=by simpa using h
   obtain⟨l,hl⟩:=Option.isSome_iff_exists.1 h1
   have e:=hk _ _ hl
   subst e
   refine wf ?_
   refine⟨known,hk,⟨rfl,rfl,by rw[hl];rfl⟩,.refl _⟩
 intro k hkn
 refine pwp_perm (.swap _ _ _) ?_
 refine wf ?_
 refine pops_cutE [(53,.raw (.bool (decide (x.n < 0∨((atomsPS s x.patch).length:Int)≤x.n)))),(3,.pt (eIdent x) 0),(4,.raw (.pointer (some ⟨b4,0,none⟩))),(6,.slice ((atomsPS s x.patch).map eAtm) .ro)] (.box b4 125 (eAtm Atm.zero):: .map m (eMap kDig (vSl eAtm) k)::LF) ?_ ?_
 ·repeat' (first|(refine pwp_condD (fun h=>?_) (fun h=>?_)<;>refine wf ?_)|(refine pwp_condN (fun h=>?_) (fun h=>?_)<;>refine wf ?_)|(refine pwp_condB (fun h=>?_) (fun h=>?_)<;>refine wf ?_)|(refine pops_if (fun h=>?_) (fun h=>?_)<;>(have h2:=h;(try simp only[decide_eq_true_eq,decide_eq_false_iff_not,Bool.not_eq_true',Bool.not_eq_false']at h2);refine wf ?_)))
  all_goals (refine⟨⟨holdsB (by rfl) ?_,rfl,rfl,rfl⟩,.refl _⟩;first|(simp_all;done)|grind)
 refine wf ?_
 refine pwp_condD (fun h=>?_) (fun h=>?_)
 ·refine wf ?_
  refine⟨trivial,_,knownR m k,.cons (.cell 4 125 rfl List.mem_cons_self (inferInstance:TAgg Tryz.prog 125 172).out (by simp)) (.cons (.tmp 5) .nil),.cons _ (.refl _),?_,k,rfl,hkn⟩
  rw[atomPS,if_pos h];rfl
 ·have hlt:x.n.toNat < (atomsPS s x.patch).length:=by omega
  refine wf ?_
  refine⟨trivial,_,knownR m k,.cons (.cell 4 125 rfl List.mem_cons_self (inferInstance:TAgg Tryz.prog 125 172).out (by simp)) (.cons (.tmp 5) .nil),.cons _ (.refl _),?_,k,rfl,hkn⟩
  rw[atomPS,if_neg h,List.getElem?_eq_getElem hlt];rfl
end Go.Proofs
namespace Go.Proofs
open Go Go.Q
attribute [local irreducible] pwp pops PCalls OpN
theorem refsS_len (id:Dig) (c:Chg):(refsS id c).length≤c.over.length+4:=by
 have r1:=rs1_len c
 have r2:=rs2_len c (rs1 c)
 have r3:=rs3_len (fileS id c) c (rs2 c (rs1 c))
 have r4:=foldR_len' (over1R (fileS id c) c) c.over (rs3 (fileS id c) c (rs2 c (rs1 c)))
 unfold refsS rs4
 omega
set_option maxHeartbeats 2000000 in
theorem unfitR_fn (s:List Sto) (hg:goodS s) (m:Nat) (known:List (Dig × List Atm)) (hk0:KnownOk s known) (x:Sto) (hx:rBig x.patch=false):PCalls Tryz.prog 59 [.pt (eRsv s m) 0,.agg (eSto x)] (knownR m known) (fun r L'=>r= .raw (.int .i64 (unfitP s x.patch x.id))∧ ∃ known',L'=knownR m known'∧KnownOk s known'):=by
 have hgf:=(big_facts hx).2.2.2.2
 have hcl:=(big_facts hx).2.2.2.1
 refine pcalls_bd Tryz.func59 rfl Tryz.ntmps59 (rs:= [.tmp 4]) rfl rfl fun hb LF=>?_
 rw[show knownR m known++LF= .map m (eMap kDig (vSl eAtm) known)::LF from rfl]
 refine wf ?_
 refine pwp_loopS (σ:=Nat × List (Dig × List Atm)) (fun k=>k.1≤x.patch.changes.length∧KnownOk s k.2∧ ∀ i (h:i < x.patch.changes.length),i < k.1→chgSE s x.id x.patch.changes[i]=0) (fun k=>x.patch.changes.length - k.1) (fun k=> [(0,.pt (eRsv s m) 0),(3,.pt (eSto x) 0),(13,.slice (x.patch.changes.map eChg) .ro),(14,.raw (.int .i64 x.patch.changes.length)),(15,.raw (.int .i64 k.1))]) (fun k=> .map m (eMap kDig (vSl eAtm) k.2)::LF) (0,known) ⟨by simp,hk0,by simp⟩ ⟨rfl,rfl,rfl,rfl,rfl⟩ (.refl _) ?_
 rintro⟨k,kn⟩ ⟨hk,hkn,he⟩
 dsimp only at hk hkn he ⊢
 refine wf ?_
 refine pwp_condD (fun hc=>?_) (fun hc=>?_)
 ·have hlt:k < x.patch.changes.length:=by omega
  have hat:=firstErr_at (f:=chgSE s x.id) hlt he
  have hsu:=fun h=>upto_succ0 (f:=chgSE s x.id) he hlt h
  have hcg:=hgf _ (List.getElem_mem hlt)
  refine wz fun b6=>?_
  generalize x.patch.changes[k]=c at hat hsu hcg ⊢
  have i1:Small (c.over.length≤400):=⟨by have:=hcg.over;omega⟩
  have hrl:(refsS x.id c).length≤400:=by have:=refsS_len x.id c;have:=hcg.over;omega
  refine pwp_freezeD 6 ?_
  refine wf ?_
  refine pwp_loopS (σ:=Nat × List (Dig × List Atm)) (fun j=>j.1≤(refsS x.id c).length∧KnownOk s j.2∧ ∀ i (h:i < (refsS x.id c).length),i < j.1→refSE s c (fileS x.id c) (refsS x.id c)[i]=0) (fun j=>(refsS x.id c).length - j.1) (fun j=> [(0,.pt (eRsv s m) 0),(3,.pt (eSto x) 0),(13,.slice (x.patch.changes.map eChg) .ro),(14,.raw (.int .i64 x.patch.changes.length)),(15,.raw (.int .i64 k)),(22,.slice ((refsS x.id c).map eRfc) .ro),(23,.raw (.int .i64 (refsS x.id c).length)),(24,.raw (.int .i64 j.1))]) (fun j=> .map m (eMap kDig (vSl eAtm) j.2)::LF) (0,kn) ⟨by simp,hkn,by simp⟩ ⟨rfl,rfl,rfl,rfl,rfl,rfl,rfl,rfl⟩ (.refl _) ?_
  rintro⟨j,kn2⟩ ⟨hj,hkn2,hje⟩
  dsimp only at hj hkn2 hje ⊢
  refine wf ?_
  refine pwp_condD (fun hc2=>?_) (fun hc2=>?_)
  ·have hlt2:j < (refsS x.id c).length:=by omega
   have hat2:=firstErr_at (f:=refSE s c (fileS x.id c)) hlt2 hje
   have hsu2:=fun h=>upto_succ0 (f:=refSE s c (fileS x.id c)) hje hlt2 h
   have hfit:=fitsS_mem x.id c _ (List.getElem_mem hlt2)
   refine wz fun b8=>?_
   generalize (refsS x.id c)[j]=r at hat2 hsu2 hfit ⊢
   refine pwp_freezeD 8 ?_
   have i2:TFun Tryz.prog r.f:=hfit.fn
   have i3: ∀ a:Atm,FnC Tryz.prog r.f (.agg (eAtm a)::r.cs) (.raw (.bool (predS c (fileS x.id c) r a))):=fun a=>⟨hfit.out a⟩
   have er:refSE s c (fileS x.id c) r=if(atomPS s r.id).isSome=false then 7 else if predS c (fileS x.id c) r ((atomPS s r.id).getD Atm.zero)=false then 8 else 0:=rfl
   refine wf ?_
   refine s_callR (xs:= [.tmp 29,.tmp 31]) (knownR m kn2) LF (f:=100) (cs:= []) (le_func _) rfl rfl (.refl _) _ (atomR_fn s hg m kn2 hkn2 r.id) fun u L' ⟨e1,kn3,e2,hkn3⟩=>?_
   subst e1;rw[e2]
   rw[show knownR m kn3++LF= .map m (eMap kDig (vSl eAtm) kn3)::LF from rfl]
   refine wf ?_
   refine s_alloc fun b9=>?_
   refine wo ?_
   refine pops_nil ?_
   refine pwp_freezeD 9 ?_
   refine wf ?_
   refine pwp_condB (fun h=>?_) (fun h=>?_)
   ·refine wf ?_
    have h:(atomPS s r.id).isSome=false:=ntrue h
    rw[if_pos h]at er
    refine⟨trivial,_,knownR m kn3,.cons (.tmp 4) .nil,.refl _,?_,kn3,rfl,hkn3⟩
    have e3:=hat2 (by rw[er];decide)
    have e4:chgSE s x.id c=7:=by rw[chgSE,e3,er]
    rw[unfitP,hat (by rw[e4];decide),e4];rfl
   have h:(atomPS s r.id).isSome=true:=nnot h
   rw[if_neg (by simp[h])]at er
   refine wf ?_
   refine pwp_condB (fun h2=>?_) (fun h2=>?_)
   ·refine wf ?_
    have h2:predS c (fileS x.id c) r ((atomPS s r.id).getD Atm.zero)=false:=ntrue h2
    rw[if_pos h2]at er
    refine⟨trivial,_,knownR m kn3,.cons (.tmp 4) .nil,.refl _,?_,kn3,rfl,hkn3⟩
    have e3:=hat2 (by rw[er];decide)
    have e4:chgSE s x.id c=8:=by rw[chgSE,e3,er]
    rw[unfitP,hat (by rw[e4];decide),e4];rfl
   ·have h2:predS c (fileS x.id c) r ((atomPS s r.id).getD Atm.zero)=true:=nnot h2
    rw[if_neg (by simp[h2])]at er
    refine wf ?_
    exact⟨(j+1,kn3),⟨by dsimp only;omega,hkn3,hsu2 er⟩,by dsimp only;omega,⟨rfl,rfl,rfl,rfl,rfl,rfl,rfl,rfl⟩,.refl _⟩
  ·have e0:chgSE s x.id c=0:=firstErr_zero fun i h=>hje i h (by omega)
   refine wf ?_
   exact⟨(k+1,kn2),⟨by dsimp only;omega,hkn2,hsu e0⟩,by dsimp only;omega,⟨rfl,rfl,rfl,rfl,rfl⟩,.refl _⟩
 ·refine wf ?_
  refine⟨trivial,_,knownR m kn,.cons (.tmp 4) .nil,.refl _,?_,kn,rfl,hkn⟩
  rw[unfitP,firstErr_zero fun i h=>he i h (by omega)];rfl
theorem asc_of_chk {s:List Sto} (h:firstErr (rChkE s) (List.range s.length)=0):Asc (ids s):=by
 refine asc_of_steps fun i hi=>?_
 have hi:i+1 < s.length:=by simpa [ids]using hi
 have h4:=firstErr_eq_zero h (i+1) (List.mem_range.2 hi)
 have e0:s.getD (i+1) Sto.zero=s[i+1]:=by simp[List.getD,hi]
 have e1:s.getD (i+1 - 1) Sto.zero=s[i]:=by
  have:i < s.length:=by omega
  simp[List.getD,this]
 unfold rChkE at h4
 rw[e0,e1]at h4
 by_cases h5:(rId s[i+1].patch).2≠0
 ·rw[if_pos h5]at h4;exact absurd h4 h5
 rw[if_neg h5]at h4
 by_cases h6:(rId s[i+1].patch).1≠s[i+1].id
 ·rw[if_pos h6]at h4;exact absurd h4 (by decide)
 rw[if_neg h6]at h4
 have h6:(rId s[i+1].patch).1=s[i+1].id:=Classical.not_not.1 h6
 rw[h6]at h4
 by_cases h7:0 < ((i+1:Nat):Int)∧0≤cmpD s[i].id s[i+1].id
 ·rw[if_pos h7]at h4;exact absurd h4 (by decide)
 ·simp only[ids,List.getElem_map]
  show cmpD s[i].id s[i+1].id < 0
  omega
theorem id_of_chk {s:List Sto} (h:firstErr (rChkE s) (List.range s.length)=0) {x:Sto} (hx:x∈s):(rId x.patch).2=0:=by
 obtain⟨i,hi,rfl⟩:=List.mem_iff_getElem.1 hx
 have h4:=firstErr_eq_zero h i (List.mem_range.2 hi)
 have e0:s.getD i Sto.zero=s[i]:=by simp[List.getD,hi]
 unfold rChkE at h4
 rw[e0]at h4
 by_cases h5:(rId s[i].patch).2≠0
 ·rw[if_pos h5]at h4;exact absurd h4 h5
 ·exact Classical.not_not.1 h5
theorem rOrd_len (s:List Sto): ∀ n out,(rOrd s n out).length≤out.length+n
 |0,out=>by rw[rOrd];omega
 |n+1,out=>by
  rw[rOrd]
  split
  ·omega
  ·have:=rOrd_len s n (out++ [(s.getD (rPick s out).toNat Sto.zero).id])
   rw[List.length_append,List.length_singleton]at this
   omega
theorem rOrder_len (s:List Sto):(rOrder s).length≤s.length:=by
 have:=rOrd_len s s.length []
 rw[List.length_nil,Nat.zero_add]at this
 exact this
set_option maxHeartbeats 2000000 in
instance CheckPS_ct (s:List Sto) (t:Tag) [hs:Small (goodS s)]:FnC Tryz.prog 26 [.slice (s.map eSto) t] (.raw (.int .i64 (rCheckS s))):=⟨by
 have hg:=hs.out
 obtain⟨hl8,hgr⟩:=hg
 refine fn_of Tryz.func26 Tryz.ntmps26 rfl (rs:= [.tmp 2]) rfl rfl fun hb LF=>?_
 refine wf ?_
 refine pwp_condD (fun h1=>?_) (fun h1=>?_)
 ·omega
 rw[rCheckS,if_neg h1]
 refine wf ?_
 refine pwp_loopS (σ:=Nat) (fun k=>k≤s.length∧ ∀ i (h:i < (List.range s.length).length),i < k→rChkE s (List.range s.length)[i]=0) (fun k=>s.length - k) (fun k=> [(0,.slice (s.map eSto) t),(16,.slice (s.map eSto) t),(17,.raw (.int .i64 s.length)),(18,.raw (.int .i64 k))]) (fun _=>LF) 0 ⟨by simp,by simp⟩ ⟨rfl,rfl,rfl,rfl⟩ (.refl _) ?_
 rintro k ⟨hk,he⟩
 refine wf ?_
 refine pwp_condD (fun hc=>?_) (fun hc=>?_)
 ·have hlt:k < s.length:=by omega
  have hltr:k < (List.range s.length).length:=by simpa using hlt
  have ek:(List.range s.length)[k]=k:=by simp
  have e0:s.getD k Sto.zero=s[k]:=by simp[List.getD,hlt]
  have i1:Small (rBig s[k].patch=false):=⟨hgr _ (List.getElem_mem hlt)⟩
  refine wf ?_
  refine s_alloc fun b4=>?_
  refine wo ?_
  refine pops_nil ?_
  refine pwp_freezeD 4 ?_
  refine wf ?_
  refine s_alloc fun b5=>?_
  refine wo ?_
  refine pops_nil ?_
  refine pwp_freezeD 5 ?_
  refine wf ?_
  refine pwp_condN (fun h2=>?_) (fun h2=>?_)
  ·refine wf ?_
   refine end1 (.of_eq ?_)
   have e:rChkE s (List.range s.length)[k]=(rId s[k].patch).2:=by rw[ek,rChkE,e0,if_pos h2]
   have f:=firstErr_at hltr he (by rw[e];exact h2)
   rw[if_pos (by rw[f,e];exact h2),f,e]
  refine wf ?_
  refine pwp_condN (fun h3=>?_) (fun h3=>?_)
  ·refine wf ?_
   refine end1 (.of_eq ?_)
   have e:rChkE s (List.range s.length)[k]=13:=by rw[ek,rChkE,e0,if_neg (by simp[h2]),if_pos h3]
   have f:=firstErr_at hltr he (by rw[e];decide)
   rw[if_pos (by rw[f,e];decide),f,e]
  refine wf ?_
  refine pops_if (fun hp=>?_) (fun hp=>?_)
  ·have hp':0 < (k:Int):=of_decide_eq_true hp
   refine wf ?_
   have e1:s.getD (k - 1) Sto.zero=s[((k:Int) - 1).toNat]:=by
    have:((k:Int) - 1).toNat=k - 1:=by omega
    simp only[this]
    have h':k - 1 < s.length:=by omega
    simp[List.getD,h']
   refine pwp_condD (fun h4=>?_) (fun h4=>?_)
   ·refine wf ?_
    refine end1 (.of_eq ?_)
    have e:rChkE s (List.range s.length)[k]=9:=by rw[ek,rChkE,e0,e1,if_neg (by simp[h2]),if_neg (by simp[h3]),if_pos ⟨hp',h4⟩]
    have f:=firstErr_at hltr he (by rw[e];decide)
    rw[if_pos (by rw[f,e];decide),f,e]
   ·refine wf ?_
    have e:rChkE s (List.range s.length)[k]=0:=by rw[ek,rChkE,e0,e1,if_neg (by simp[h2]),if_neg (by simp[h3]),if_neg (fun h=>h4 h.2)]
    exact⟨k+1,⟨by omega,upto_succ0 he hltr e⟩,by dsimp only;omega,⟨rfl,rfl,rfl,rfl⟩,.refl _⟩
  ·have hp': ¬0 < (k:Int):=of_decide_eq_false hp
   refine wf ?_
   have e:rChkE s (List.range s.length)[k]=0:=by rw[ek,rChkE,e0,if_neg (by simp[h2]),if_neg (by simp[h3]),if_neg (fun h=>hp' h.1)]
   exact⟨k+1,⟨by omega,upto_succ0 he hltr e⟩,by dsimp only;omega,⟨rfl,rfl,rfl,rfl⟩,.refl _⟩
 have hA:firstErr (rChkE s) (List.range s.length)=0:=firstErr_zero fun i h=>he i h (by simp at h;omega)
 have hasc:=asc_of_chk hA
 have hid:=fun x (hx:x∈s)=>id_of_chk hA hx
 rw[if_neg (by simp[hA])]
 clear he hA hk hc
 refine wf ?_
 refine pwp_loopS (σ:=Nat) (fun k=>k≤s.length∧ ∀ i (h:i < s.length),i < k→allIn (ids s) (rNeeds s[i].patch)=true) (fun k=>s.length - k) (fun k=> [(0,.slice (s.map eSto) t),(53,.slice (s.map eSto) t),(54,.raw (.int .i64 s.length)),(55,.raw (.int .i64 k))]) (fun _=>LF) 0 ⟨by simp,by simp⟩ ⟨rfl,rfl,rfl,rfl⟩ (.refl _) ?_
 rintro k ⟨hk,he⟩
 refine wf ?_
 refine pwp_condD (fun hc=>?_) (fun hc=>?_)
 ·have hlt:k < s.length:=by omega
  have i1:=fun t=>lacks_fn s t s[k].patch hasc (by omega) (hgr _ (List.getElem_mem hlt))
  refine wf ?_
  refine s_alloc fun b8=>?_
  refine wo ?_
  refine pops_nil ?_
  refine pwp_freezeD 8 ?_
  refine wf ?_
  refine pwp_condB (fun h=>?_) (fun h=>?_)
  ·refine wf ?_
   refine end1 (.of_eq ?_)
   have hx:allIn (ids s) (rNeeds s[k].patch)=false:=ntrue h
   have hy:s.all (fun x=>allIn (ids s) (rNeeds x.patch))=false:=all_false_of hlt hx
   rw[if_pos hy]
  ·refine wf ?_
   have hx:allIn (ids s) (rNeeds s[k].patch)=true:=nnot h
   have hy: ∀ i (h:i < s.length),i < k+1→allIn (ids s) (rNeeds s[i].patch)=true:=fun i hi hik=>by
    rcases Nat.lt_or_ge i k with h'|h'
    ·exact he i hi h'
    ·have e:i=k:=by omega
     subst e;exact hx
   exact⟨k+1,⟨by omega,hy⟩,by dsimp only;omega,⟨rfl,rfl,rfl,rfl⟩,.refl _⟩
 have hB:s.all (fun x=>allIn (ids s) (rNeeds x.patch))=true:=all_true_of fun i h=>he i h (by omega)
 rw[if_neg (by simp[hB])]
 clear he hB hk hc
 have i3:=fun t=>orderP_fn s t hs.out hasc
 have hol:=rOrder_len s
 refine wf ?_
 refine pwp_condN (fun h=>?_) (fun h=>?_)
 ·refine wf ?_
  refine end1 (.of_eq ?_)
  rw[if_pos (by omega)]
 rw[if_neg (by omega)]
 refine wf ?_
 refine s_callR (xs:= [.tmp 70]) [] LF (f:=58) (cs:= []) (le_func _) rfl rfl (.refl _) _ (newResolver_fn s t) fun r L' ⟨m,e1,e2⟩=>?_
 subst e1;rw[e2]
 rw[show knownR m []++LF= .map m (eMap kDig (vSl eAtm) [])::LF from rfl]
 refine wf ?_
 refine wf ?_
 refine pwp_loopS (σ:=Nat × List (Dig × List Atm)) (fun k=>k.1≤s.length∧KnownOk s k.2∧ ∀ i (h:i < s.length),i < k.1→rRefsS s s[i].patch s[i].id=0) (fun k=>s.length - k.1) (fun k=> [(9,.pt (eRsv s m) 0),(72,.slice (s.map eSto) t),(73,.raw (.int .i64 s.length)),(74,.raw (.int .i64 k.1))]) (fun k=> .map m (eMap kDig (vSl eAtm) k.2)::LF) (0,[]) ⟨by simp,fun d l h=>by simp[mGet]at h,by simp⟩ ⟨rfl,rfl,rfl,rfl⟩ (.refl _) ?_
 rintro⟨k,kn⟩ ⟨hk,hkn,he⟩
 dsimp only at hk hkn he ⊢
 refine wf ?_
 refine pwp_condD (fun hc=>?_) (fun hc=>?_)
 ·have hlt:k < s.length:=by omega
  have hq:=unfit_eq s s[k].id (hid _ (List.getElem_mem hlt))
  refine wf ?_
  refine s_alloc fun b11=>?_
  refine wo ?_
  refine pops_nil ?_
  refine pwp_freezeD 11 ?_
  refine wf ?_
  refine s_callR (xs:= [.tmp 78,.tmp 79]) (knownR m kn) LF (f:=59) (cs:= []) (le_func _) rfl rfl (.refl _) _ (unfitR_fn s hs.out m kn hkn s[k] (hgr _ (List.getElem_mem hlt))) fun u L' ⟨e1,kn3,e2,hkn3⟩=>?_
  subst e1;rw[e2]
  rw[show knownR m kn3++LF= .map m (eMap kDig (vSl eAtm) kn3)::LF from rfl,hq]
  refine wf ?_
  refine wf ?_
  refine pwp_condN (fun h2=>?_) (fun h2=>?_)
  ·refine wf ?_
   refine end1 (.of_eq ?_)
   rw[firstErr_at (f:=fun(x:Sto)=>rRefsS s x.patch x.id) hlt he h2]
  ·refine wf ?_
   exact⟨(k+1,kn3),⟨by dsimp only;omega,hkn3,upto_succ0 (f:=fun(x:Sto)=>rRefsS s x.patch x.id) he hlt h2⟩,by dsimp only;omega,⟨rfl,rfl,rfl,rfl⟩,.refl _⟩
 ·refine wf ?_
  refine end1 (.of_eq ?_)
  rw[firstErr_zero (f:=fun(x:Sto)=>rRefsS s x.patch x.id) fun i h=>he i h (by omega)]⟩
end Go.Proofs
namespace Go.Proofs
open Go Go.Q
attribute [local irreducible] pwp pops pAny PCalls OpN
theorem rId_ok {p:Pat} (h:(rId p).2=0):(rCheckP p).2=0∧(rEncodeP p).1=rEnc p:=by
 have h1: ¬(rEncodeP p).2≠0:=fun h'=>by rw[rId,if_pos h']at h;exact h' h
 unfold rEncodeP at h1 ⊢
 by_cases h2:(rCheckP p).2≠0
 ·rw[if_pos h2]at h1;exact absurd h2 h1
 rw[if_neg h2]at h1 ⊢
 refine⟨Classical.not_not.1 h2,?_⟩
 unfold rEncode at h1 ⊢
 by_cases h3:65536 < ((rEnc p).length:Int)
 ·rw[if_pos h3]at h1;exact absurd (by decide) h1
 ·rw[if_neg h3]
theorem encode_eq {p q:Pat} (gp:rBig p=false) (gq:rBig q=false) (hp:(rId p).2=0) (hq:(rId q).2=0):decide ((rEncodeP q).1=(rEncodeP p).1)=decide (p=q):=by
 obtain⟨c1,e1⟩:=rId_ok hp
 obtain⟨c2,e2⟩:=rId_ok hq
 rw[e1,e2,decide_eq_decide]
 exact⟨fun h=>rEnc_inj (encOk_of gp) (encOk_of gq) c1 c2 h.symm,fun h=>by rw[h]⟩
instance equalP_ct (a b:Pat) [ha:Small (rBig a=false)] [hb:Small (rBig b=false)]:FnC Tryz.prog 70 [.agg (ePat a),.agg (ePat b)] (.raw (.bool (decide ((rEncodeP a).1=(rEncodeP b).1)))):=⟨by
 refine fn_of Tryz.func70 Tryz.ntmps70 rfl (rs:= [.tmp 4]) rfl rfl fun hb LF=>?_
 refine wf ?_
 exact end1 (.refl _)⟩
theorem putS_pos (s:List Sto) (x:Sto):putS s x=s.take (posD s x.id)++x::s.drop (posD s x.id):=by
 have e:(fun(y:Sto)=>!decide (cmpD y.id x.id < 0))=fun y=>decide (0≤cmpD y.id x.id):=by
  funext y
  by_cases h:cmpD y.id x.id < 0
  ·rw[decide_eq_true h,decide_eq_false (by omega)];rfl
  ·rw[decide_eq_false h,decide_eq_true (by omega)];rfl
 unfold putS posD
 rw[List.takeWhile_eq_take_findIdx_not,List.dropWhile_eq_drop_findIdx_not,e]
theorem posD_le (s:List Sto) (d:Dig):posD s d≤s.length:=List.findIdx_le_length
theorem posD_in {s:List Sto} (ha:Asc (ids s)) {d:Dig} (h:d∈ids s): ∃ hlt:posD s d < s.length,s[posD s d].id=d∧getS s d=some s[posD s d].patch:=by
 obtain⟨x,hx,rfl⟩:=List.mem_map.1 h
 obtain⟨i,hi,rfl⟩:=List.mem_iff_getElem.1 hx
 have e:posD s s[i].id=i:=posD_of (Nat.le_of_lt hi) (fun k hk hki=>by
  have:=List.pairwise_iff_getElem.1 ha k i (by simpa [ids]using hk) (by simpa [ids]using hi) hki
  simp only[ids,List.getElem_map]at this
  exact this) (fun k hk hik=>by
  rcases Nat.lt_or_ge i k with h'|h'
  ·have:=List.pairwise_iff_getElem.1 ha i k (by simpa [ids]using hi) (by simpa [ids]using hk) h'
   simp only[ids,List.getElem_map]at this
   rcases Int.lt_or_le (cmpD s[k].id s[i].id) 0 with h2|h2
   ·exact absurd h2 (Dig.lt_asymm this)
   ·exact h2
  ·have e2:k=i:=by omega
   subst e2
   rcases Int.lt_or_le (cmpD s[k].id s[k].id) 0 with h2|h2
   ·exact absurd h2 (Dig.lt_irrefl _)
   ·exact h2)
 refine⟨by rw[e];exact hi,?_⟩
 simp only[e]
 exact⟨trivial,getS_in ha hx⟩
def errA (s:List Sto) (p:Pat):Int:=if(getS s (rId p).1).isSome=true then(if p=(getS s (rId p).1).getD Pat.zero then 6 else 14)else if allIn (ids s) (rNeeds p)=false then 19 else rRefsS s p (rId p).1
theorem rAdd_err {s:List Sto} {p:Pat} (h0:(rId p).2=0) (hl:s.length < 400):rAdd s p=if errA s p≠0 then([],Dig.zero,errA s p)else(putS s ⟨(rId p).1,p⟩,(rId p).1,0):=by
 unfold rAdd errA
 rw[if_neg (by simp[h0])]
 by_cases h1:(getS s (rId p).1).isSome=true
 ·rw[if_pos h1,if_pos h1]
  by_cases h2:p=(getS s (rId p).1).getD Pat.zero
  ·rw[if_pos h2,if_pos h2];rfl
  ·rw[if_neg h2,if_neg h2];rfl
 rw[if_neg h1,if_neg h1]
 by_cases h3:allIn (ids s) (rNeeds p)=false
 ·rw[if_pos h3,if_pos h3];rfl
 rw[if_neg h3,if_neg h3]
 by_cases h4:rRefsS s p (rId p).1≠0
 ·rw[if_pos h4,if_pos h4]
 ·rw[if_neg h4,if_neg h4,if_neg (by omega)]
theorem perm_ab {a b:Res} {R LF:List Res}:(R++a::b::LF).Perm (b::a::(R++LF)):=(List.perm_middle.trans (.cons a List.perm_middle)).trans (.swap _ _ _)
theorem perm_ba {a b:Res} {R LF:List Res}:(b::a::(R++LF)).Perm (R++(b::a::LF)):=(List.perm_middle.trans (.cons b List.perm_middle)).symm
set_option maxHeartbeats 4000000 in
instance AddP_ct (s:List Sto) (p:Pat) (t:Tag) [hs:Small (Valid s)] [hg:Small (rBig p=false)]:FnC Tryz.prog 33 [.slice (s.map eSto) t,.agg (ePat p)] (.tuple [.slice ((rAdd s p).1.map eSto) .ro,.agg (eDig (rAdd s p).2.1),.raw (.int .i64 (rAdd s p).2.2)]):=⟨by
 have v:=hs.out
 have hgd:=v.close.1
 have hlen:=hgd.1
 have hgp:=hg.out
 have i2:=fun t=>searchP_fn s t (rId p).1 v.asc (by omega)
 have i3:=fun t=>lacks_fn s t p v.asc (by omega) hgp
 have hpl:=posD_le s (rId p).1
 refine fn_of Tryz.func33 Tryz.ntmps33 rfl (rs:= [.tmp 4,.cell 5 25,.tmp 6]) rfl rfl fun hb LF=>?_
 refine wf ?_
 refine s_alloc fun b5=>?_
 refine wf ?_
 refine s_alloc fun b7=>?_
 refine wo ?_
 refine pops_nil ?_
 refine pwp_freezeD 7 ?_
 refine wf ?_
 refine pwp_condN (fun h1=>?_) (fun h1=>?_)
 ·refine wf ?_
  refine endTCT rfl ?_
  rw[rAdd,if_pos h1]
  exact .tuple3 (.ro _ _) (.refl _) (.refl _)
 rw[rAdd_err h1 (by omega)]
 refine wf ?_
 refine pops_cutE [(32,.raw (.bool (decide ((rId p).1∈ids s∧ ¬p=(getS s (rId p).1).getD Pat.zero)))),(0,.slice (s.map eSto) t),(3,.pt (ePat p) 0),(5,.raw (.pointer (some ⟨b5,0,none⟩))),(7,.pt (eDig (rId p).1) 0),(9,.raw (.int .i64 (posD s (rId p).1:Nat))),(10,.raw (.bool (decide ((rId p).1∈ids s))))] (.box b5 25 (eDig Dig.zero)::LF) ?_ ?_
 ·refine pops_if (fun hp=>?_) (fun hp=>?_)
  ·have hd:=of_decide_eq_true hp
   obtain⟨hlt,hid,hget⟩:=posD_in v.asc hd
   have hq0:s[posD s (rId p).1]∈s:=List.getElem_mem hlt
   have i4:Small (rBig s[posD s (rId p).1].patch=false):=⟨hgd.2 _ hq0⟩
   have heq:=encode_eq hgp (hgd.2 _ hq0) h1 (v.id _ hq0).1
   refine wf ?_
   refine⟨⟨holdsB (by rfl) ?_,rfl,rfl,rfl,rfl,rfl,rfl⟩,.refl _⟩
   rw[heq,hget,Option.getD_some]
   generalize s[posD s (rId p).1].patch=q
   by_cases h2:p=q
   ·rw[decide_eq_true h2,decide_eq_false (fun h=>h.2 h2)];rfl
   ·rw[decide_eq_false h2,decide_eq_true ⟨hd,h2⟩];rfl
  ·have hd:=of_decide_eq_false hp
   refine wf ?_
   refine⟨⟨holdsB (by rfl) ?_,rfl,rfl,rfl,rfl,rfl,rfl⟩,.refl _⟩
   simp[hd]
 have hsome:=getS_isSome v.asc (rId p).1
 refine wf ?_
 refine pwp_joinG (σ:=Unit) (fun _=>True) (fun _=> [(0,.slice (s.map eSto) t),(3,.pt (ePat p) 0),(5,.raw (.pointer (some ⟨b5,0,none⟩))),(7,.pt (eDig (rId p).1) 0),(8,.raw (.int .i64 (errA s p))),(9,.raw (.int .i64 (posD s (rId p).1:Nat)))]) (fun _=> .box b5 25 (eDig Dig.zero)::LF) ?_ ?_
 ·refine pwp_condD (fun h=>?_) (fun h=>?_)
  ·have eA:errA s p=14:=by
    unfold errA;rw[hsome,if_pos (decide_eq_true h.1),if_neg h.2]
   refine wf ?_
   exact⟨(),trivial,⟨rfl,rfl,rfl,rfl,by rw[eA];rfl,rfl⟩,.refl _⟩
  refine wf ?_
  refine pwp_condD (fun h2=>?_) (fun h2=>?_)
  ·have eA:errA s p=6:=by
    unfold errA;rw[hsome,if_pos (decide_eq_true h2),if_pos (Classical.byContradiction fun h3=>h ⟨h2,h3⟩)]
   refine wf ?_
   exact⟨(),trivial,⟨rfl,rfl,rfl,rfl,by rw[eA];rfl,rfl⟩,.refl _⟩
  have hns: ¬(getS s (rId p).1).isSome=true:=by rw[hsome];simpa using h2
  refine wf ?_
  refine pwp_condB (fun h3=>?_) (fun h3=>?_)
  ·have eA:errA s p=19:=by
    unfold errA;rw[if_neg hns,if_pos (ntrue h3)]
   refine wf ?_
   exact⟨(),trivial,⟨rfl,rfl,rfl,rfl,by rw[eA];rfl,rfl⟩,.refl _⟩
  have eA:errA s p=rRefsS s p (rId p).1:=by
   unfold errA;rw[if_neg hns,if_neg (nfalse h3)]
  refine wn ?_
  refine pwp_drawA [1,5] (by decide+kernel) ?_
  refine pAny_quiet 0 rfl (by decide+kernel) rfl (fun L'=>q_of_pops (N:=70) rfl rfl (by refine wo ?_;refine pops_nil ?_;exact⟨upd_self _ _ _,rfl⟩)) ?_
  refine pAny_quiet 2 rfl (by decide+kernel) rfl (fun L'=>q_of_pops (N:=70) rfl rfl (by refine wo ?_;refine pops_nil ?_;exact⟨upd_self _ _ _,rfl⟩)) ?_
  refine pAny_quiet 3 rfl (by decide+kernel) rfl (fun L'=>q_of_pops (N:=70) rfl rfl (by refine wo ?_;refine pops_nil ?_;exact⟨upd_self _ _ _,rfl⟩)) ?_
  refine pAny_quiet 4 rfl (by decide+kernel) rfl (fun L'=>q_of_pops (N:=70) rfl rfl (by refine wo ?_;refine pops_nil ?_;exact⟨upd_self _ _ _,rfl⟩)) ?_
  refine pAny_next (fuel:=2) [1] (by decide+kernel) (by simp) fun i hi=>?_
  simp only[List.mem_cons,List.not_mem_nil,or_false]at hi
  subst hi
  refine⟨_,rfl,?_⟩
  refine s_callR (xs:= [.tmp 26]) [] (.box b5 25 (eDig Dig.zero)::LF) (f:=58) (cs:= []) (le_func _) rfl rfl (.refl _) _ (newResolver_fn s t) fun r L' ⟨m,e1,e2⟩=>?_
  subst e1;rw[e2]
  refine pops_nil ?_
  refine pAny_next (fuel:=1) [5] (by decide+kernel) (by simp) fun i hi=>?_
  simp only[List.mem_cons,List.not_mem_nil,or_false]at hi
  subst hi
  refine⟨_,rfl,?_⟩
  refine s_callR (xs:= [.tmp 27,.tmp 30]) (knownR m []) (.box b5 25 (eDig Dig.zero)::LF) (f:=59) (cs:= []) (le_func _) rfl rfl (.refl _) _ (unfitR_fn s hgd m [] (fun d l h=>by simp[mGet]at h) ⟨(rId p).1,p⟩ hgp) fun u L' ⟨e1,kn3,e2,hkn3⟩=>?_
  subst e1;rw[e2]
  refine pops_nil ?_
  refine pAny_next (fuel:=0) [6] (by decide+kernel) (by simp) fun i hi=>?_
  simp only[List.mem_cons,List.not_mem_nil,or_false]at hi
  subst hi
  refine⟨_,rfl,?_⟩
  refine wo ?_
  refine pops_nil ?_
  refine pAny_end (by decide+kernel) ?_
  rw[show unfitP s (⟨(rId p).1,p⟩:Sto).patch (⟨(rId p).1,p⟩:Sto).id=errA s p from(unfit_eq s (rId p).1 h1).trans eA.symm]
  exact⟨(),trivial,⟨rfl,rfl,rfl,rfl,rfl,rfl⟩,.cons _ (.refl _)⟩
 intro _ _
 refine wf ?_
 refine pops_cutE [(56,.raw (.bool (decide (errA s p=0∧400≤(s.length:Int))))),(0,.slice (s.map eSto) t),(3,.pt (ePat p) 0),(5,.raw (.pointer (some ⟨b5,0,none⟩))),(7,.pt (eDig (rId p).1) 0),(8,.raw (.int .i64 (errA s p))),(9,.raw (.int .i64 (posD s (rId p).1:Nat)))] (.box b5 25 (eDig Dig.zero)::LF) ?_ ?_
 ·repeat' (first|(refine pwp_condD (fun h=>?_) (fun h=>?_)<;>refine wf ?_)|(refine pwp_condN (fun h=>?_) (fun h=>?_)<;>refine wf ?_)|(refine pwp_condB (fun h=>?_) (fun h=>?_)<;>refine wf ?_)|(refine pops_if (fun h=>?_) (fun h=>?_)<;>(have h2:=h;(try simp only[decide_eq_true_eq,decide_eq_false_iff_not,Bool.not_eq_true',Bool.not_eq_false']at h2);refine wf ?_)))
  all_goals (refine⟨⟨holdsB (by rfl) ?_,rfl,rfl,rfl,rfl,rfl,rfl⟩,.refl _⟩;first|(simp_all;done)|grind)
 refine wf ?_
 refine pwp_condD (fun h=>?_) (fun _=>?_)
 ·omega
 refine wf ?_
 refine pwp_condN (fun h=>?_) (fun h=>?_)
 ·refine wf ?_
  refine endTCT rfl ?_
  rw[if_pos h]
  exact .tuple3 (.ro _ _) (.refl _) (.refl _)
 rw[if_neg (fun h'=>h' h)]
 refine wn ?_
 refine pwp_drawA [1,6,7,10] (by decide+kernel) ?_
 refine pAny_quiet 0 rfl (by decide+kernel) rfl (fun L'=>q_of_pops (N:=70) rfl rfl (by refine wo ?_;refine pops_nil ?_;exact⟨upd_self _ _ _,rfl⟩)) ?_
 refine pAny_quiet 2 rfl (by decide+kernel) rfl (fun L'=>q_of_pops (N:=70) rfl rfl (by refine wo ?_;refine pops_nil ?_;exact⟨upd_self _ _ _,rfl⟩)) ?_
 refine pAny_quiet 3 rfl (by decide+kernel) rfl (fun L'=>q_of_pops (N:=70) rfl rfl (by refine wo ?_;refine pops_nil ?_;exact⟨upd_self _ _ _,rfl⟩)) ?_
 refine pAny_quiet 4 rfl (by decide+kernel) rfl (fun L'=>q_of_pops (N:=70) rfl rfl (by refine wo ?_;refine pops_nil ?_;exact⟨upd_self _ _ _,rfl⟩)) ?_
 refine pAny_quiet 5 rfl (by decide+kernel) rfl (fun L'=>q_of_pops (N:=70) rfl rfl (by refine wo ?_;refine pops_nil ?_;exact⟨upd_self _ _ _,rfl⟩)) ?_
 refine pAny_quiet 8 rfl (by decide+kernel) rfl (fun L'=>q_of_pops (N:=70) rfl rfl (by refine wo ?_;refine pops_nil ?_;exact⟨upd_self _ _ _,rfl⟩)) ?_
 refine pAny_next (fuel:=5) [1,6] (by decide+kernel) (by simp) fun i hi=>?_
 simp only[List.mem_cons,List.not_mem_nil,or_false]at hi
 rcases hi with rfl|rfl
 ·refine⟨_,rfl,?_⟩
  refine s_callR (xs:= [.tmp 61]) [] (.box b5 25 (eDig Dig.zero)::LF) (f:=72) (cs:= []) (le_func _) rfl rfl (.refl _) _ (cloneS_fn s t (by omega)) fun r R0 ⟨v0,e1,hv0⟩=>?_
  subst e1
  refine pops_nil ?_
  refine pAny_next (fuel:=4) [6] (by decide+kernel) (by simp) fun i hi=>?_
  simp only[List.mem_cons,List.not_mem_nil,or_false]at hi
  subst hi
  refine⟨_,rfl,?_⟩
  refine s_build1B (cs:=eSto (⟨(rId p).1,p⟩:Sto)) (.agg _) (by simp) (by decide) fun b=>?_
  refine pops_nil ?_
  refine pAny_next (fuel:=3) [7] (by decide+kernel) (by simp) fun i hi=>?_
  simp only[List.mem_cons,List.not_mem_nil,or_false]at hi
  subst hi
  refine⟨_,rfl,?_⟩
  refine s_callR (xs:= [.tmp 62,.tmp 63,.tmp 67]) (R0++ [Res.box b 70 (eSto (⟨(rId p).1,p⟩:Sto))]) (.box b5 25 (eDig Dig.zero)::LF) (f:=71) (cs:= []) (le_func _) rfl rfl (by rw[List.append_assoc];exact List.perm_middle.symm) _ (insertS_fn v0 s R0 hv0 (posD s (rId p).1) hpl (by omega) b (⟨(rId p).1,p⟩:Sto)) fun r L' ⟨v2,R2,e1,hv2,e2⟩=>?_
  subst e1;rw[e2]
  refine pops_nil ?_
  refine pAny_next (fuel:=2) [9] (by decide+kernel) (by simp) fun i hi=>?_
  simp only[List.mem_cons,List.not_mem_nil,or_false]at hi
  subst hi
  refine⟨_,rfl,?_⟩
  refine wo ?_
  refine pops_nil ?_
  refine pAny_next (fuel:=1) [10] (by decide+kernel) (by simp) fun i hi=>?_
  simp only[List.mem_cons,List.not_mem_nil,or_false]at hi
  subst hi
  refine⟨_,rfl,?_⟩
  refine pops_perm (L':= .box b5 25 (eDig Dig.zero):: .box b 70 (eSto (⟨(rId p).1,p⟩:Sto))::(R2++LF)) (by rw[List.append_assoc];exact perm_ab) rfl ?_ (fun h=>h)
  refine wo ?_
  refine pops_nil ?_
  refine pAny_next (fuel:=0) [11] (by decide+kernel) (by simp) fun i hi=>?_
  simp only[List.mem_cons,List.not_mem_nil,or_false]at hi
  subst hi
  refine⟨_,rfl,?_⟩
  refine wo ?_
  refine pops_nil ?_
  refine pAny_end (by decide+kernel) ?_
  have hxl:((s.take (posD s (rId p).1)++(⟨(rId p).1,p⟩:Sto)::s.drop (posD s (rId p).1)).map eSto).length≤41:=by
   simp only[List.length_map,List.length_append,List.length_take,List.length_cons,List.length_drop];omega
  refine pwp_freezeB 4 hv2 ⟨by unfold maxN;omega,by unfold maxN;omega⟩ perm_ba rfl ?_
  refine wf ?_
  refine endTCT rfl ?_
  rw[putS_pos]
  exact .refl _
 ·refine⟨_,rfl,?_⟩
  refine s_build1B (cs:=eSto (⟨(rId p).1,p⟩:Sto)) (.agg _) (by simp) (by decide) fun b=>?_
  refine pops_nil ?_
  refine pAny_next (fuel:=4) [1] (by decide+kernel) (by simp) fun i hi=>?_
  simp only[List.mem_cons,List.not_mem_nil,or_false]at hi
  subst hi
  refine⟨_,rfl,?_⟩
  refine s_callR (xs:= [.tmp 61]) [] (.box b 70 (eSto (⟨(rId p).1,p⟩:Sto)):: .box b5 25 (eDig Dig.zero)::LF) (f:=72) (cs:= []) (le_func _) rfl rfl (.refl _) _ (cloneS_fn s t (by omega)) fun r R0 ⟨v0,e1,hv0⟩=>?_
  subst e1
  refine pops_nil ?_
  refine pAny_next (fuel:=3) [7] (by decide+kernel) (by simp) fun i hi=>?_
  simp only[List.mem_cons,List.not_mem_nil,or_false]at hi
  subst hi
  refine⟨_,rfl,?_⟩
  refine s_callR (xs:= [.tmp 62,.tmp 63,.tmp 67]) (R0++ [Res.box b 70 (eSto (⟨(rId p).1,p⟩:Sto))]) (.box b5 25 (eDig Dig.zero)::LF) (f:=71) (cs:= []) (le_func _) rfl rfl (by rw[List.append_assoc];exact .refl _) _ (insertS_fn v0 s R0 hv0 (posD s (rId p).1) hpl (by omega) b (⟨(rId p).1,p⟩:Sto)) fun r L' ⟨v2,R2,e1,hv2,e2⟩=>?_
  subst e1;rw[e2]
  refine pops_nil ?_
  refine pAny_next (fuel:=2) [9] (by decide+kernel) (by simp) fun i hi=>?_
  simp only[List.mem_cons,List.not_mem_nil,or_false]at hi
  subst hi
  refine⟨_,rfl,?_⟩
  refine wo ?_
  refine pops_nil ?_
  refine pAny_next (fuel:=1) [10] (by decide+kernel) (by simp) fun i hi=>?_
  simp only[List.mem_cons,List.not_mem_nil,or_false]at hi
  subst hi
  refine⟨_,rfl,?_⟩
  refine pops_perm (L':= .box b5 25 (eDig Dig.zero):: .box b 70 (eSto (⟨(rId p).1,p⟩:Sto))::(R2++LF)) (by rw[List.append_assoc];exact perm_ab) rfl ?_ (fun h=>h)
  refine wo ?_
  refine pops_nil ?_
  refine pAny_next (fuel:=0) [11] (by decide+kernel) (by simp) fun i hi=>?_
  simp only[List.mem_cons,List.not_mem_nil,or_false]at hi
  subst hi
  refine⟨_,rfl,?_⟩
  refine wo ?_
  refine pops_nil ?_
  refine pAny_end (by decide+kernel) ?_
  have hxl:((s.take (posD s (rId p).1)++(⟨(rId p).1,p⟩:Sto)::s.drop (posD s (rId p).1)).map eSto).length≤41:=by
   simp only[List.length_map,List.length_append,List.length_take,List.length_cons,List.length_drop];omega
  refine pwp_freezeB 4 hv2 ⟨by unfold maxN;omega,by unfold maxN;omega⟩ perm_ba rfl ?_
  refine wf ?_
  refine endTCT rfl ?_
  rw[putS_pos]
  exact .refl _⟩
end Go.Proofs
namespace Go.Proofs
open Go Go.Q
def awF:Chg:={ Chg.zero with kind:=1,type:=1 }
theorem awFine0:rFine []=true:=by decide+kernel
end Go.Proofs
namespace Go.Proofs
open Go Go.Q
attribute [local irreducible] pwp pops pAny PCalls OpN
theorem le_nilS (xs:List (List PV)) (h:xs= []):Le (.raw (.slice none 0 0)) (.slice xs .nil):=fun g v hv=>by
 subst h;rw[hv.raw_inv];exact .nilN none (by simp)
end Go.Proofs
namespace Go.Proofs
open Go Go.Q
attribute [local irreducible] pwp pops PCalls OpN
end Go.Proofs
namespace Go.Q
open Go
section
variable {P:Program} {N:Nat} {all:Array Oper} {K:Env→List Res→Prop} {fl:List Bool} {os:List Oper} {ρ:Env} {L:List Res} {d:Nat} {ty:TypeId} {pos:String} {af:Array Edge}
end
end Go.Q
namespace Go.Proofs
open Go Go.Q
attribute [local irreducible] pwp pops pAny PCalls OpN
end Go.Proofs
namespace Go.Q
open Go
theorem opens_u8 {P:Program} {t:Nat} (ht:P.underlying t=some (.int .u8)):Opens P t (fun xs=> ∃ b:UInt8,xs= [eU8 b]):=Opens.to (opens_int ht) fun xs ⟨n,hwf,h⟩=>by
 simp[Lit.wf,IntKind.min,IntKind.max,IntKind.signed,IntKind.bits]at hwf
 refine⟨n.toNat.toUInt8,?_⟩
 rw[h]
 simp only[eU8,u8]
 congr 3
 simp
 omega
end Go.Q
namespace Go.Proofs
open Go Go.Q Go.ChangeShapes Go.WideShapes Go.ChangeAt Go.WideMaps Go.WideElems Go.RowKit
theorem o_u8:Opens Tryz.prog 5 (fun xs=> ∃ b:UInt8,xs= [eU8 b]):=opens_u8 (by kernel_rfl)
set_option maxRecDepth 20000 in
theorem arg_u8 {t:Nat} {W:World} {base:Nat} {v:Value} {g:Gh} {b:UInt8} (ht:Tryz.prog.underlying t=some (.int .u8)) (hv:Value.okWide Tryz.prog W .any base t v) (h:VRl g v.cells.toList [eU8 b]):VR g v (eU8 b):=by
 have:v.cells= #[v]:=by
  unfold Value.okWide at hv
  rw[ht]at hv
  simp only[Cell.okWide,ht]at hv
  cases v<;>simp[Cell.ok,ht]at hv<;>rfl
 rw[this]at h
 exact h.uncons.1
end Go.Proofs
namespace Go.Proofs
open Go Go.Q Go.ChangeShapes Go.WideShapes Go.ChangeAt Go.WideMaps Go.WideElems Go.RowKit
theorem o_intA:Opens Tryz.prog 3 (fun xs=> ∃ n:Int,xs= [.raw (.int .i64 n)]):=Opens.to o_int fun xs ⟨n,_,e⟩=>⟨n,e⟩
set_option maxRecDepth 20000 in
theorem arg_int {t:Nat} {W:World} {base:Nat} {v:Value} {g:Gh} {n:Int} (ht:Tryz.prog.underlying t=some (.int .i64)) (hv:Value.okWide Tryz.prog W .any base t v) (h:VRl g v.cells.toList [.raw (.int .i64 n)]):VR g v (.raw (.int .i64 n)):=by
 have:v.cells= #[v]:=by
  unfold Value.okWide at hv
  rw[ht]at hv
  simp only[Cell.okWide,ht]at hv
  cases v<;>simp[Cell.ok,ht]at hv<;>rfl
 rw[this]at h
 exact h.uncons.1
end Go.Proofs
namespace Go.Proofs
open Go Go.Q
def lessS (x y:Sto):Bool:=if x.patch.time≠y.patch.time then decide (x.patch.time < y.patch.time)else decide (cmpD x.id y.id < 0)
theorem less_iff {x y:Sto}:lessS x y=true↔x.patch.time < y.patch.time∨(x.patch.time=y.patch.time∧Dig.lt x.id y.id):=by
 unfold lessS Dig.lt
 by_cases h:x.patch.time=y.patch.time
 ·simp[h]
 ·rw[if_pos h,decide_eq_true_eq]
  constructor
  ·exact .inl
  ·rintro(h1|⟨h1,_⟩)
   ·exact h1
   ·exact absurd h1 h
def LeS (x y:Sto):Prop:=lessS y x=false
theorem LeS.refl (x:Sto):LeS x x:=by
 unfold LeS
 rw[Bool.eq_false_iff,Ne,less_iff]
 rintro(h|⟨_,h⟩)
 ·omega
 ·exact Dig.ne_of_lt h rfl
theorem LeS.of_less {x y:Sto} (h:lessS x y=true):LeS x y:=by
 unfold LeS
 rw[Bool.eq_false_iff,Ne,less_iff]
 rcases less_iff.1 h with h1|⟨h1,h2⟩
 ·rintro(h3|⟨h3,_⟩)<;>omega
 ·rintro(h3|⟨_,h3⟩)
  ·omega
  ·exact Dig.lt_asymm h2 h3
theorem LeS.trans {x y z:Sto} (h:LeS x y) (k:LeS y z):LeS x z:=by
 unfold LeS at*
 rw[Bool.eq_false_iff,Ne,less_iff]at*
 rintro(h1|⟨h1,h2⟩)
 ·rcases Int.lt_trichotomy y.patch.time x.patch.time with a|a|a
  ·exact h (.inl a)
  ·exact k (.inl (by omega))
  ·exact k (.inl (by omega))
 ·rcases Int.lt_trichotomy y.patch.time x.patch.time with a|a|a
  ·exact h (.inl a)
  ·rcases Dig.tri y.id x.id with b|b|b
   ·exact h (.inr ⟨a,b⟩)
   ·exact k (.inr ⟨by omega,by rw[b];exact h2⟩)
   ·exact k (.inr ⟨by omega,Dig.lt_trans h2 b⟩)
  ·exact k (.inl (by omega))
theorem LeS.less {x y:Sto} (h:LeS x y) (hne:x.id≠y.id):lessS x y=true:=by
 unfold LeS at h
 rw[Bool.eq_false_iff,Ne,less_iff]at h
 rw[less_iff]
 rcases Int.lt_trichotomy x.patch.time y.patch.time with a|a|a
 ·exact .inl a
 ·rcases Dig.tri x.id y.id with b|b|b
  ·exact .inr ⟨a,b⟩
  ·exact absurd b hne
  ·exact absurd (.inr ⟨a.symm,b⟩) h
 ·exact absurd (.inl a) h
def atS (q:List Sto) (i:Nat):Sto:=q.getD i Sto.zero
theorem atS_get {q:List Sto} {i:Nat} (h:i < q.length):atS q i=q[i]:=by simp[atS,List.getD,h]
def swapS (q:List Sto) (i j:Nat):List Sto:=(q.set i (atS q j)).set j (atS q i)
@[simp] theorem swapS_len (q:List Sto) (i j:Nat):(swapS q i j).length=q.length:=by simp[swapS]
theorem atS_swap {q:List Sto} {i j:Nat} (hi:i < q.length) (hj:j < q.length) (k:Nat):atS (swapS q i j) k=if k=j then atS q i else if k=i then atS q j else atS q k:=by
 unfold swapS
 by_cases h1:k=j
 ·subst h1;simp[atS,List.getD,List.getElem?_set,hj]
 ·by_cases h2:k=i
  ·subst h2;rw[if_neg h1,if_pos rfl];simp[atS,List.getD,List.getElem?_set,hi,Ne.symm h1]
  ·rw[if_neg h1,if_neg h2];simp[atS,List.getD,List.getElem?_set,Ne.symm h1,Ne.symm h2]
def upF:Nat→List Sto→Nat→List Sto
 |0,q,_=>q
 |n+1,q,j=>if j=0 then q else if lessS (atS q j) (atS q ((j - 1) / 2))=true then upF n (swapS q ((j - 1) / 2) j) ((j - 1) / 2)else q
def kid (q:List Sto) (i n:Nat):Nat:=if 2*i+2 < n∧lessS (atS q (2*i+2)) (atS q (2*i+1))=true then 2*i+2 else 2*i+1
def dnF:Nat→List Sto→Nat→Nat→List Sto
 |0,q,_,_=>q
 |f+1,q,i,n=>if n≤2*i+1 then q else if lessS (atS q (kid q i n)) (atS q i)=true then dnF f (swapS q i (kid q i n)) (kid q i n) n else q
theorem upF_fuel: ∀ {n m:Nat} {q:List Sto} {j:Nat},j≤n→j≤m→upF n q j=upF m q j
 |0,0,_,_,_,_=>rfl
 |0,m+1,q,j,h,_=>by
  obtain rfl:j=0:=by omega
  simp[upF]
 |n+1,0,q,j,_,h=>by
  obtain rfl:j=0:=by omega
  simp[upF]
 |n+1,m+1,q,j,h1,h2=>by
  rw[upF,upF]
  by_cases h:j=0
  ·rw[if_pos h,if_pos h]
  ·rw[if_neg h,if_neg h,upF_fuel (n:=n) (m:=m) (by omega) (by omega)]
theorem kid_cases (q:List Sto) (i n:Nat):kid q i n=2*i+1∨(kid q i n=2*i+2∧2*i+2 < n):=by
 unfold kid
 split
 ·rename_i h;exact .inr ⟨rfl,h.1⟩
 ·exact .inl rfl
theorem dnF_fuel: ∀ {f m:Nat} {q:List Sto} {i n:Nat},n≤f+i→n≤m+i→dnF f q i n=dnF m q i n
 |0,0,_,_,_,_,_=>rfl
 |0,m+1,q,i,n,h,_=>by rw[dnF,dnF,if_pos (by omega)]
 |f+1,0,q,i,n,_,h=>by rw[dnF,dnF,if_pos (by omega)]
 |f+1,m+1,q,i,n,h1,h2=>by
  rw[dnF,dnF]
  rcases kid_cases q i n with e|⟨e,e2⟩<;>rw[e,dnF_fuel (f:=f) (m:=m) (by omega) (by omega)]
def pushS (q:List Sto) (x:Sto):List Sto:=upF q.length (q++ [x]) q.length
def restS (q:List Sto):List Sto:=dnF (q.length - 1) (swapS q 0 (q.length - 1)) 0 (q.length - 1)
theorem upF_len: ∀ (n:Nat) (q:List Sto) (j:Nat),(upF n q j).length=q.length
 |0,_,_=>rfl
 |n+1,q,j=>by
  rw[upF]
  split
  ·rfl
  ·split
   ·rw[upF_len,swapS_len]
   ·rfl
theorem dnF_len: ∀ (f:Nat) (q:List Sto) (i n:Nat),(dnF f q i n).length=q.length
 |0,_,_,_=>rfl
 |f+1,q,i,n=>by
  rw[dnF]
  split
  ·rfl
  ·split
   ·rw[dnF_len,swapS_len]
   ·rfl
@[simp] theorem pushS_len (q:List Sto) (x:Sto):(pushS q x).length=q.length+1:=by simp[pushS,upF_len]
@[simp] theorem restS_len (q:List Sto):(restS q).length=q.length:=by simp[restS,dnF_len]
end Go.Proofs
namespace Go.Proofs
open Go Go.Q
theorem set_perm {q:List Sto} {i j:Nat} (hi:i < q.length) (hj:j < q.length):(swapS q i j).Perm q:=by
 by_cases e:i=j
 ·subst e
  have:swapS q i i=q:=by
   refine List.ext_getElem (by simp) fun k h1 h2=>?_
   have:=atS_swap hi hi k
   rw[atS_get h1]at this
   rw[this]
   split
   ·rename_i e;subst e;rw[atS_get h2]
   ·rw[atS_get h2]
  rw[this]
 refine List.perm_iff_count.2 fun x=>?_
 unfold swapS
 rw[List.count_set (by simpa using hj),List.count_set hi,List.getElem_set_ne e,atS_get hi,atS_get hj]
 have h1:0 < q.count q[i]:=List.count_pos_iff.2 (List.getElem_mem hi)
 have h2:0 < q.count q[j]:=List.count_pos_iff.2 (List.getElem_mem hj)
 by_cases a:q[i]=x<;>by_cases b:q[j]=x<;>simp only[a,b,beq_self_eq_true,if_true,beq_iff_eq,if_false]<;>first
  |(rw[a]at h1;rw[b]at h2;simp_all;omega)
  |(rw[a]at h1;simp_all;omega)
  |(rw[b]at h2;simp_all;omega)
  |simp_all
def HeapP (q:List Sto) (n:Nat):Prop:= ∀ k,0 < k→k < n→LeS (atS q ((k - 1) / 2)) (atS q k)
theorem HeapP.root {q:List Sto} {n:Nat} (h:HeapP q n): ∀ (k:Nat),k < n→LeS (atS q 0) (atS q k):=fun k=>by
 induction k using Nat.strongRecOn with
 |_ k ih=>
  intro hk
  by_cases h0:k=0
  ·subst h0;exact .refl _
  ·exact(ih ((k - 1) / 2) (by omega) (by omega)).trans (h k (by omega) hk)
theorem upF_perm: ∀ (n:Nat) (q:List Sto) (j:Nat),j < q.length→(upF n q j).Perm q
 |0,_,_,_=> .refl _
 |n+1,q,j,h=>by
  rw[upF]
  split
  ·exact .refl _
  ·split
   ·exact(upF_perm n _ _ (by rw[swapS_len];omega)).trans (set_perm (by omega) h)
   ·exact .refl _
theorem upF_heap: ∀ (f:Nat) (q:List Sto) (j:Nat),j≤f→j < q.length→(∀ k,0 < k→k < q.length→k≠j→LeS (atS q ((k - 1) / 2)) (atS q k))→(∀ k,0 < k→k < q.length→(k - 1) / 2=j→0 < j→LeS (atS q ((j - 1) / 2)) (atS q k))→HeapP (upF f q j) q.length
 |0,q,j,hf,_,hA,_=>fun k h0 hk=>hA k h0 hk (by omega)
 |f+1,q,j,hf,hj,hA,hB=>by
  rw[upF]
  by_cases h0:j=0
  ·rw[if_pos h0];exact fun k h1 hk=>hA k h1 hk (by omega)
  rw[if_neg h0]
  have hp:(j - 1) / 2 < q.length:=by omega
  by_cases hl:lessS (atS q j) (atS q ((j - 1) / 2))=true
  ·rw[if_pos hl]
   have hle:=LeS.of_less hl
   have key:=upF_heap f (swapS q ((j - 1) / 2) j) ((j - 1) / 2) (by omega) (by rw[swapS_len];exact hp)
   rw[swapS_len]at key
   refine key (fun k h1 hk hne=>?_) (fun k h1 hk he hpos=>?_)
   ·rw[atS_swap hp hj,atS_swap hp hj]
    by_cases e1:k=j
    ·subst e1
     rw[if_neg (by omega),if_pos rfl,if_pos rfl];exact hle
    ·rw[if_neg e1,if_neg hne]
     by_cases e2:(k - 1) / 2=j
     ·rw[if_pos e2];exact hB k h1 hk e2 (by omega)
     ·rw[if_neg e2]
      by_cases e3:(k - 1) / 2=(j - 1) / 2
      ·rw[if_pos e3]
       have:=hA k h1 hk e1
       rw[e3]at this
       exact hle.trans this
      ·rw[if_neg e3];exact hA k h1 hk e1
   ·rw[atS_swap hp hj,atS_swap hp hj]
    rw[if_neg (by omega),if_neg (by omega)]
    have h3:=hA ((j - 1) / 2) hpos hp (by omega)
    by_cases e1:k=j
    ·rw[if_pos e1];exact h3
    ·rw[if_neg e1,if_neg (by omega)]
     have:=hA k h1 hk e1
     rw[he]at this
     exact h3.trans this
  ·rw[if_neg hl]
   intro k h1 hk
   by_cases e:k=j
   ·subst e;unfold LeS;simpa using hl
   ·exact hA k h1 hk e
theorem atS_append_left {q r:List Sto} {k:Nat} (h:k < q.length):atS (q++r) k=atS q k:=by simp[atS,List.getD,List.getElem?_append_left h]
theorem push_heap {q:List Sto} {x:Sto} (h:HeapP q q.length):HeapP (pushS q x) (pushS q x).length∧(pushS q x).Perm (x::q):=by
 have hl:(q++ [x]).length=q.length+1:=by simp
 constructor
 ·rw[pushS_len]
  have:=upF_heap q.length (q++ [x]) q.length (Nat.le_refl _) (by omega) (fun k h1 hk hne=>by
   have hlt:k < q.length:=by omega
   rw[atS_append_left hlt,atS_append_left (by omega)]
   exact h k h1 hlt) (fun k h1 hk he _=>by omega)
  rw[hl]at this
  exact this
 ·exact(upF_perm _ _ _ (by omega)).trans (by simp)
theorem kid_le {q:List Sto} {i n:Nat} (h:2*i+1 < n):kid q i n < n∧(kid q i n - 1) / 2=i∧i < kid q i n∧ ∀ k,0 < k→k < n→(k - 1) / 2=i→LeS (atS q (kid q i n)) (atS q k):=by
 have hc:=kid_cases q i n
 refine⟨by omega,by omega,by omega,fun k h0 hk he=>?_⟩
 unfold kid
 by_cases h2:2*i+2 < n∧lessS (atS q (2*i+2)) (atS q (2*i+1))=true
 ·rw[if_pos h2]
  by_cases e:k=2*i+2
  ·rw[e];exact .refl _
  ·obtain rfl:k=2*i+1:=by omega
   exact .of_less h2.2
 ·rw[if_neg h2]
  by_cases e:k=2*i+1
  ·rw[e];exact .refl _
  ·obtain rfl:k=2*i+2:=by omega
   unfold LeS
   cases hl:lessS (atS q (2*i+2)) (atS q (2*i+1))with
   |false=>rfl
   |true=>exact absurd ⟨hk,hl⟩ h2
theorem dnF_spec: ∀ (f:Nat) (q:List Sto) (i n:Nat),n≤f+i→n≤q.length→(∀ k,0 < k→k < n→(k - 1) / 2≠i→LeS (atS q ((k - 1) / 2)) (atS q k))→(∀ k,0 < k→k < n→(k - 1) / 2=i→0 < i→LeS (atS q ((i - 1) / 2)) (atS q k))→
  HeapP (dnF f q i n) n∧(dnF f q i n).Perm q∧ ∀ k,n≤k→atS (dnF f q i n) k=atS q k
 |0,q,i,n,hf,_,hC,_=>⟨fun k h0 hk=>hC k h0 hk (by omega),.refl _,fun _ _=>rfl⟩
 |f+1,q,i,n,hf,hn,hC,hD=>by
  rw[dnF]
  by_cases h0:n≤2*i+1
  ·rw[if_pos h0]
   exact⟨fun k h1 hk=>hC k h1 hk (by omega),.refl _,fun _ _=>rfl⟩
  rw[if_neg h0]
  obtain⟨k1,k2,k3,k4⟩:=kid_le (q:=q) (i:=i) (n:=n) (by omega)
  generalize kid q i n=j at*
  have hi:i < q.length:=by omega
  have hj:j < q.length:=by omega
  by_cases hl:lessS (atS q j) (atS q i)=true
  ·rw[if_pos hl]
   have hle:=LeS.of_less hl
   have hDj:=hD j (by omega) k1 k2
   obtain⟨r1,r2,r3⟩:=dnF_spec f (swapS q i j) j n (by omega) (by rw[swapS_len];exact hn) (fun k h1 hk hne=>by
    rw[atS_swap hi hj,atS_swap hi hj,if_neg hne]
    by_cases e1:k=j
    ·subst e1
     rw[if_pos k2,if_pos rfl];exact hle
    ·rw[if_neg e1]
     by_cases e2:(k - 1) / 2=i
     ·rw[if_pos e2,if_neg (by omega)];exact k4 k h1 hk e2
     ·rw[if_neg e2]
      by_cases e3:k=i
      ·subst e3;rw[if_pos rfl];exact hDj (by omega)
      ·rw[if_neg e3];exact hC k h1 hk e2) (fun k h1 hk he hpos=>by
    rw[atS_swap hi hj,atS_swap hi hj,k2,if_neg (by omega),if_pos rfl,if_neg (by omega),if_neg (by omega)]
    have:=hC k h1 hk (by omega)
    rw[he]at this
    exact this)
   refine⟨r1,r2.trans (set_perm hi hj),fun k hk=>?_⟩
   rw[r3 k hk,atS_swap hi hj,if_neg (by omega),if_neg (by omega)]
  ·rw[if_neg hl]
   refine⟨fun k h1 hk=>?_,.refl _,fun _ _=>rfl⟩
   by_cases e:(k - 1) / 2=i
   ·rw[e]
    have:LeS (atS q i) (atS q j):=by unfold LeS;simpa using hl
    exact this.trans (k4 k h1 hk e)
   ·exact hC k h1 hk e
theorem rest_heap {q:List Sto} (h:HeapP q q.length) (hp:0 < q.length):atS (restS q) (q.length - 1)=atS q 0∧HeapP ((restS q).take (q.length - 1)) (q.length - 1)∧q.Perm (atS q 0::(restS q).take (q.length - 1))∧ ∀ x∈q,LeS (atS q 0) x:=by
 have hn:q.length - 1 < q.length:=by omega
 obtain⟨r1,r2,r3⟩:=dnF_spec (q.length - 1) (swapS q 0 (q.length - 1)) 0 (q.length - 1) (by omega) (by rw[swapS_len];omega) (fun k h1 hk hne=>by
  rw[atS_swap hp hn,atS_swap hp hn,if_neg (by omega),if_neg hne,if_neg (by omega),if_neg (by omega)]
  exact h k h1 (by omega)) (fun k h1 hk he hpos=>by omega)
 have e1:atS (restS q) (q.length - 1)=atS q 0:=by
  have:=r3 (q.length - 1) (Nat.le_refl _)
  rw[atS_swap hp hn,if_pos rfl]at this
  exact this
 refine⟨e1,fun k h1 hk=>?_,?_,fun x hx=>?_⟩
 ·have hlt:k < (restS q).length:=by rw[restS_len];omega
  have e: ∀ i,i < q.length - 1→atS ((restS q).take (q.length - 1)) i=atS (restS q) i:=fun i hi=>by
   have hi2:i < q.length:=by omega
   simp[atS,List.getD,List.getElem?_take,hi,hi2]
  rw[e k hk,e _ (by omega)]
  exact r1 k h1 hk
 ·have h2:(restS q).Perm q:=r2.trans (set_perm hp hn)
  have h3:restS q=(restS q).take (q.length - 1)++ [atS q 0]:=by
   have hl:q.length - 1 < (restS q).length:=by rw[restS_len];omega
   have h4:=List.take_succ_eq_append_getElem hl
   rw[List.take_of_length_le (by rw[restS_len];omega),←atS_get hl,e1]at h4
   exact h4
  refine h2.symm.trans ?_
  conv=>lhs;rw[h3]
  exact(List.perm_append_comm (l₁:=(restS q).take (q.length - 1)) (l₂:= [atS q 0]))
 ·obtain⟨i,hi,rfl⟩:=List.mem_iff_getElem.1 hx
  rw[←atS_get hi]
  exact h.root i hi
end Go.Proofs
