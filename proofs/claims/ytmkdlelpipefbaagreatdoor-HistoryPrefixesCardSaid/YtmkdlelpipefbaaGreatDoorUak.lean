/- Contracts of the program: a patch encoded. -/
import Derived.Test.YtmkdlelpipefbaaGreatDoorUaj
import Derived.Test.YtmkdlelpipefbaaGreatDoorUae
import Derived.Test.YtmkdlelpipefbaaGreatDoorUai
import Derived.Test.YtmkdlelpipefbaaGreatDoorUaf
set_option linter.unusedSimpArgs false
set_option linter.unusedVariables false
namespace Go.Proofs
open Go Go.Q
attribute [local irreducible] pwp pops PCalls OpN
def fd1 (c:Chg):List Sx:= [sNum c.type]
def fd2 (c:Chg):List Sx:= [sRef c.file,sRef c.parent,sAtom c.name,sOver c.over]
def fd3 (c:Chg):List Sx:= [sRef c.file,sNum c.mode,sOver c.over]
def fd4 (c:Chg):List Sx:= [sRef c.file,sAtom c.data,sOver c.over]
def fd5 (c:Chg):List Sx:= [sRef c.file,sRef c.after,sRef c.before,sList (c.lines.map sAtom)]
def fd6 (c:Chg):List Sx:= [sRef c.file,sRef c.after,sRef c.before,sOver c.over]
def fd7 (c:Chg):List Sx:= [sOver c.over]
instance fd1_ct (c:Chg) [hs:Small (c.lines.length≤100000∧c.over.length≤100000)]:FnC Tryz.prog 197 [.agg (eChg c)] (.slice ((fd1 c).map eSx) .ro):=⟨by
 obtain⟨h1,h2⟩:=hs.out
 have i1:Small (c.over.length≤1000000):=⟨by omega⟩
 have i2:Small (c.lines.length≤1000000):=⟨by omega⟩
 refine fn_of Tryz.func197 Tryz.ntmps197 rfl (rs:= [.tmp 2]) rfl rfl fun hb LF=>?_
 refine wf ?_
 refine end1 (.of_eq ?_)
 rfl⟩
instance fd2_ct (c:Chg) [hs:Small (c.lines.length≤100000∧c.over.length≤100000)]:FnC Tryz.prog 198 [.agg (eChg c)] (.slice ((fd2 c).map eSx) .ro):=⟨by
 obtain⟨h1,h2⟩:=hs.out
 have i1:Small (c.over.length≤1000000):=⟨by omega⟩
 have i2:Small (c.lines.length≤1000000):=⟨by omega⟩
 refine fn_of Tryz.func198 Tryz.ntmps198 rfl (rs:= [.tmp 2]) rfl rfl fun hb LF=>?_
 refine wn ?_
 refine pwp_drawN 14 ?_ ?_
 ·decide+kernel
 refine wf ?_
 refine end1 (.of_eq ?_)
 rfl⟩
instance fd3_ct (c:Chg) [hs:Small (c.lines.length≤100000∧c.over.length≤100000)]:FnC Tryz.prog 201 [.agg (eChg c)] (.slice ((fd3 c).map eSx) .ro):=⟨by
 obtain⟨h1,h2⟩:=hs.out
 have i1:Small (c.over.length≤1000000):=⟨by omega⟩
 have i2:Small (c.lines.length≤1000000):=⟨by omega⟩
 refine fn_of Tryz.func201 Tryz.ntmps201 rfl (rs:= [.tmp 2]) rfl rfl fun hb LF=>?_
 refine wn ?_
 refine pwp_drawN 11 ?_ ?_
 ·decide+kernel
 refine wf ?_
 refine end1 (.of_eq ?_)
 rfl⟩
instance fd4_ct (c:Chg) [hs:Small (c.lines.length≤100000∧c.over.length≤100000)]:FnC Tryz.prog 202 [.agg (eChg c)] (.slice ((fd4 c).map eSx) .ro):=⟨by
 obtain⟨h1,h2⟩:=hs.out
 have i1:Small (c.over.length≤1000000):=⟨by omega⟩
 have i2:Small (c.lines.length≤1000000):=⟨by omega⟩
 refine fn_of Tryz.func202 Tryz.ntmps202 rfl (rs:= [.tmp 2]) rfl rfl fun hb LF=>?_
 refine wn ?_
 refine pwp_drawN 11 ?_ ?_
 ·decide+kernel
 refine wf ?_
 refine end1 (.of_eq ?_)
 rfl⟩
instance fd5_ct (c:Chg) [hs:Small (c.lines.length≤100000∧c.over.length≤100000)]:FnC Tryz.prog 203 [.agg (eChg c)] (.slice ((fd5 c).map eSx) .ro):=⟨by
 obtain⟨h1,h2⟩:=hs.out
 have i1:Small (c.over.length≤1000000):=⟨by omega⟩
 have i2:Small (c.lines.length≤1000000):=⟨by omega⟩
 refine fn_of Tryz.func203 Tryz.ntmps203 rfl (rs:= [.tmp 2]) rfl rfl fun hb LF=>?_
 refine wn ?_
 refine pwp_drawN 14 ?_ ?_
 ·decide+kernel
 refine wf ?_
 refine end1 (.of_eq ?_)
 rfl⟩
instance fd6_ct (c:Chg) [hs:Small (c.lines.length≤100000∧c.over.length≤100000)]:FnC Tryz.prog 205 [.agg (eChg c)] (.slice ((fd6 c).map eSx) .ro):=⟨by
 obtain⟨h1,h2⟩:=hs.out
 have i1:Small (c.over.length≤1000000):=⟨by omega⟩
 have i2:Small (c.lines.length≤1000000):=⟨by omega⟩
 refine fn_of Tryz.func205 Tryz.ntmps205 rfl (rs:= [.tmp 2]) rfl rfl fun hb LF=>?_
 refine wn ?_
 refine pwp_drawN 14 ?_ ?_
 ·decide+kernel
 refine wf ?_
 refine end1 (.of_eq ?_)
 rfl⟩
instance fd7_ct (c:Chg) [hs:Small (c.lines.length≤100000∧c.over.length≤100000)]:FnC Tryz.prog 206 [.agg (eChg c)] (.slice ((fd7 c).map eSx) .ro):=⟨by
 obtain⟨h1,h2⟩:=hs.out
 have i1:Small (c.over.length≤1000000):=⟨by omega⟩
 have i2:Small (c.lines.length≤1000000):=⟨by omega⟩
 refine fn_of Tryz.func206 Tryz.ntmps206 rfl (rs:= [.tmp 2]) rfl rfl fun hb LF=>?_
 refine wf ?_
 refine end1 (.of_eq ?_)
 rfl⟩
def fTab:List (Int × PV):= [(1,.raw (.func (.func 197) #[] #[])),(2,.raw (.func (.func 198) #[] #[])),(3,.raw (.func (.func 201) #[] #[])),(4,.raw (.func (.func 202) #[] #[])),(5,.raw (.func (.func 203) #[] #[])),(6,.raw (.func (.func 205) #[] #[])),(7,.raw (.func (.func 206) #[] #[]))]
theorem fieldsTab_fn:PCalls Tryz.prog 162 [] [] (fun r L'=> ∃ b,r= .raw (.map (some b))∧L'= [.map b (eMap kInt vId fTab)]):=by
 refine pcalls_bd Tryz.func162 rfl Tryz.ntmps162 (rs:= [.tmp 0]) rfl rfl fun hb LF=>?_
 rw[List.nil_append]
 refine wfm fun b=>?_
 exact⟨trivial,_,[.map b (eMap kInt vId fTab)],.cons (.tmp 0) .nil,.refl _,b,rfl,rfl⟩
def fOf (k:Int):Nat:=if k=1 then 197 else if k=2 then 198 else if k=3 then 201 else if k=4 then 202 else if k=5 then 203 else if k=6 then 205 else 206
def fdOf (c:Chg):List Sx:=if c.kind=1 then fd1 c else if c.kind=2 then fd2 c else if c.kind=3 then fd3 c else if c.kind=4 then fd4 c else if c.kind=5 then fd5 c else if c.kind=6 then fd6 c else fd7 c
theorem fdOf_len (c:Chg):(fdOf c).length≤4:=by
 unfold fdOf
 repeat' split
 all_goals simp[fd1,fd2,fd3,fd4,fd5,fd6,fd7]
theorem kinds {k:Int} (h:1≤k∧k≤7):k=1∨k=2∨k=3∨k=4∨k=5∨k=6∨k=7:=by omega
theorem fTab_get {k:Int} (h:1≤k∧k≤7):vId ((mGet k fTab).getD (.raw .nilFunc))= .raw (.func (.func (fOf k)) #[] #[]):=by
 rcases kinds h with h|h|h|h|h|h|h<;>(subst h;rfl)
theorem fOf_fun {k:Int} (h:1≤k∧k≤7):TFun Tryz.prog (fOf k):=by
 rcases kinds h with h|h|h|h|h|h|h<;>(subst h;simp only[fOf];first|exact(inferInstance:TFun Tryz.prog 197)|exact(inferInstance:TFun Tryz.prog 198)|exact(inferInstance:TFun Tryz.prog 201)|exact(inferInstance:TFun Tryz.prog 202)|exact(inferInstance:TFun Tryz.prog 203)|exact(inferInstance:TFun Tryz.prog 205)|exact(inferInstance:TFun Tryz.prog 206))
theorem fd_call (c:Chg) (h:1≤c.kind∧c.kind≤7) [hs:Small (c.lines.length≤100000∧c.over.length≤100000)]:Q.Fn Tryz.prog (fOf c.kind) [.agg (eChg c)] (.slice ((fdOf c).map eSx) .ro):=by
 unfold fOf fdOf
 by_cases h1:c.kind=1
 ·rw[if_pos h1,if_pos h1];exact(fd1_ct c).out
 by_cases h2:c.kind=2
 ·rw[if_neg h1,if_neg h1,if_pos h2,if_pos h2];exact(fd2_ct c).out
 by_cases h3:c.kind=3
 ·rw[if_neg h1,if_neg h1,if_neg h2,if_neg h2,if_pos h3,if_pos h3];exact(fd3_ct c).out
 by_cases h4:c.kind=4
 ·rw[if_neg h1,if_neg h1,if_neg h2,if_neg h2,if_neg h3,if_neg h3,if_pos h4,if_pos h4];exact(fd4_ct c).out
 by_cases h5:c.kind=5
 ·rw[if_neg h1,if_neg h1,if_neg h2,if_neg h2,if_neg h3,if_neg h3,if_neg h4,if_neg h4,if_pos h5,if_pos h5];exact(fd5_ct c).out
 by_cases h6:c.kind=6
 ·rw[if_neg h1,if_neg h1,if_neg h2,if_neg h2,if_neg h3,if_neg h3,if_neg h4,if_neg h4,if_neg h5,if_neg h5,if_pos h6,if_pos h6];exact(fd6_ct c).out
 rw[if_neg h1,if_neg h1,if_neg h2,if_neg h2,if_neg h3,if_neg h3,if_neg h4,if_neg h4,if_neg h5,if_neg h5,if_neg h6,if_neg h6];exact(fd7_ct c).out
def sChgP (c:Chg):Sx:=sList ([sNum c.kind]++fdOf c)
def sPatP (p:Pat):Sx:=sList [sAtom [113,117,105,108,116,49],sAtom p.author,sAtom p.message,sNum p.time,sList (p.deps.map fun d=>sAtom d.bs),sList (p.changes.map sChgP)]
theorem sChgP_eq {c:Chg} (h:1≤c.kind∧c.kind≤7):sChgP c=sChg c:=by
 unfold sChgP sChg sChg1 sChg2 sChg3 fdOf
 rcases kinds h with h|h|h|h|h|h|h<;>simp[h,fd1,fd2,fd3,fd4,fd5,fd6,fd7]
theorem sPatP_eq {p:Pat} (hd: ∀ d∈p.deps,d≠Dig.zero) (hk: ∀ c∈p.changes,1≤c.kind∧c.kind≤7):sPatP p=sPat p:=by
 unfold sPatP sPat
 rw[List.map_congr_left (f:=fun d:Dig=>sAtom d.bs) (g:=sDig) (fun d h=>by rw[sDig,if_neg (hd d h)]),List.map_congr_left (f:=sChgP) (g:=sChg) (fun c h=>sChgP_eq (hk c h))]
structure encOkP (p:Pat):Prop where
 ok:encOk p
 deps: ∀ d∈p.deps,d≠Dig.zero
 kinds: ∀ c∈p.changes,1≤c.kind∧c.kind≤7
set_option maxHeartbeats 2000000 in
instance encodePP_ct (p:Pat) [hs:Small (encOkP p)]:FnC Tryz.prog 116 [.agg (ePat p)] (.tuple [.str (rEnc p),.raw (.int .i64 0)]):=⟨by
 refine fn_of Tryz.func116 Tryz.ntmps116 rfl (rs:= [.tmp 2,.tmp 3]) rfl rfl fun hb LF=>?_
 have hd:=hs.out.ok.deps
 have hch:=hs.out.ok.chgs
 refine wfb fun b4=>?_
 refine s_alloc fun b5=>?_
 refine wf ?_
 refine pwp_tok 3 ?_
 refine pwp_loopS (σ:=Nat × Tag × List Sx) (fun k=>k.1≤p.deps.length∧k.2.2=(p.deps.take k.1).map fun d=>sAtom d.bs) (fun k=>p.deps.length - k.1) (fun k=> [(1,.pt (ePat p) 0),(4,.raw (.pointer (some ⟨b4,0,none⟩))),(5,.raw (.pointer (some ⟨b5,0,none⟩))),(15,.slice (p.deps.map eDig) .ro),(16,.raw (.int .i64 p.deps.length)),(17,.raw (.int .i64 k.1))]) (fun k=> .tok k.2.1 k.2.2.length 3:: .box b5 197 (lsC [] .nil):: .box b4 197 (lsC k.2.2 k.2.1)::LF) (0,.nil,[]) ⟨by simp,by simp⟩ ⟨rfl,rfl,rfl,rfl,rfl,rfl⟩ (.refl _) ?_
 rintro⟨k,v,l⟩ ⟨hk,he⟩
 dsimp only at hk he
 have hll:l.length=k:=by rw[he];simp;omega
 refine wf ?_
 refine pwp_condD (fun hc=>?_) (fun hc=>?_)
 ·have hlt:k < p.deps.length:=by omega
  have ee:(p.deps.take (k+1)).map (fun d=>sAtom d.bs)=l++ [sAtom p.deps[k].bs]:=by rw[List.take_succ_eq_append_getElem hlt,List.map_append,he];rfl
  refine wz fun b7=>?_
  refine pwp_freezeD 7 ?_
  refine wn ?_
  refine pwp_drawN 6 ?_ ?_
  ·decide+kernel
  refine wfa fun v'=>?_
  refine s_storeP (ay:= .slice ((l++ [sAtom p.deps[k].bs]).map eSx) v') (lsC (l++ [sAtom p.deps[k].bs]) v') rfl rfl Flat.out rfl (by simp) ?_
  refine wf ?_
  refine wf ?_
  exact⟨(k+1,v',l++ [sAtom p.deps[k].bs]),⟨by dsimp only;omega,ee.symm⟩,by dsimp only;omega,⟨rfl,rfl,rfl,rfl,rfl,rfl⟩,.refl _⟩
 rw[List.take_of_length_le (by omega)]at he
 clear hll
 refine wf ?_
 refine s_callR (xs:= []) [] (.tok v l.length 3:: .box b5 197 (lsC [] .nil):: .box b4 197 (lsC l v)::LF) (f:=162) (cs:= []) (le_func _) rfl rfl (.refl _) _ fieldsTab_fn fun r L1 ⟨bm,hr,hL1⟩=>?_
 subst hr
 subst hL1
 refine wo ?_
 refine pops_nil ?_
 refine pwp_freezeM [(1,.pt (ePat p) 0),(4,.raw (.pointer (some ⟨b4,0,none⟩))),(5,.raw (.pointer (some ⟨b5,0,none⟩))),(8,.fmap (eMap kInt vId fTab))] ⟨.inl rfl,.inl rfl,.inl rfl,.inr ⟨rfl,rfl⟩⟩ (.refl _) ?_
 refine wf ?_
 refine pwp_tok 3 ?_
 refine pwp_loopS (σ:=Nat × Tag × List Sx) (fun k=>k.1≤p.changes.length∧k.2.2=(p.changes.take k.1).map sChgP) (fun k=>p.changes.length - k.1) (fun k=> [(1,.pt (ePat p) 0),(4,.raw (.pointer (some ⟨b4,0,none⟩))),(5,.raw (.pointer (some ⟨b5,0,none⟩))),(8,.fmap (eMap kInt vId fTab)),(32,.slice (p.changes.map eChg) .ro),(33,.raw (.int .i64 p.changes.length)),(34,.raw (.int .i64 k.1))]) (fun k=> .tok k.2.1 k.2.2.length 3:: .box b5 197 (lsC k.2.2 k.2.1):: .box b4 197 (lsC l v)::LF) (0,.nil,[]) ⟨by simp,by simp⟩ ⟨rfl,rfl,rfl,rfl,rfl,rfl,rfl⟩ (.cons_cons _ (.cons _ (.refl _))) ?_
 rintro⟨k,u,m⟩ ⟨hk,hm⟩
 dsimp only at hk hm
 have hml:m.length=k:=by rw[hm];simp;omega
 refine wf ?_
 refine pwp_condD (fun hc=>?_) (fun hc=>?_)
 ·have hlt:k < p.changes.length:=by omega
  have ee:(p.changes.take (k+1)).map sChgP=m++ [sChgP p.changes[k]]:=by rw[List.take_succ_eq_append_getElem hlt,List.map_append,hm];rfl
  have hcc:=hs.out.ok.chg _ (List.getElem_mem hlt)
  have hkc:=hs.out.kinds _ (List.getElem_mem hlt)
  have:Small (p.changes[k].lines.length≤100000∧p.changes[k].over.length≤100000):=⟨hcc⟩
  have hfun:=fOf_fun hkc
  have hfl:=fdOf_len p.changes[k]
  refine wz fun b10=>?_
  refine pwp_freezeD 10 ?_
  refine pwp_seq ?_
  refine pwp_region (by kernel_rfl) ?_
  refine s_fldF (by rfl) (hr:=(by first|infer_instance|fail)) ?_
  refine s_loadS (by rfl) rfl ?_
  refine j_call1 (by(conv=>lhs;whnf);done) (hN0:=(by first|infer_instance|fail)) (hc:=(by first|infer_instance|fail)) ?_
  refine s_bsT1 (by(conv=>lhs;whnf);done) (hC0:=(by first|infer_instance|fail)) (hf:=(by first|infer_instance|fail)) (by decide) fun t=>?_
  refine wz fun b11=>?_
  refine wn ?_
  refine pwp_drawN 8 ?_ ?_
  ·decide+kernel
  refine wf ?_
  refine s_callV (xs:= [.tmp 49]) (f:=fOf p.changes[k].kind) (cs:= []) (by show Le (vId ((mGet p.changes[k].kind fTab).getD (.raw .nilFunc))) _;rw[fTab_get hkc];exact le_func _) rfl rfl (fd_call p.changes[k] hkc) ?_
  refine wfa fun v'=>?_
  refine s_storeP (ay:= .slice (([sNum p.changes[k].kind]++fdOf p.changes[k]).map eSx) v') (lsC ([sNum p.changes[k].kind]++fdOf p.changes[k]) v') rfl rfl Flat.out rfl (by simp) ?_
  refine wf ?_
  refine wfa fun u'=>?_
  refine s_storeP (ay:= .slice ((m++ [sChgP p.changes[k]]).map eSx) u') (lsC (m++ [sChgP p.changes[k]]) u') rfl rfl Flat.out rfl (by simp) ?_
  refine wf ?_
  exact⟨(k+1,u',m++ [sChgP p.changes[k]]),⟨by dsimp only;omega,ee.symm⟩,by dsimp only;omega,⟨rfl,rfl,rfl,rfl,rfl,rfl,rfl⟩,by dsimp only;repeat(first|exact List.Sublist.refl _|apply List.Sublist.cons_cons|apply List.Sublist.cons)⟩
 rw[List.take_of_length_le (by omega)]at hm
 have e:sPat p=sList [sAtom [113,117,105,108,116,49],sAtom p.author,sAtom p.message,sNum p.time,sList l,sList m]:=by rw[←sPatP_eq hs.out.deps hs.out.kinds,sPatP,←he,←hm]
 have i1:Small (okX (sList [sAtom [113,117,105,108,116,49],sAtom p.author,sAtom p.message,sNum p.time,sList l,sList m])∧(encX 8 (sList [sAtom [113,117,105,108,116,49],sAtom p.author,sAtom p.message,sNum p.time,sList l,sList m])).length≤1000000000):=by
  rw[←e];exact⟨hs.out.ok.ok,hs.out.ok.len⟩
 refine wf ?_
 refine end2 ?_
 rw[rEnc,e]
 exact .refl _⟩
end Go.Proofs
namespace Go.Q
open Go
section
variable {P:Program} {N:Nat} {all:Array Oper} {K:Env→List Res→Prop} {fl:List Bool} {os:List Oper} {ρ:Env} {L:List Res} {Q:PPost} {c:Code} {d:Nat} {ty:TypeId} {pos:String} {af:Array Edge}
theorem s_indexBL {T n E sz by_:Nat} [hT:TArr P T n E] [hE:TSz P E sz by_] {x y:Operand} {b off:Nat} {kk:IntKind} {i:Nat} (hx:ρ.ev x= .raw (.pointer (some ⟨b,off,none⟩))) (hy:ρ.ev y= .raw (.int kk (@OfNat.ofNat Int i _))) (hi:i < n)
  (k:pops P N all K fl.tail os (upd ρ d (.raw (.pointer (some ⟨b,off+(@OfNat.ofNat Nat i _)*sz,none⟩)))) L) (hd:Nat.blt d N=true:=by rfl):pops P N all K fl (⟨some d,.indexAddr T x y,ty,pos,af,none⟩::os) ρ L:=
 s_indexB (i:=i) hx hy hi k hd
theorem s_indexBI {T n E sz by_:Nat} [hT:TArr P T n E] [hE:TSz P E sz by_] {x y:Operand} {b off:Nat} {kk:IntKind} {i:Int} (hx:ρ.ev x= .raw (.pointer (some ⟨b,off,none⟩))) (hy:ρ.ev y= .raw (.int kk i)) (h0:0≤i) (hi:i.toNat < n)
  (k:pops P N all K fl.tail os (upd ρ d (.raw (.pointer (some ⟨b,off+i.toNat*sz,none⟩)))) L) (hd:Nat.blt d N=true:=by rfl):pops P N all K fl (⟨some d,.indexAddr T x y,ty,pos,af,none⟩::os) ρ L:=
 s_indexB (i:=i.toNat) hx (by rw[hy,Int.toNat_of_nonneg h0]) hi k hd
theorem s_indexSI {T:TypeId} [hT:TStr P T] {x y:Operand} {s:Str} {ax:PV} {kk:IntKind} {n:Int} (hx:ρ.ev x=ax) [jx:IsStr ax s] (hy:ρ.ev y= .raw (.int kk n)) (h0:0≤n) (hn:n.toNat < s.length) (k:pops P N all K fl.tail os (upd ρ d (.raw (.int .u8 ((s.getD n.toNat 0).toNat:Int)))) L) (hd:Nat.blt d N=true:=by rfl):
  pops P N all K fl (⟨some d,.index T x y,ty,pos,af,none⟩::os) ρ L:=
 s_indexS (n:=n.toNat) hx (by rw[hy,Int.toNat_of_nonneg h0]) hn (by have e:s[n.toNat]=s.getD n.toNat 0:=by simp[List.getD,hn]
                                                                    rw[e];exact k) hd
theorem s_buildWe {T n E by_:Nat} {z:List PV} [hT:TArr P T n E] [hE:TSz P E 1 by_] [hZ:ZeroE P T z] {parts:Array (Nat × Operand)} (xs:List Operand) (ws:List Nat) (hp:parts=(xs.zipIdx.map fun p=>(p.2,p.1)).toArray) (hx:xs.map ρ.ev=eW ws) (hz:z.length=ws.length) (hn:xs.length=ws.length)
  (k:pops P N all K fl.tail os (upd ρ d (.agg (eW ws))) L) (hd:Nat.blt d N=true:=by rfl):pops P N all K fl (⟨some d,.build T parts,ty,pos,af,none⟩::os) ρ L:=by
 subst hp;exact s_buildW ws hx hz hn k hd
theorem s_quoL {T T':TypeId} {x y:Operand} {m n:Nat} (hx:ρ.ev x= .raw (.int .i64 (m:Int))) (hy:ρ.ev y= .raw (.int .i64 (@OfNat.ofNat Int n _))) (hn:n≠0) (hm:m≤9223372036854775807) (k:pops P N all K fl.tail os (upd ρ d (.raw (.int .i64 ((m / (@OfNat.ofNat Nat n _):Nat):Int)))) L) (hd:Nat.blt d N=true:=by rfl):
  pops P N all K fl (⟨some d,.binOp .quo T x y T',ty,pos,af,none⟩::os) ρ L:=s_quo (n:=n) hx hy hn hm k hd
theorem s_remL {T T':TypeId} {x y:Operand} {m n:Nat} (hx:ρ.ev x= .raw (.int .i64 (m:Int))) (hy:ρ.ev y= .raw (.int .i64 (@OfNat.ofNat Int n _))) (hn:n≠0) (k:pops P N all K fl.tail os (upd ρ d (.raw (.int .i64 ((m % (@OfNat.ofNat Nat n _):Nat):Int)))) L) (hd:Nat.blt d N=true:=by rfl):
  pops P N all K fl (⟨some d,.binOp .rem T x y T',ty,pos,af,none⟩::os) ρ L:=s_rem (n:=n) hx hy hn k hd
theorem walkW {A B:Prop} (k:B) (h:Wrap B→A:=by
  intro hB
  repeat(first
   |refine pops_nil ?_
   |(refine g_move ?_;first|refine s_moveN (by(conv=>lhs;whnf);done) ?_)
   |(refine g_assign ?_;first|refine s_assignN (by(conv=>lhs;whnf);done) ?_)
   |(refine g_load ?_;first|refine s_loadW (by rfl) (by repeat(first|exact List.mem_cons_self|apply List.mem_cons_of_mem)) (by omega) ?_|refine s_loadBL (by rfl) (by repeat(first|exact List.mem_cons_self|apply List.mem_cons_of_mem)) (hl:=(by first|infer_instance|fail)) ?_|refine s_loadD (by rfl) (by repeat(first|exact List.mem_cons_self|apply List.mem_cons_of_mem)) (by omega) ?_)
   |(refine g_fld ?_;first|refine s_fldF (by rfl) (hr:=(by first|infer_instance|fail)) ?_|refine s_fldBq (by rfl) (by(conv=>lhs;whnf);done) ?_)
   |(refine g_len ?_;first|refine s_lenM (by rfl) ?_|refine s_lenS (by(conv=>lhs;whnf);done) (jx:=(by first|infer_instance|fail)) ?_|refine s_len (by rfl) ?_)
   |(refine g_call ?_;first|refine j_call1 (by(conv=>lhs;whnf);done) (hN0:=(by first|infer_instance|fail)) (hc:=(by first|infer_instance|fail)) ?_|refine j_call2 (by(conv=>lhs;whnf);done) (by(conv=>lhs;whnf);done) (hN0:=(by first|infer_instance|fail)) (hN1:=(by first|infer_instance|fail)) (hc:=(by first|infer_instance|fail)) ?_|refine j_call3 (by(conv=>lhs;whnf);done) (by(conv=>lhs;whnf);done) (by(conv=>lhs;whnf);done) (hN0:=(by first|infer_instance|fail)) (hN1:=(by first|infer_instance|fail)) (hN2:=(by first|infer_instance|fail)) (hc:=(by first|infer_instance|fail)) ?_|refine j_call0 (hc:=(by first|infer_instance|fail)) ?_|refine j_call4 (by(conv=>lhs;whnf);done) (by(conv=>lhs;whnf);done) (by(conv=>lhs;whnf);done) (by(conv=>lhs;whnf);done) (hN0:=(by first|infer_instance|fail)) (hN1:=(by first|infer_instance|fail)) (hN2:=(by first|infer_instance|fail)) (hN3:=(by first|infer_instance|fail)) (hc:=(by first|infer_instance|fail)) ?_|refine j_call5 (by(conv=>lhs;whnf);done) (by(conv=>lhs;whnf);done) (by(conv=>lhs;whnf);done) (by(conv=>lhs;whnf);done) (by(conv=>lhs;whnf);done) (hN0:=(by first|infer_instance|fail)) (hN1:=(by first|infer_instance|fail)) (hN2:=(by first|infer_instance|fail)) (hN3:=(by first|infer_instance|fail)) (hN4:=(by first|infer_instance|fail)) (hc:=(by first|infer_instance|fail)) ?_|refine j_call6 (by(conv=>lhs;whnf);done) (by(conv=>lhs;whnf);done) (by(conv=>lhs;whnf);done) (by(conv=>lhs;whnf);done) (by(conv=>lhs;whnf);done) (by(conv=>lhs;whnf);done) (hN0:=(by first|infer_instance|fail)) (hN1:=(by first|infer_instance|fail)) (hN2:=(by first|infer_instance|fail)) (hN3:=(by first|infer_instance|fail)) (hN4:=(by first|infer_instance|fail)) (hN5:=(by first|infer_instance|fail)) (hc:=(by first|infer_instance|fail)) ?_)
   |(refine g_bi ?_;first|refine s_min (by rfl) (by rfl) ?_|refine s_max (by rfl) (by rfl) ?_)
   |(refine g_bin ?_;first|refine s_lss (by rfl) (by rfl) ?_|refine s_leq (by rfl) (by rfl) ?_|refine s_geq (by rfl) (by rfl) ?_|refine s_add (by rfl) (by rfl) (by constructor<;>omega) ?_|refine s_sub (by rfl) (by rfl) (by constructor<;>omega) ?_|refine s_cat (by(conv=>lhs;whnf);done) (by(conv=>lhs;whnf);done) (jx:=(by first|infer_instance|fail)) (jy:=(by first|infer_instance|fail)) (by first|omega|(simp only[List.length_append,List.length_cons,List.length_nil,Nat.zero_add];omega)) ?_|refine s_mul (by rfl) (by rfl) (by constructor<;>omega) ?_|refine s_addW (by rfl) (by rfl) ?_|refine s_xorW (by rfl) (by rfl) ?_|refine s_andW (by rfl) (by rfl) ?_|refine s_orW (by rfl) (by rfl) ?_|refine s_shrW (by rfl) (by rfl) ?_|refine s_shlW (by rfl) (by rfl) ?_|refine s_shrU (by rfl) (by rfl) ?_|refine s_subU (by rfl) (by rfl) (by omega) (by omega) ?_|refine s_mulU (by rfl) (by rfl) (by omega) ?_|refine s_quoL (by rfl) (by rfl) (by decide) (by omega) ?_|refine s_remL (by rfl) (by rfl) (by decide) ?_)
   |(refine g_ix ?_;first|refine s_indexBL (by rfl) (by rfl) (by decide) ?_|refine s_indexB (by rfl) (by rfl) (by omega) ?_|refine s_indexBI (by rfl) (by rfl) (by omega) (by omega) ?_)
   |(refine g_un ?_;first|refine s_not (by rfl) ?_|refine s_neg (by rfl) (by constructor<;>omega) ?_|refine s_notW (by rfl) ?_)
   |(refine g_store ?_;first|refine s_storeX (by rfl) (by rfl) (hB:=(by first|infer_instance|fail)) (hu:=(by first|infer_instance|fail)) (hf:=(by first|infer_instance|fail)) (hlen:=(by first|infer_instance|fail)) (hcs:=(by first|infer_instance|fail)) ?_|refine s_storeW32 (by rfl) (by rfl) (by repeat(first|exact List.mem_cons_self|apply List.mem_cons_of_mem)) (by omega) (hu:=(by first|infer_instance|fail)) ?_|refine s_storeD (by rfl) (by rfl) (by repeat(first|exact List.mem_cons_self|apply List.mem_cons_of_mem)) (by omega) (hu:=(by first|infer_instance|fail)) ?_)
   |(refine g_bs ?_;first|refine s_bs0 ?_|refine s_bs1 (by(conv=>lhs;whnf);done) (hC0:=(by first|infer_instance|fail)) (hf:=(by first|infer_instance|fail)) (by decide) ?_)
   |(refine g_build ?_;first|refine s_build0 ?_|refine s_buildA0 ?_)
   |(refine g_slice ?_;first|refine s_cutL (by rfl) (by rfl) (by omega) ?_|refine s_cutH (by rfl) (by rfl) (by omega) ?_|refine s_cutS (by(conv=>lhs;whnf);done) (by rfl) (by rfl) (jx:=(by first|infer_instance|fail)) (by omega) (by omega) (by omega) ?_|refine s_cutSL (by(conv=>lhs;whnf);done) (by rfl) (jx:=(by first|infer_instance|fail)) (by omega) (by omega) ?_|refine s_sliceD (by rfl) ?_)
   |(refine g_conv ?_;first|refine s_convB (by rfl) ?_|refine s_convW (by rfl) ?_|refine s_convU (by rfl) (by omega) ?_|refine s_strB (by rfl) ?_|refine s_strBox (by rfl) (by repeat(first|exact List.mem_cons_self|apply List.mem_cons_of_mem)) (hs:=(by first|infer_instance|fail)) ?_)
   |(refine g_index ?_;first|refine s_indexSI (by(conv=>lhs;whnf);done) (by rfl) (jx:=(by first|infer_instance|fail)) (by omega) (by omega) ?_)
   |refine pwp_seq ?_
   |refine pwp_region (by kernel_rfl) ?_
   |refine pwp_block ?_
   |refine pwp_skip ?_
   |refine pwp_ret ?_
   |refine pwp_exit ?_
   |refine pwp_drawQ (by decide+kernel) ?_
   |refine pwp_condT (by rfl) ?_
   |refine pwp_condF (by rfl) ?_)
  exact hB.out):A:=h ⟨k⟩
theorem walkWp {A B:Prop} (k:B) (h:Wrap B→A:=by
  intro hB
  refine walkW ?_
  exact hB.out):A:=h ⟨k⟩
theorem walkWb {A:Prop} {B:Nat→Prop} (k: ∀ b,B b) (h:WrapF B→A:=by
  intro hB
  refine walkW ?_
  first|refine s_box (by rfl) fun b=>?_|refine s_alloc fun b=>?_
  refine walkW ?_
  exact hB.out b):A:=h ⟨k⟩
theorem walkWbp {A:Prop} {B:Nat→Prop} (k: ∀ b,B b) (h:WrapF B→A:=by
  intro hB
  refine walkWb fun b=>?_
  exact hB.out b):A:=h ⟨k⟩
theorem walkWn {A B:Prop} (k:B) (h:Wrap B→A:=by
  intro hB
  repeat(first
   |refine pops_nil ?_
   |(refine g_move ?_;first|refine s_moveN (by(conv=>lhs;whnf);done) ?_)
   |(refine g_assign ?_;first|refine s_assignN (by(conv=>lhs;whnf);done) ?_)
   |(refine g_load ?_;first|refine s_loadW (by rfl) (by repeat(first|exact List.mem_cons_self|apply List.mem_cons_of_mem)) (by omega) ?_|refine s_loadBL (by rfl) (by repeat(first|exact List.mem_cons_self|apply List.mem_cons_of_mem)) (hl:=(by first|infer_instance|fail)) ?_|refine s_loadD (by rfl) (by repeat(first|exact List.mem_cons_self|apply List.mem_cons_of_mem)) (by omega) ?_)
   |(refine g_fld ?_;first|refine s_fldF (by rfl) (hr:=(by first|infer_instance|fail)) ?_|refine s_fldBq (by rfl) (by(conv=>lhs;whnf);done) ?_)
   |(refine g_len ?_;first|refine s_lenM (by rfl) ?_|refine s_lenS (by(conv=>lhs;whnf);done) (jx:=(by first|infer_instance|fail)) ?_|refine s_len (by rfl) ?_)
   |(refine g_call ?_;first|refine j_call1 (by(conv=>lhs;whnf);done) (hN0:=(by first|infer_instance|fail)) (hc:=(by first|infer_instance|fail)) ?_|refine j_call2 (by(conv=>lhs;whnf);done) (by(conv=>lhs;whnf);done) (hN0:=(by first|infer_instance|fail)) (hN1:=(by first|infer_instance|fail)) (hc:=(by first|infer_instance|fail)) ?_|refine j_call3 (by(conv=>lhs;whnf);done) (by(conv=>lhs;whnf);done) (by(conv=>lhs;whnf);done) (hN0:=(by first|infer_instance|fail)) (hN1:=(by first|infer_instance|fail)) (hN2:=(by first|infer_instance|fail)) (hc:=(by first|infer_instance|fail)) ?_|refine j_call0 (hc:=(by first|infer_instance|fail)) ?_|refine j_call4 (by(conv=>lhs;whnf);done) (by(conv=>lhs;whnf);done) (by(conv=>lhs;whnf);done) (by(conv=>lhs;whnf);done) (hN0:=(by first|infer_instance|fail)) (hN1:=(by first|infer_instance|fail)) (hN2:=(by first|infer_instance|fail)) (hN3:=(by first|infer_instance|fail)) (hc:=(by first|infer_instance|fail)) ?_|refine j_call5 (by(conv=>lhs;whnf);done) (by(conv=>lhs;whnf);done) (by(conv=>lhs;whnf);done) (by(conv=>lhs;whnf);done) (by(conv=>lhs;whnf);done) (hN0:=(by first|infer_instance|fail)) (hN1:=(by first|infer_instance|fail)) (hN2:=(by first|infer_instance|fail)) (hN3:=(by first|infer_instance|fail)) (hN4:=(by first|infer_instance|fail)) (hc:=(by first|infer_instance|fail)) ?_|refine j_call6 (by(conv=>lhs;whnf);done) (by(conv=>lhs;whnf);done) (by(conv=>lhs;whnf);done) (by(conv=>lhs;whnf);done) (by(conv=>lhs;whnf);done) (by(conv=>lhs;whnf);done) (hN0:=(by first|infer_instance|fail)) (hN1:=(by first|infer_instance|fail)) (hN2:=(by first|infer_instance|fail)) (hN3:=(by first|infer_instance|fail)) (hN4:=(by first|infer_instance|fail)) (hN5:=(by first|infer_instance|fail)) (hc:=(by first|infer_instance|fail)) ?_)
   |(refine g_bi ?_;first|refine s_min (by rfl) (by rfl) ?_|refine s_max (by rfl) (by rfl) ?_)
   |(refine g_bin ?_;first|refine s_lss (by rfl) (by rfl) ?_|refine s_leq (by rfl) (by rfl) ?_|refine s_geq (by rfl) (by rfl) ?_|refine s_add (by rfl) (by rfl) (by constructor<;>omega) ?_|refine s_sub (by rfl) (by rfl) (by constructor<;>omega) ?_|refine s_cat (by(conv=>lhs;whnf);done) (by(conv=>lhs;whnf);done) (jx:=(by first|infer_instance|fail)) (jy:=(by first|infer_instance|fail)) (by first|omega|(simp only[List.length_append,List.length_cons,List.length_nil,Nat.zero_add];omega)) ?_|refine s_mul (by rfl) (by rfl) (by constructor<;>omega) ?_|refine s_addW (by rfl) (by rfl) ?_|refine s_xorW (by rfl) (by rfl) ?_|refine s_andW (by rfl) (by rfl) ?_|refine s_orW (by rfl) (by rfl) ?_|refine s_shrW (by rfl) (by rfl) ?_|refine s_shlW (by rfl) (by rfl) ?_|refine s_shrU (by rfl) (by rfl) ?_|refine s_subU (by rfl) (by rfl) (by omega) (by omega) ?_|refine s_mulU (by rfl) (by rfl) (by omega) ?_|refine s_quoL (by rfl) (by rfl) (by decide) (by omega) ?_|refine s_remL (by rfl) (by rfl) (by decide) ?_)
   |(refine g_ix ?_;first|refine s_indexBL (by rfl) (by rfl) (by decide) ?_|refine s_indexB (by rfl) (by rfl) (by omega) ?_|refine s_indexBI (by rfl) (by rfl) (by omega) (by omega) ?_)
   |(refine g_un ?_;first|refine s_not (by rfl) ?_|refine s_neg (by rfl) (by constructor<;>omega) ?_|refine s_notW (by rfl) ?_)
   |(refine g_store ?_;first|refine s_storeX (by rfl) (by rfl) (hB:=(by first|infer_instance|fail)) (hu:=(by first|infer_instance|fail)) (hf:=(by first|infer_instance|fail)) (hlen:=(by first|infer_instance|fail)) (hcs:=(by first|infer_instance|fail)) ?_|refine s_storeW32 (by rfl) (by rfl) (by repeat(first|exact List.mem_cons_self|apply List.mem_cons_of_mem)) (by omega) (hu:=(by first|infer_instance|fail)) ?_|refine s_storeD (by rfl) (by rfl) (by repeat(first|exact List.mem_cons_self|apply List.mem_cons_of_mem)) (by omega) (hu:=(by first|infer_instance|fail)) ?_)
   |(refine g_bs ?_;first|refine s_bs0 ?_|refine s_bs1 (by(conv=>lhs;whnf);done) (hC0:=(by first|infer_instance|fail)) (hf:=(by first|infer_instance|fail)) (by decide) ?_)
   |(refine g_build ?_;first|refine s_build0 ?_|refine s_buildA0 ?_)
   |(refine g_slice ?_;first|refine s_cutL (by rfl) (by rfl) (by omega) ?_|refine s_cutH (by rfl) (by rfl) (by omega) ?_|refine s_cutS (by(conv=>lhs;whnf);done) (by rfl) (by rfl) (jx:=(by first|infer_instance|fail)) (by omega) (by omega) (by omega) ?_|refine s_cutSL (by(conv=>lhs;whnf);done) (by rfl) (jx:=(by first|infer_instance|fail)) (by omega) (by omega) ?_|refine s_sliceD (by rfl) ?_)
   |(refine g_conv ?_;first|refine s_convB (by rfl) ?_|refine s_convW (by rfl) ?_|refine s_convU (by rfl) (by omega) ?_|refine s_strB (by rfl) ?_|refine s_strBox (by rfl) (by repeat(first|exact List.mem_cons_self|apply List.mem_cons_of_mem)) (hs:=(by first|infer_instance|fail)) ?_)
   |(refine g_index ?_;first|refine s_indexSI (by(conv=>lhs;whnf);done) (by rfl) (jx:=(by first|infer_instance|fail)) (by omega) (by omega) ?_)
   |refine pwp_seq ?_
   |refine pwp_region (by kernel_rfl) ?_
   |refine pwp_block ?_
   |refine pwp_skip ?_
   |refine pwp_ret ?_
   |refine pwp_exit ?_
   |refine pwp_condT (by rfl) ?_
   |refine pwp_condF (by rfl) ?_)
  exact hB.out):A:=h ⟨k⟩
theorem walkWnp {A B:Prop} (k:B) (h:Wrap B→A:=by
  intro hB
  refine walkWn ?_
  exact hB.out):A:=h ⟨k⟩
end
end Go.Q
namespace Go.Proofs
open Go Go.Q
attribute [local irreducible] pwp pops PCalls OpN
def rotW (a n:Nat):Nat:=orW (shrW a n) (shlW a (32 - n))
instance rotate_ct (a n:Nat) [hs:Small (n≤32)]:FnC Tryz.prog 187 [.raw (.int .u32 (a:Int)),.raw (.int .u64 (n:Int))] (.raw (.int .u32 (rotW a n:Nat))):=⟨by
 refine fn_of Tryz.func187 Tryz.ntmps187 rfl (rs:= [.tmp 4]) rfl rfl fun hb LF=>?_
 have hn:=hs.out
 refine walkW ?_
 refine s_subU (a:=32) (by rfl) (by rfl) hn (by decide) ?_
 refine walkWp ?_
 refine end1 (.of_eq ?_)
 rfl⟩
instance rot2_ct (a:Nat):FnC Tryz.prog 187 [.raw (.int .u32 (a:Int)),.raw (.int .u64 2)] (.raw (.int .u32 (rotW a 2:Nat))):=by
 have:Small ((2:Nat)≤32):=⟨by decide⟩
 exact rotate_ct a 2
instance rot6_ct (a:Nat):FnC Tryz.prog 187 [.raw (.int .u32 (a:Int)),.raw (.int .u64 6)] (.raw (.int .u32 (rotW a 6:Nat))):=by
 have:Small ((6:Nat)≤32):=⟨by decide⟩
 exact rotate_ct a 6
instance rot7_ct (a:Nat):FnC Tryz.prog 187 [.raw (.int .u32 (a:Int)),.raw (.int .u64 7)] (.raw (.int .u32 (rotW a 7:Nat))):=by
 have:Small ((7:Nat)≤32):=⟨by decide⟩
 exact rotate_ct a 7
instance rot11_ct (a:Nat):FnC Tryz.prog 187 [.raw (.int .u32 (a:Int)),.raw (.int .u64 11)] (.raw (.int .u32 (rotW a 11:Nat))):=by
 have:Small ((11:Nat)≤32):=⟨by decide⟩
 exact rotate_ct a 11
instance rot13_ct (a:Nat):FnC Tryz.prog 187 [.raw (.int .u32 (a:Int)),.raw (.int .u64 13)] (.raw (.int .u32 (rotW a 13:Nat))):=by
 have:Small ((13:Nat)≤32):=⟨by decide⟩
 exact rotate_ct a 13
instance rot17_ct (a:Nat):FnC Tryz.prog 187 [.raw (.int .u32 (a:Int)),.raw (.int .u64 17)] (.raw (.int .u32 (rotW a 17:Nat))):=by
 have:Small ((17:Nat)≤32):=⟨by decide⟩
 exact rotate_ct a 17
instance rot18_ct (a:Nat):FnC Tryz.prog 187 [.raw (.int .u32 (a:Int)),.raw (.int .u64 18)] (.raw (.int .u32 (rotW a 18:Nat))):=by
 have:Small ((18:Nat)≤32):=⟨by decide⟩
 exact rotate_ct a 18
instance rot19_ct (a:Nat):FnC Tryz.prog 187 [.raw (.int .u32 (a:Int)),.raw (.int .u64 19)] (.raw (.int .u32 (rotW a 19:Nat))):=by
 have:Small ((19:Nat)≤32):=⟨by decide⟩
 exact rotate_ct a 19
instance rot22_ct (a:Nat):FnC Tryz.prog 187 [.raw (.int .u32 (a:Int)),.raw (.int .u64 22)] (.raw (.int .u32 (rotW a 22:Nat))):=by
 have:Small ((22:Nat)≤32):=⟨by decide⟩
 exact rotate_ct a 22
instance rot25_ct (a:Nat):FnC Tryz.prog 187 [.raw (.int .u32 (a:Int)),.raw (.int .u64 25)] (.raw (.int .u32 (rotW a 25:Nat))):=by
 have:Small ((25:Nat)≤32):=⟨by decide⟩
 exact rotate_ct a 25
theorem foldl_range_succ {α:Type} (f:α→Nat→α) (a:α) (k:Nat):(List.range (k+1)).foldl f a=f ((List.range k).foldl f a) k:=by
 rw[List.range_succ,List.foldl_append];rfl
instance zeros_ct (n:Int) [hs:Small (0≤n∧n≤1000)]:FnC Tryz.prog 184 [.raw (.int .i64 n)] (.str (List.replicate n.toNat 0)):=⟨by
 refine fn_of Tryz.func184 Tryz.ntmps184 rfl (rs:= [.tmp 2]) rfl rfl fun hb LF=>?_
 obtain⟨h0,h1⟩:=hs.out
 refine walk ?_
 refine pwp_loopS (σ:=Nat × Str) (fun k=>k.1≤n.toNat∧k.2=List.replicate k.1 0) (fun k=>n.toNat - k.1) (fun k=> [(0,.raw (.int .i64 n)),(3,.str k.2),(4,.raw (.int .i64 k.1))]) (fun _=>LF) (0,[]) ⟨by simp,by simp⟩ ⟨rfl,rfl,rfl⟩ (.refl _) ?_
 rintro⟨k,s⟩ ⟨hk,he⟩
 dsimp only at hk he
 have hl:s.length=k:=by rw[he];simp
 refine walk ?_
 refine pwp_condD (fun hc=>?_) (fun hc=>?_)
 ·refine walk ?_
  refine⟨(k+1,s++ [0]),⟨by dsimp only;omega,by dsimp only;rw[he,List.replicate_succ']⟩,by dsimp only;omega,⟨rfl,rfl,rfl⟩,.refl _⟩
 ·refine walk ?_
  refine end1 (.of_eq ?_)
  rw[he,show k=n.toNat by omega]⟩
def padTail (bits:Nat) (j:Nat):Str:=(List.range j).map fun i=>UInt8.ofNat (bits / 2 ^ (min (8*(7 - i)) 64))
def rPad (s:Str):Str:=(s++ [128])++List.replicate ((120 - (s.length+1) % 64) % 64) 0++padTail (s.length*8) 8
theorem rPad_len (s:Str):(rPad s).length=s.length+1+(120 - (s.length+1) % 64) % 64+8:=by simp[rPad,padTail];omega
set_option maxHeartbeats 1000000 in
instance padded_ct (s:Str) [hs:Small (s.length≤1000000)]:FnC Tryz.prog 144 [.str s] (.str (rPad s)):=⟨by
 refine fn_of Tryz.func144 Tryz.ntmps144 rfl (rs:= [.tmp 2]) rfl rfl fun hb LF=>?_
 have hl:=hs.out
 have e1:(((120:Int) - (((s++ [128]).length % 64:Nat):Int)).tmod 64)=(((120 - (s.length+1) % 64) % 64:Nat):Int):=by
  rw[List.length_append,List.length_singleton]
  have:(120:Int) - (((s.length+1) % 64:Nat):Int)=((120 - (s.length+1) % 64:Nat):Int):=by omega
  rw[this];exact(Int.ofNat_tmod _ _).symm
 have i1:Small (0≤(((120 - (s.length+1) % 64) % 64:Nat):Int)∧(((120 - (s.length+1) % 64) % 64:Nat):Int)≤1000):=⟨by omega,by omega⟩
 refine walk ?_
 refine s_remL (by rfl) (by rfl) (by decide) ?_
 refine walkp ?_
 refine s_int (v:= .int .i64 (((120 - (s.length+1) % 64) % 64:Nat):Int)) (by rfl) (by rfl) (fun w=>?_) ?_
 ·have h3:(64:Int)≠0:=by decide
  simp only[binOp,ne_eq,not_true_eq_false,if_false,Op.intDiv,h3,e1];rfl
 have hz:(List.replicate (((120 - (s.length+1) % 64) % 64:Nat):Int).toNat (0:UInt8)).length=(120 - (s.length+1) % 64) % 64:=by rw[List.length_replicate];omega
 refine walkp ?_
 refine s_mulU (b:=8) (by rfl) (by rfl) (by omega) ?_
 refine walkp ?_
 refine pwp_loopS (σ:=Nat × Str) (fun k=>k.1≤8∧k.2=(s++ [128])++List.replicate ((120 - (s.length+1) % 64) % 64) 0++padTail (s.length*8) k.1) (fun k=>8 - k.1) (fun k=> [(3,.str k.2),(4,.raw (.int .u64 ((s.length*8:Nat):Int))),(5,.raw (.int .i64 (7 - (k.1:Int))))]) (fun _=>LF) (0,(s++ [128])++List.replicate ((120 - (s.length+1) % 64) % 64) 0) ⟨by simp,by simp[padTail]⟩ ⟨rfl,rfl,rfl⟩ (.refl _) ?_
 rintro⟨k,o⟩ ⟨hk,he⟩
 dsimp only at hk he
 have hol:o.length≤1000100:=by rw[he];simp[padTail];omega
 refine walk ?_
 refine pwp_condD (fun hc=>?_) (fun hc=>?_)
 ·refine walk ?_
  have e8:(8:Int)*(7 - (k:Int))=((8*(7 - k):Nat):Int):=by omega
  refine s_convU (a:=8*(7 - k)) (by show PV.raw (.int .i64 ((8:Int)*(7 - (k:Int))))=_;rw[e8]) (by omega) ?_
  refine walkp ?_
  refine⟨(k+1,o++ [UInt8.ofNat (s.length*8 / 2 ^ (min (8*(7 - k)) 64))]),⟨by dsimp only;omega,?_⟩,by dsimp only;omega,⟨rfl,rfl,?_⟩,.refl _⟩
  ·dsimp only
   rw[he,padTail,padTail,List.range_succ,List.map_append,←List.append_assoc];rfl
  ·show PV.raw (Value.int .i64 _)=PV.raw (Value.int .i64 _)
   congr 2;dsimp only;omega
 ·refine walk ?_
  refine end1 (.of_eq ?_)
  rw[he,show k=8 by omega,rPad]⟩
end Go.Proofs
namespace Go.Proofs
open Go Go.Q
attribute [local irreducible] pwp pops PCalls OpN
def rK:List Nat:= [1116352408,1899447441,3049323471,3921009573,961987163,1508970993,2453635748,2870763221,3624381080,310598401,607225278,1426881987,1925078388,2162078206,2614888103,3248222580,3835390401,4022224774,264347078,604807628,770255983,1249150122,1555081692,1996064986,2554220882,2821834349,2952996808,3210313671,3336571891,3584528711,113926993,338241895,666307205,773529912,1294757372,1396182291,1695183700,1986661051,2177026350,2456956037,2730485921,2820302411,3259730800,3345764771,3516065817,3600352804,4094571909,275423344,430227734,506948616,659060556,883997877,958139571,1322822218,1537002063,1747873779,1955562222,2024104815,2227730452,2361852424,2428436474,2756734187,3204031479,3329325298]
instance constants_ct:FnC Tryz.prog 186 [] (.agg (eW rK)):=⟨by
 refine fn_of Tryz.func186 Tryz.ntmps186 rfl (rs:= [.cell 0 211]) rfl rfl fun hb LF=>?_
 refine walkWb fun b=>?_
 refine s_buildWe [.const (.int .u32 1116352408),.const (.int .u32 1899447441),.const (.int .u32 3049323471),.const (.int .u32 3921009573),.const (.int .u32 961987163),.const (.int .u32 1508970993),.const (.int .u32 2453635748),.const (.int .u32 2870763221),.const (.int .u32 3624381080),.const (.int .u32 310598401),.const (.int .u32 607225278),.const (.int .u32 1426881987),.const (.int .u32 1925078388),.const (.int .u32 2162078206),.const (.int .u32 2614888103),.const (.int .u32 3248222580),.const (.int .u32 3835390401),.const (.int .u32 4022224774),.const (.int .u32 264347078),.const (.int .u32 604807628),.const (.int .u32 770255983),.const (.int .u32 1249150122),.const (.int .u32 1555081692),.const (.int .u32 1996064986),.const (.int .u32 2554220882),.const (.int .u32 2821834349),.const (.int .u32 2952996808),.const (.int .u32 3210313671),.const (.int .u32 3336571891),.const (.int .u32 3584528711),.const (.int .u32 113926993),.const (.int .u32 338241895),.const (.int .u32 666307205),.const (.int .u32 773529912),.const (.int .u32 1294757372),.const (.int .u32 1396182291),.const (.int .u32 1695183700),.const (.int .u32 1986661051),.const (.int .u32 2177026350),.const (.int .u32 2456956037),.const (.int .u32 2730485921),.const (.int .u32 2820302411),.const (.int .u32 3259730800),.const (.int .u32 3345764771),.const (.int .u32 3516065817),.const (.int .u32 3600352804),.const (.int .u32 4094571909),.const (.int .u32 275423344),.const (.int .u32 430227734),.const (.int .u32 506948616),.const (.int .u32 659060556),.const (.int .u32 883997877),.const (.int .u32 958139571),.const (.int .u32 1322822218),.const (.int .u32 1537002063),.const (.int .u32 1747873779),.const (.int .u32 1955562222),.const (.int .u32 2024104815),.const (.int .u32 2227730452),.const (.int .u32 2361852424),.const (.int .u32 2428436474),.const (.int .u32 2756734187),.const (.int .u32 3204031479),.const (.int .u32 3329325298)] rK rfl rfl rfl rfl ?_
 have i1:LenIs (eW rK) 64:=⟨rfl⟩
 have i2:LenIs (eW (List.replicate 64 0)) 64:=⟨rfl⟩
 refine walkWp ?_
 exact endC rfl (.refl _) (hn:=(rfl:(eW rK).length=64))⟩
def rWord (b:Str) (t:Nat):Nat:=orW (orW (orW (shlW ((b.getD (4*(t:Int)).toNat 0).toNat % 4294967296) 24) (shlW ((b.getD (4*(t:Int)+1).toNat 0).toNat % 4294967296) 16)) (shlW ((b.getD (4*(t:Int)+2).toNat 0).toNat % 4294967296) 8)) ((b.getD (4*(t:Int)+3).toNat 0).toNat % 4294967296)
def rSched1 (b:Str) (w:List Nat) (t:Nat):List Nat:=w.set t (rWord b t)
def rSigma (w:List Nat) (t:Nat):Nat:=
 let x:=w.getD (t+1) 0
 let y:=w.getD (t+14) 0
 addW (addW (addW (xorW (xorW (rotW y 17) (rotW y 19)) (shrW y 10)) (w.getD (t+9) 0)) (xorW (xorW (rotW x 7) (rotW x 18)) (shrW x 3))) (w.getD t 0)
theorem rSigma_int (v:List Nat) (k:Nat):rSigma v k=addW (addW (addW (xorW (xorW (rotW (v.getD (((k+16:Nat):Int) - 2).toNat 0) 17) (rotW (v.getD (((k+16:Nat):Int) - 2).toNat 0) 19)) (shrW (v.getD (((k+16:Nat):Int) - 2).toNat 0) 10)) (v.getD (((k+16:Nat):Int) - 7).toNat 0)) (xorW (xorW (rotW (v.getD (((k+16:Nat):Int) - 15).toNat 0) 7) (rotW (v.getD (((k+16:Nat):Int) - 15).toNat 0) 18)) (shrW (v.getD (((k+16:Nat):Int) - 15).toNat 0) 3))) (v.getD (((k+16:Nat):Int) - 16).toNat 0):=by
 have e2:(((k+16:Nat):Int) - 2).toNat=k+14:=by omega
 have e7:(((k+16:Nat):Int) - 7).toNat=k+9:=by omega
 have e15:(((k+16:Nat):Int) - 15).toNat=k+1:=by omega
 have e16:(((k+16:Nat):Int) - 16).toNat=k:=by omega
 rw[e2,e7,e15,e16];rfl
def rSched2 (w:List Nat) (t:Nat):List Nat:=w.set (t+16) (rSigma w t)
def rSched (b:Str):List Nat:=(List.range 48).foldl rSched2 ((List.range 16).foldl (rSched1 b) (List.replicate 64 0))
theorem fold1_len (b:Str) (k:Nat):((List.range k).foldl (rSched1 b) (List.replicate 64 0)).length=64:=by
 induction k with
 |zero=>rfl
 |succ k ih=>rw[foldl_range_succ,rSched1,List.length_set,ih]
theorem fold2_len {w:List Nat} (h:w.length=64) (k:Nat):((List.range k).foldl rSched2 w).length=64:=by
 induction k with
 |zero=>exact h
 |succ k ih=>rw[foldl_range_succ,rSched2,List.length_set,ih]
theorem rSched_len (b:Str):(rSched b).length=64:=fold2_len (fold1_len b 16) 48
set_option maxHeartbeats 2000000 in
instance schedule_ct (s:Str) [hs:Small (s.length=64)]:FnC Tryz.prog 185 [.str s] (.agg (eW (rSched s))):=⟨by
 refine fn_of Tryz.func185 Tryz.ntmps185 rfl (rs:= [.cell 2 211]) rfl rfl fun hb LF=>?_
 have hl:=hs.out
 have i2:LenIs (eW (List.replicate 64 0)) 64:=⟨rfl⟩
 refine walkWb fun b=>?_
 refine walkWbp fun b2=>?_
 refine pwp_loopS (σ:=Nat × List Nat) (fun k=>k.1≤16∧k.2.length=64∧k.2=(List.range k.1).foldl (rSched1 s) (List.replicate 64 0)) (fun k=>16 - k.1) (fun k=> [(0,.str s),(2,.raw (.pointer (some ⟨b,0,none⟩))),(3,.raw (.pointer (some ⟨b2,0,none⟩))),(4,.raw (.int .i64 k.1))]) (fun k=> .box b2 211 (eW k.2):: .box b 211 (eW (List.replicate 64 0))::LF) (0,List.replicate 64 0) ⟨by simp,by simp,by simp⟩ ⟨rfl,rfl,rfl,rfl⟩ (.refl _) ?_
 rintro⟨k,w⟩ ⟨hk,hw,he⟩
 dsimp only at hk hw he ⊢
 refine walkW ?_
 refine pwp_condD (fun hc=>?_) (fun hc=>?_)
 ·refine walkWn ?_
  refine pwp_drawN 31 ?_ ?_
  ·decide+kernel
  refine walkWp ?_
  refine⟨(k+1,w.set k (rWord s k)),⟨by dsimp only;omega,by dsimp only;rw[List.length_set,hw],by dsimp only;rw[foldl_range_succ,←he];rfl⟩,by dsimp only;omega,⟨rfl,rfl,rfl,rfl⟩,.refl _⟩
 have hkk:k=16:=by omega
 subst hkk
 refine walkW ?_
 refine pwp_loopS (σ:=Nat × List Nat) (fun k=>k.1≤48∧k.2.length=64∧k.2=(List.range k.1).foldl rSched2 w) (fun k=>48 - k.1) (fun k=> [(2,.raw (.pointer (some ⟨b,0,none⟩))),(3,.raw (.pointer (some ⟨b2,0,none⟩))),(5,.raw (.int .i64 ((k.1+16:Nat):Int)))]) (fun k=> .box b2 211 (eW k.2):: .box b 211 (eW (List.replicate 64 0))::LF) (0,w) ⟨by simp,hw,by simp⟩ ⟨rfl,rfl,rfl⟩ (.refl _) ?_
 rintro⟨k,v⟩ ⟨hk,hv,hve⟩
 dsimp only at hk hv hve ⊢
 have i3:LenIs (eW v) 64:=⟨by rw[len_eW,hv]⟩
 refine walkW ?_
 refine pwp_condD (fun hc=>?_) (fun hc=>?_)
 ·refine walkWn ?_
  refine pwp_drawQ (by decide+kernel) ?_
  refine walkWnp ?_
  refine pwp_drawN 29 ?_ ?_
  ·decide+kernel
  refine walkWp ?_
  refine⟨(k+1,v.set (k+16) (rSigma v k)),⟨by dsimp only;omega,by dsimp only;rw[List.length_set,hv],by dsimp only;rw[foldl_range_succ,←hve];rfl⟩,by dsimp only;omega,⟨rfl,rfl,?_⟩,?_⟩
  ·show PV.raw (Value.int .i64 _)=PV.raw (Value.int .i64 _)
   congr 2
  ·dsimp only;rw[rSigma_int];exact .refl _
 ·refine walkW ?_
  refine endC rfl (.of_eq ?_) (hn:=(by rw[len_eW,hv]:(eW v).length=64))
  have hkk:k=48:=by omega
  subst hkk
  rw[rSched,hve,he]⟩
end Go.Proofs
namespace Go.Proofs
open Go Go.Q
attribute [local irreducible] pwp pops PCalls OpN
def rT1 (w v:List Nat) (t:Nat):Nat:=addW (addW (addW (addW (v.getD 7 0) (xorW (xorW (rotW (v.getD 4 0) 6) (rotW (v.getD 4 0) 11)) (rotW (v.getD 4 0) 25))) (xorW (andW (v.getD 4 0) (v.getD 5 0)) (andW (notW (v.getD 4 0)) (v.getD 6 0)))) (rK.getD t 0)) (w.getD t 0)
def rT2 (v:List Nat):Nat:=addW (xorW (xorW (rotW (v.getD 0 0) 2) (rotW (v.getD 0 0) 13)) (rotW (v.getD 0 0) 22)) (xorW (xorW (andW (v.getD 0 0) (v.getD 1 0)) (andW (v.getD 0 0) (v.getD 2 0))) (andW (v.getD 1 0) (v.getD 2 0)))
def rRound (w v:List Nat) (t:Nat):List Nat:= [addW (rT1 w v t) (rT2 v),v.getD 0 0,v.getD 1 0,v.getD 2 0,addW (v.getD 3 0) (rT1 w v t),v.getD 4 0,v.getD 5 0,v.getD 6 0]
def rRounds (h:List Nat) (b:Str):List Nat:=(List.range 64).foldl (rRound (rSched b)) h
def rAdd8 (v x:List Nat) (i:Nat):List Nat:=x.set i (addW (x.getD i 0) (v.getD i 0))
def rStep (h:List Nat) (b:Str):List Nat:=(List.range 8).foldl (rAdd8 (rRounds h b)) h
theorem fold8_len {v h:List Nat} (hh:h.length=8) (k:Nat):((List.range k).foldl (rAdd8 v) h).length=8:=by
 induction k with
 |zero=>exact hh
 |succ k ih=>rw[foldl_range_succ,rAdd8,List.length_set,ih]
theorem rStep_len {h:List Nat} {b:Str} (hh:h.length=8):(rStep h b).length=8:=fold8_len hh 8
theorem hx8 {ρ:Env} {x0 x1 x2 x3 x4 x5 x6 x7:Operand} {a0 a1 a2 a3 a4 a5 a6 a7:Nat} (h0:ρ.ev x0= .raw (.int .u32 (a0:Int))) (h1:ρ.ev x1= .raw (.int .u32 (a1:Int))) (h2:ρ.ev x2= .raw (.int .u32 (a2:Int))) (h3:ρ.ev x3= .raw (.int .u32 (a3:Int))) (h4:ρ.ev x4= .raw (.int .u32 (a4:Int))) (h5:ρ.ev x5= .raw (.int .u32 (a5:Int))) (h6:ρ.ev x6= .raw (.int .u32 (a6:Int))) (h7:ρ.ev x7= .raw (.int .u32 (a7:Int))):
  [x0,x1,x2,x3,x4,x5,x6,x7].map ρ.ev=eW [a0,a1,a2,a3,a4,a5,a6,a7]:=by simp[eW,h0,h1,h2,h3,h4,h5,h6,h7]
set_option maxHeartbeats 600000 in
instance step_ct (h:List Nat) (s:Str) [hs:Small (s.length=64)] [hh:Small (h.length=8)]:FnC Tryz.prog 145 [.agg (eW h),.str s] (.agg (eW (rStep h s))):=⟨by
 refine fn_of Tryz.func145 Tryz.ntmps145 rfl (rs:= [.cell 4 173]) rfl rfl fun hb LF=>?_
 have hl:=hh.out
 have hsl:=rSched_len s
 have j1:LenIs (eW (List.replicate 64 0)) 64:=⟨rfl⟩
 have j2:LenIs (eW (List.replicate 8 0)) 8:=⟨rfl⟩
 have j3:LenIs (eW h) 8:=⟨by rw[len_eW,hl]⟩
 have j4:LenIs (eW rK) 64:=⟨rfl⟩
 have j5:LenIs (eW (rSched s)) 64:=⟨by rw[len_eW,hsl]⟩
 have hkl:rK.length=64:=rfl
 refine walkWb fun b2=>?_
 refine walkWbp fun b4=>?_
 refine walkWbp fun b5=>?_
 refine walkWbp fun b6=>?_
 refine walkWbp fun b7=>?_
 refine pwp_loopS (σ:=Nat × List Nat) (fun k=>k.1≤64∧k.2.length=8∧k.2=(List.range k.1).foldl (rRound (rSched s)) h) (fun k=>64 - k.1) (fun k=> [(2,.raw (.pointer (some ⟨b2,0,none⟩))),(4,.raw (.pointer (some ⟨b4,0,none⟩))),(5,.raw (.pointer (some ⟨b5,0,none⟩))),(6,.raw (.pointer (some ⟨b6,0,none⟩))),(7,.raw (.pointer (some ⟨b7,0,none⟩))),(8,.raw (.int .i64 k.1))]) (fun k=> .box b7 173 (eW k.2):: .box b6 211 (eW rK):: .box b5 211 (eW (rSched s)):: .box b4 173 (eW (List.replicate 8 0)):: .box b2 173 (eW h)::LF) (0,h) ⟨by simp,hl,by simp⟩ ⟨rfl,rfl,rfl,rfl,rfl,rfl⟩ (.refl _) ?_
 rintro⟨k,v⟩ ⟨hk,hv,hve⟩
 dsimp only at hk hv hve ⊢
 have j6:LenIs (eW v) 8:=⟨by rw[len_eW,hv]⟩
 have j7:LenIs (eW (rRound (rSched s) v k)) 8:=⟨rfl⟩
 refine walkW ?_
 refine pwp_condD (fun hc=>?_) (fun hc=>?_)
 ·refine walkWn ?_
  refine pwp_drawQ (by decide+kernel) ?_
  refine walkWnp ?_
  refine pwp_drawQ (by decide+kernel) ?_
  refine pops_cutE [(2,.raw (.pointer (some ⟨b2,0,none⟩))),(4,.raw (.pointer (some ⟨b4,0,none⟩))),(5,.raw (.pointer (some ⟨b5,0,none⟩))),(6,.raw (.pointer (some ⟨b6,0,none⟩))),(7,.raw (.pointer (some ⟨b7,0,none⟩))),(8,.raw (.int .i64 k)),(9,.raw (.int .u32 ((v.getD 0 0:Nat):Int))),(11,.raw (.int .u32 ((rT1 (rSched s) v k:Nat):Int)))] (.box b7 173 (eW v):: .box b6 211 (eW rK):: .box b5 211 (eW (rSched s)):: .box b4 173 (eW (List.replicate 8 0)):: .box b2 173 (eW h)::LF) ?_ ?_
  ·refine walkWp ?_
   exact⟨⟨rfl,rfl,rfl,rfl,rfl,rfl,rfl,rfl⟩,.refl _⟩
  refine walkWn ?_
  refine pwp_drawQ (by decide+kernel) ?_
  refine pops_cutE [(2,.raw (.pointer (some ⟨b2,0,none⟩))),(4,.raw (.pointer (some ⟨b4,0,none⟩))),(5,.raw (.pointer (some ⟨b5,0,none⟩))),(6,.raw (.pointer (some ⟨b6,0,none⟩))),(7,.raw (.pointer (some ⟨b7,0,none⟩))),(8,.raw (.int .i64 k)),(11,.raw (.int .u32 ((rT1 (rSched s) v k:Nat):Int))),(12,.raw (.int .u32 ((rT2 v:Nat):Int)))] (.box b7 173 (eW v):: .box b6 211 (eW rK):: .box b5 211 (eW (rSched s)):: .box b4 173 (eW (List.replicate 8 0)):: .box b2 173 (eW h)::LF) ?_ ?_
  ·refine walkWp ?_
   exact⟨⟨rfl,rfl,rfl,rfl,rfl,rfl,rfl,rfl⟩,.refl _⟩
  refine walkW ?_
  refine s_buildWe [.tmp 82,.tmp 84,.tmp 86,.tmp 88,.tmp 92,.tmp 94,.tmp 96,.tmp 98] (rRound (rSched s) v k) rfl (hx8 (by rfl) (by rfl) (by rfl) (by rfl) (by rfl) (by rfl) (by rfl) (by rfl)) (by simp[rRound]) (by simp[rRound]) ?_
  refine walkWp ?_
  refine⟨(k+1,rRound (rSched s) v k),⟨by dsimp only;omega,rfl,by dsimp only;rw[foldl_range_succ,←hve]⟩,by dsimp only;omega,⟨rfl,rfl,rfl,rfl,rfl,rfl⟩,.refl _⟩
 have hkk:k=64:=by omega
 subst hkk
 replace hve:v=rRounds h s:=hve
 subst hve
 refine walkW ?_
 refine pwp_loopS (σ:=Nat × List Nat) (fun k=>k.1≤8∧k.2.length=8∧k.2=(List.range k.1).foldl (rAdd8 (rRounds h s)) h) (fun k=>8 - k.1) (fun k=> [(2,.raw (.pointer (some ⟨b2,0,none⟩))),(4,.raw (.pointer (some ⟨b4,0,none⟩))),(7,.raw (.pointer (some ⟨b7,0,none⟩))),(13,.raw (.int .i64 k.1))]) (fun k=> .box b7 173 (eW (rRounds h s)):: .box b4 173 (eW (List.replicate 8 0)):: .box b2 173 (eW k.2)::LF) (0,h) ⟨by simp,hl,by simp⟩ ⟨rfl,rfl,rfl,rfl⟩ (.cons_cons _ (.cons _ (.cons _ (.refl _)))) ?_
 rintro⟨k,x⟩ ⟨hk,hx,hxe⟩
 dsimp only at hk hx hxe ⊢
 have j8:LenIs (eW x) 8:=⟨by rw[len_eW,hx]⟩
 refine walkW ?_
 refine pwp_condD (fun hc=>?_) (fun hc=>?_)
 ·refine walkWn ?_
  refine pwp_drawN 9 ?_ ?_
  ·decide+kernel
  refine walkWp ?_
  refine⟨(k+1,x.set k (addW (x.getD k 0) ((rRounds h s).getD k 0))),⟨by dsimp only;omega,by dsimp only;rw[List.length_set,hx],by dsimp only;rw[foldl_range_succ,←hxe];rfl⟩,by dsimp only;omega,⟨rfl,rfl,rfl,rfl⟩,.refl _⟩
 ·refine walkW ?_
  refine endC rfl (.of_eq ?_) (hn:=(by rw[len_eW,hx]:(eW x).length=8))
  have hkk:k=8:=by omega
  subst hkk
  rw[rStep,hxe]⟩
end Go.Proofs
namespace Go.Proofs
open Go Go.Q
attribute [local irreducible] pwp pops PCalls OpN
def rH:List Nat:= [1779033703,3144134277,1013904242,2773480762,1359893119,2600822924,528734635,1541459225]
def rBlocks (m:Str) (n:Nat):List Nat:=(List.range n).foldl (fun h k=>rStep h ((m.drop (64*k)).take 64)) rH
theorem rBlocks_len (m:Str) (n:Nat):(rBlocks m n).length=8:=by
 unfold rBlocks
 induction n with
 |zero=>rfl
 |succ n ih=>rw[foldl_range_succ];exact rStep_len ih
def rByte (h:List Nat) (d:Dig) (i:Nat):Dig:=d.put i (UInt8.ofNat (shrW (h.getD (i / 4) 0) (24 - 8*(i % 4))))
def rSum (s:Str):Dig:=(List.range 32).foldl (rByte (rBlocks (rPad s) ((rPad s).length / 64))) Dig.zero
set_option maxHeartbeats 2000000 in
instance Sum_ct (s:Str) [hs:Small (s.length≤1000000)]:FnC Tryz.prog 105 [.str s] (.agg (eDig (rSum s))):=⟨by
 refine fn_of Tryz.func105 Tryz.ntmps105 rfl (rs:= [.cell 2 25]) rfl rfl fun hb LF=>?_
 have hl:=hs.out
 have hpl:=rPad_len s
 have j2:LenIs (eW (List.replicate 8 0)) 8:=⟨rfl⟩
 have j3:LenIs (eW rH) 8:=⟨rfl⟩
 refine walkWb fun b2=>?_
 refine s_buildWe [.const (.int .u32 1779033703),.const (.int .u32 3144134277),.const (.int .u32 1013904242),.const (.int .u32 2773480762),.const (.int .u32 1359893119),.const (.int .u32 2600822924),.const (.int .u32 528734635),.const (.int .u32 1541459225)] rH rfl rfl (by simp[rH]) rfl ?_
 refine walkWbp fun b3=>?_
 unfold rSum
 generalize rPad s=m at hpl ⊢
 refine pwp_loopS (σ:=Nat) (fun k=>64*k≤m.length) (fun k=>m.length+64 - 64*k) (fun k=> [(2,.raw (.pointer (some ⟨b2,0,none⟩))),(3,.raw (.pointer (some ⟨b3,0,none⟩))),(4,.str m),(5,.raw (.int .i64 ((64*k:Nat):Int)))]) (fun k=> .box b3 173 (eW (rBlocks m k)):: .box b2 25 (eDig Dig.zero)::LF) 0 (by simp) ⟨rfl,rfl,rfl,rfl⟩ (.refl _) ?_
 intro k hk
 have hbl:=rBlocks_len m k
 have j4:LenIs (eW (rBlocks m k)) 8:=⟨by rw[len_eW,hbl]⟩
 have j5:LenIs (eW (rStep (rBlocks m k) ((m.drop (64*k)).take (64*k+64 - 64*k)))) 8:=⟨by rw[len_eW,rStep_len hbl]⟩
 refine walkW ?_
 refine pwp_condD (fun hc=>?_) (fun hc=>?_)
 ·have hc':64*k+64≤m.length:=by omega
  have j6:Small (((m.drop (64*k)).take (64*k+64 - 64*k)).length=64):=⟨by rw[List.length_take,List.length_drop];omega⟩
  have j7:Small ((rBlocks m k).length=8):=⟨hbl⟩
  refine walkWn ?_
  refine pwp_drawN 7 ?_ ?_
  ·decide+kernel
  refine walkWp ?_
  refine⟨k+1,by omega,by dsimp only;omega,⟨rfl,rfl,rfl,?_⟩,?_⟩
  ·show PV.raw (Value.int .i64 _)=PV.raw (Value.int .i64 _)
   congr 2
  ·dsimp only
   have e:rBlocks m (k+1)=rStep (rBlocks m k) ((m.drop (64*k)).take (64*k+64 - 64*k)):=by
    rw[show 64*k+64 - 64*k=64 by omega];unfold rBlocks;rw[foldl_range_succ]
   rw[e];exact .refl _
 have hkk:k=m.length / 64:=by omega
 subst hkk
 refine walkWb fun b6=>?_
 generalize rBlocks m (m.length / 64)=h at hbl ⊢
 refine pwp_loopS (σ:=Nat × Dig) (fun k=>k.1≤32∧k.2=(List.range k.1).foldl (rByte h) Dig.zero) (fun k=>32 - k.1) (fun k=> [(2,.raw (.pointer (some ⟨b2,0,none⟩))),(3,.raw (.pointer (some ⟨b3,0,none⟩))),(6,.raw (.pointer (some ⟨b6,0,none⟩))),(7,.raw (.int .i64 k.1))]) (fun k=> .box b6 25 (eDig k.2):: .box b3 173 (eW h):: .box b2 25 (eDig Dig.zero)::LF) (0,Dig.zero) ⟨by simp,by simp⟩ ⟨rfl,rfl,rfl,rfl⟩ (.refl _) ?_
 rintro⟨k,d⟩ ⟨hk,hd⟩
 dsimp only at hk hd ⊢
 refine walkW ?_
 refine pwp_condD (fun hc=>?_) (fun hc=>?_)
 ·refine walkW ?_
  have e8:(24:Int) - 8*((k % 4:Nat):Int)=((24 - 8*(k % 4):Nat):Int):=by omega
  refine s_convU (a:=24 - 8*(k % 4)) (by show PV.raw (.int .i64 ((24:Int) - 8*((k % 4:Nat):Int)))=_;rw[e8]) (by omega) ?_
  refine walkWp ?_
  refine⟨(k+1,rByte h d k),⟨by dsimp only;omega,by dsimp only;rw[foldl_range_succ,←hd]⟩,by dsimp only;omega,⟨rfl,rfl,rfl,rfl⟩,.refl _⟩
 ·refine walkW ?_
  refine endC rfl (.of_eq ?_)
  have hkk:k=32:=by omega
  subst hkk
  rw[hd]⟩
end Go.Proofs
namespace Go.Proofs
open Go Go.Q
attribute [local irreducible] pwp pops PCalls OpN
def sumLen (l:List Str):Nat:=(l.map List.length).sum
def rG4 (l:List Str):Bool:=decide (40 < (l.length:Int))||decide (3000 < (sumLen l:Int))
theorem sumLen_take {l:List Str} {k:Nat} (h:k < l.length):sumLen (l.take (k+1))=sumLen (l.take k)+l[k].length:=by
 unfold sumLen;rw[List.take_succ_eq_append_getElem h,List.map_append,List.sum_append];simp
theorem sumLen_le {l:List Str} {B:Nat} (h: ∀ s∈l,s.length≤B):sumLen l≤l.length*B:=by
 unfold sumLen
 induction l with
 |nil=>simp
 |cons x l ih=>
  have h1:=h x (by simp)
  have h2:=ih fun s hs=>h s (by simp[hs])
  simp only[List.map_cons,List.sum_cons,List.length_cons,Nat.add_mul];omega
instance Great4_ct (l:List Str) (t:Tag):FnC Tryz.prog 141 [.slice (l.map eS) t] (.raw (.bool (rG4 l))):=⟨by
 refine fn_of Tryz.func141 Tryz.ntmps141 rfl (rs:= [.tmp 2]) rfl rfl fun hb LF=>?_
 have hbs:=hb (.slice (l.map eS) t) (by simp)
 have hlen:l.length≤140737488355328:=hbs.slice_map
 have hel: ∀ s∈l,s.length≤140737488355328:=fun s hs=>(hbs.slice_at hs (c:= .str s) (by simp[eS])).str_len
 refine walk ?_
 refine pwp_loopS (σ:=Nat × Int) (fun k=>k.1≤l.length∧(l.length≤40→k.2=(sumLen (l.take k.1):Int))) (fun k=>l.length - k.1) (fun k=> [(0,.slice (l.map eS) t),(3,.raw (.int .i64 k.2)),(4,.raw (.int .i64 k.1))]) (fun _=>LF) (0,0) ⟨by simp,fun _=>by simp[sumLen]⟩ ⟨rfl,rfl,rfl⟩ (.refl _) ?_
 rintro⟨k,n⟩ ⟨hk,hn⟩
 dsimp only at hk hn ⊢
 obtain⟨v,hv⟩: ∃ v,v=Value.int .i64 n:=⟨_,rfl⟩
 rw[←hv]
 refine walk ?_
 refine pwp_condD (fun hc=>?_) (fun hc=>?_)
 ·have hlt:k < l.length:=by omega
  refine walk ?_
  refine s_addG (by rfl) (by rfl) hv fun v1 hv1=>?_
  refine walkp ?_
  subst hv1
  refine⟨(k+1,IntKind.i64.wrap (n+(l[k].length:Int))),⟨by dsimp only;omega,fun h40=>?_⟩,by dsimp only;omega,⟨rfl,rfl,rfl⟩,.refl _⟩
  have h1:=hn h40
  have h2:=sumLen_take hlt
  have h3:=hel _ (List.getElem_mem hlt)
  have h4:=sumLen_le (l:=l.take k) (B:=140737488355328) fun s hs=>hel s (List.mem_of_mem_take hs)
  have h5:(l.take k).length≤40:=by rw[List.length_take];omega
  have h6:(l.take k).length*140737488355328≤40*140737488355328:=Nat.mul_le_mul_right _ h5
  dsimp only
  rw[IntWalk.i64_in _ (by omega),h1,h2];omega
 ·subst hv
  refine walk ?_
  rw[List.take_of_length_le (by omega)]at hn
  refine pops_if (fun hp=>?_) (fun hp=>?_)
  ·refine walkp ?_
   refine end1 (.of_eq ?_)
   rw[rG4,hp,Bool.true_or]
  ·refine walkp ?_
   refine end1 (.of_eq ?_)
   have:=of_decide_eq_false hp
   rw[rG4,hp,Bool.false_or,hn (by omega)]⟩
def rTotC (c:Chg):Nat:=c.name.length+c.data.length
def rTot (p:Pat):Nat:=p.author.length+p.message.length+(p.changes.map rTotC).sum
def rGC (c:Chg):Bool:=rG4 c.lines||decide (40 < (c.over.length:Int))
def rGreat (p:Pat):Bool:=p.changes.any rGC||decide (3000 < (rTot p:Int))||decide (20 < (p.deps.length:Int))||decide (20 < (p.changes.length:Int))
def rHvC (c:Chg):Nat:=1+c.lines.length+c.over.length
def rBig (p:Pat):Bool:=p.changes.any (fun c=>rGC c||decide (3000 < (rTotC c:Int)))||decide (30000 < (rTot p:Int))||decide (200 < (p.deps.length:Int))||decide (200 < (p.changes.length:Int))||decide (2000 < ((p.changes.map rHvC).sum:Int))
theorem sum_map_le {α:Type} {l:List α} {f:α→Nat} {B:Nat} (h: ∀ s∈l,f s≤B):(l.map f).sum≤l.length*B:=by
 induction l with
 |nil=>simp
 |cons x l ih=>
  have h1:=h x (by simp)
  have h2:=ih fun s hs=>h s (by simp[hs])
  simp only[List.map_cons,List.sum_cons,List.length_cons,Nat.add_mul];omega
theorem sum_map_take {α:Type} {l:List α} {f:α→Nat} {k:Nat} (h:k < l.length):((l.take (k+1)).map f).sum=((l.take k).map f).sum+f l[k]:=by
 rw[List.take_succ_eq_append_getElem h,List.map_append,List.sum_append];simp
set_option maxHeartbeats 1000000 in
instance Great16_ct (p:Pat):FnC Tryz.prog 103 [.agg (ePat p)] (.raw (.bool (rGreat p))):=⟨by
 refine fn_of Tryz.func103 Tryz.ntmps103 rfl (rs:= [.tmp 2]) rfl rfl fun hb LF=>?_
 have hbp:=hb (.agg (ePat p)) (by simp)
 have ha:p.author.length≤140737488355328:=(hbp.agg_at (c:= .str p.author) (by simp[ePat])).str_len
 have hm:p.message.length≤140737488355328:=(hbp.agg_at (c:= .str p.message) (by simp[ePat])).str_len
 have hbc:=hbp.agg_at (c:= .slice (p.changes.map eChg) .ro) (by simp[ePat])
 have hlen:p.changes.length≤140737488355328:=hbc.slice_map
 have hcn: ∀ c∈p.changes,c.name.length≤140737488355328:=fun c hc=>(hbc.slice_at hc (c:= .str c.name) (by simp[eChg])).str_len
 have hcd: ∀ c∈p.changes,c.data.length≤140737488355328:=fun c hc=>(hbc.slice_at hc (c:= .str c.data) (by simp[eChg])).str_len
 refine walkb fun b=>?_
 refine pwp_loopS (σ:=Nat × Int) (fun k=>k.1≤p.changes.length∧(∀ i (h:i < p.changes.length),i < k.1→rGC p.changes[i]=false)∧(p.changes.length≤20→k.2=((p.author.length+p.message.length+((p.changes.take k.1).map rTotC).sum:Nat):Int))) (fun k=>p.changes.length - k.1) (fun k=> [(1,.raw (.pointer (some ⟨b,0,none⟩))),(3,.raw (.int .i64 k.2)),(4,.raw (.int .i64 k.1))]) (fun _=> .box b 44 (ePat p)::LF) (0,(p.author.length:Int)+(p.message.length:Int)) ⟨by simp,by simp,fun _=>by simp⟩ ⟨rfl,rfl,rfl⟩ (.refl _) ?_
 rintro⟨k,n⟩ ⟨hk,hg,hn⟩
 dsimp only at hk hg hn ⊢
 obtain⟨v,hv⟩: ∃ v,v=Value.int .i64 n:=⟨_,rfl⟩
 rw[←hv]
 refine walk ?_
 refine pwp_condD (fun hc=>?_) (fun hc=>?_)
 ·have hlt:k < p.changes.length:=by omega
  refine walkb fun b2=>?_
  refine pops_cutE [(33,.raw (.bool (rGC p.changes[k]))),(1,.raw (.pointer (some ⟨b,0,none⟩))),(3,.raw v),(4,.raw (.int .i64 k)),(5,.raw (.pointer (some ⟨b2,0,none⟩)))] (.box b2 88 (eChg p.changes[k]):: .box b 44 (ePat p)::LF) ?_ ?_
  ·repeat' (first|(refine pwp_condD (fun h=>?_) (fun h=>?_)<;>refine walk ?_)|(refine pwp_condN (fun h=>?_) (fun h=>?_)<;>refine walk ?_)|(refine pwp_condB (fun h=>?_) (fun h=>?_)<;>refine walk ?_)|(refine pops_if (fun h=>?_) (fun h=>?_)<;>(have h2:=h;(try simp only[decide_eq_true_eq,decide_eq_false_iff_not,Bool.not_eq_true',Bool.not_eq_false']at h2);refine walkp ?_)))
   all_goals (refine⟨⟨holdsB (by rfl) ?_,rfl,rfl,rfl,rfl⟩,.refl _⟩;simp_all[rGC])
  refine walk ?_
  refine pwp_condB (fun h=>?_) (fun h=>?_)
  ·refine walk ?_
   refine end1 (.of_eq ?_)
   have:p.changes.any rGC=true:=by rw[List.any_eq_true];exact⟨_,List.getElem_mem hlt,h⟩
   rw[rGreat,this];rfl
  refine walk ?_
  refine s_addG (by rfl) (by rfl) hv fun v1 hv1=>?_
  refine walkp ?_
  refine s_addG (by rfl) (by rfl) hv1 fun v2 hv2=>?_
  refine walkp ?_
  subst hv2
  refine⟨(k+1,IntKind.i64.wrap (IntKind.i64.wrap (n+(p.changes[k].name.length:Int))+(p.changes[k].data.length:Int))),⟨by dsimp only;omega,fun i hi hik=>?_,fun h20=>?_⟩,by dsimp only;omega,⟨rfl,rfl,rfl⟩,.cons _ (.refl _)⟩
  ·rcases Nat.lt_or_ge i k with h'|h'
   ·exact hg i hi h'
   ·have:i=k:=by dsimp only at hik;omega
    subst this;exact h
  ·have h1:=hn h20
   have h2:=sum_map_take (f:=rTotC) hlt
   have h3:=hcn _ (List.getElem_mem hlt)
   have h3':=hcd _ (List.getElem_mem hlt)
   have h4:=sum_map_le (l:=p.changes.take k) (f:=rTotC) (B:=281474976710656) fun c hc=>by
    have q1:=hcn c (List.mem_of_mem_take hc)
    have q2:=hcd c (List.mem_of_mem_take hc)
    unfold rTotC;omega
   have h5:(p.changes.take k).length≤20:=by rw[List.length_take];omega
   have h6:(p.changes.take k).length*281474976710656≤20*281474976710656:=Nat.mul_le_mul_right _ h5
   dsimp only
   have h7:rTotC p.changes[k]=p.changes[k].name.length+p.changes[k].data.length:=rfl
   rw[IntWalk.i64_in (n+_) (by omega),IntWalk.i64_in _ (by omega),h1,h2];omega
 ·subst hv
  refine walk ?_
  rw[List.take_of_length_le (by omega)]at hn
  have hany:p.changes.any rGC=false:=by
   rw[List.any_eq_false];intro c hc'
   obtain⟨i,hi,rfl⟩:=List.mem_iff_getElem.1 hc'
   simp[hg i hi (by omega)]
  have key:rGreat p=(decide (3000 < n)||decide (20 < (p.deps.length:Int))||decide (20 < (p.changes.length:Int))):=by
   rw[rGreat,hany,Bool.false_or]
   by_cases h20:p.changes.length≤20
   ·rw[hn h20];rfl
   ·have:decide (20 < (p.changes.length:Int))=true:=decide_eq_true (by omega)
    rw[this,Bool.or_true,Bool.or_true]
  rw[key]
  clear key hany hn hg
  repeat' (first|(refine pwp_condD (fun h=>?_) (fun h=>?_)<;>refine walk ?_)|(refine pwp_condN (fun h=>?_) (fun h=>?_)<;>refine walk ?_)|(refine pwp_condB (fun h=>?_) (fun h=>?_)<;>refine walk ?_)|(refine pops_if (fun h=>?_) (fun h=>?_)<;>(have h2:=h;(try simp only[decide_eq_true_eq,decide_eq_false_iff_not,Bool.not_eq_true',Bool.not_eq_false']at h2);refine walkp ?_)))
  all_goals (refine end1 (.of_eq ?_);first|(simp_all;done)|grind)⟩
end Go.Proofs
namespace Go.Proofs
open Go Go.Q
attribute [local irreducible] pwp pops PCalls OpN
theorem wf_atom (d:Nat) {s:Str} (h:s.length≤65536):wfX (d+1) (sAtom s):= .inl ⟨rfl,rfl,h⟩
theorem wf_num (d:Nat) (n:Int):wfX (d+1) (sNum n):=by
 unfold sNum rInt
 split
 ·exact .inl ⟨rfl,rfl,by decide⟩
 ·refine wf_atom d ?_
  have:=rDecI_len (n:=n) ⟨by omega,by omega⟩
  omega
theorem wf_dig (d:Nat) (x:Dig):wfX (d+1) (sDig x):=by
 unfold sDig
 split
 ·exact wf_atom d (by decide)
 ·exact wf_atom d (by rw[x.len];decide)
theorem wf_list {d:Nat} {l:List Sx} (h: ∀ y∈l,wfX d y):wfX (d+1) (sList l):= .inr ⟨rfl,rfl,h⟩
theorem wf_ref (d:Nat) (x:Ident):wfX (d+2) (sRef x):=wf_list fun y hy=>by
 simp only[List.mem_cons,List.not_mem_nil,or_false]at hy
 rcases hy with rfl|rfl
 ·exact wf_dig d _
 ·exact wf_num d _
theorem wf_over (d:Nat) (l:List Ident):wfX (d+3) (sOver l):=wf_list fun y hy=>by
 obtain⟨x,_,rfl⟩:=List.mem_map.1 hy
 exact wf_ref d x
theorem nd_atom (d:Nat) (s:Str):ndX (d+1) (sAtom s)=1:=rfl
theorem nd_num (d:Nat) (n:Int):ndX (d+1) (sNum n)=1:=by
 unfold sNum rInt
 split<;>rfl
theorem nd_dig (d:Nat) (x:Dig):ndX (d+1) (sDig x)=1:=by
 unfold sDig;split<;>rfl
theorem nd_list (d:Nat) (l:List Sx):ndX (d+1) (sList l)=1+(l.map (ndX d)).sum:=rfl
theorem nd_ref (d:Nat) (x:Ident):ndX (d+2) (sRef x)=3:=by
 rw[sRef,nd_list];simp only[List.map_cons,List.map_nil,List.sum_cons,List.sum_nil,nd_dig,nd_num];rfl
theorem nd_over (d:Nat) (l:List Ident):ndX (d+3) (sOver l)≤1+l.length*3:=by
 rw[sOver,nd_list,List.map_map]
 have:=sum_map_le (l:=l) (f:=ndX (d+2) ∘ sRef) (B:=3) fun x _=>by simp[nd_ref]
 omega
theorem ln_atom (d:Nat) {s:Str} (h:s.length≤140737488355328):(encX (d+1) (sAtom s)).length≤16+s.length:=by
 show(rDec s.length++58::s).length≤_
 have:=rDec_len15 h
 rw[List.length_append,List.length_cons];omega
theorem ln_num (d:Nat) (n:Int):(encX (d+1) (sNum n)).length≤32:=by
 unfold sNum rInt
 split
 ·exact Nat.le_trans (ln_atom d (s:= []) (by decide)) (by decide)
 ·rename_i h
  have h1:=rDecI_len (n:=n) ⟨by omega,by omega⟩
  have h2:=ln_atom d (s:=rDecI n) (by omega)
  dsimp only;omega
theorem ln_dig (d:Nat) (x:Dig):(encX (d+1) (sDig x)).length≤48:=by
 unfold sDig
 split
 ·exact Nat.le_trans (ln_atom d (s:= []) (by decide)) (by decide)
 ·have h:=ln_atom d (s:=x.bs) (by rw[x.len];decide)
  rw[x.len]at h;exact h
theorem flatMap_len {α β:Type} (l:List α) (f:α→List β):(l.flatMap f).length=(l.map fun a=>(f a).length).sum:=by
 induction l with
 |nil=>rfl
 |cons x l ih=>simp[ih]
theorem ln_list (d:Nat) (l:List Sx):(encX (d+1) (sList l)).length=2+(l.map fun a=>(encX d a).length).sum:=by
 show(40::(l.flatMap (encX d)++ [41])).length=_
 rw[List.length_cons,List.length_append,flatMap_len,List.length_singleton];omega
theorem ln_ref (d:Nat) (x:Ident):(encX (d+2) (sRef x)).length≤82:=by
 rw[sRef,ln_list]
 have h1:=ln_dig d x.patch
 have h2:=ln_num d x.n
 simp only[List.map_cons,List.map_nil,List.sum_cons,List.sum_nil];omega
theorem ln_over (d:Nat) (l:List Ident):(encX (d+3) (sOver l)).length≤2+l.length*82:=by
 rw[sOver,ln_list,List.map_map]
 have:=sum_map_le (l:=l) (f:=(fun a=>(encX (d+2) a).length) ∘ sRef) (B:=82) fun x _=>ln_ref d x
 omega
structure chgOk (c:Chg):Prop where
 lines:c.lines.length≤40
 line: ∀ s∈c.lines,s.length≤3000
 over:c.over.length≤40
 name:c.name.length≤3000
 data:c.data.length≤3000
theorem chg_cases {c:Chg} {q:Sx→Prop} (h1: ∀ n,q (sNum n)) (h2: ∀ x,q (sRef x)) (h3:q (sAtom c.name)) (h4:q (sAtom c.data)) (h5:q (sList (c.lines.map sAtom))) (h6:q (sOver c.over)): ∀ y∈([sNum c.kind]++sChg1 c++sChg2 c)++sChg3 c,q y:=by
 intro y hy
 simp only[List.mem_append,List.mem_singleton]at hy
 rcases hy with ((rfl|hy)|hy)|hy
 ·exact h1 _
 ·unfold sChg1 at hy
  split at hy
  ·simp only[List.mem_singleton]at hy;subst hy;exact h2 _
  ·cases hy
 ·unfold sChg2 at hy
  repeat' split at hy
  all_goals simp only[List.mem_cons,List.not_mem_nil,or_false]at hy
  ·subst hy;exact h1 _
  ·rcases hy with rfl|rfl
   ·exact h2 _
   ·exact h3
  ·subst hy;exact h1 _
  ·subst hy;exact h4
  ·rcases hy with rfl|rfl<;>exact h2 _
 ·unfold sChg3 at hy
  repeat' split at hy
  all_goals simp only[List.mem_cons,List.not_mem_nil,or_false]at hy
  ·subst hy;exact h5
  ·subst hy;exact h6
theorem chg_len (c:Chg):(([sNum c.kind]++sChg1 c++sChg2 c)++sChg3 c).length≤5:=by
 have h1:=sChg1_len c
 have h2:=sChg2_len c
 have h3:(sChg3 c).length≤1:=by unfold sChg3;repeat' split
                                all_goals simp
 simp only[List.length_append,List.length_singleton];omega
theorem wf_chg (d:Nat) {c:Chg} (h:chgOk c):wfX (d+4) (sChg c):=
 wf_list (chg_cases (fun n=>wf_num (d+2) n) (fun x=>wf_ref (d+1) x) (wf_atom (d+2) (by have:=h.name;omega)) (wf_atom (d+2) (by have:=h.data;omega))
  (wf_list fun y hy=>by
   obtain⟨s,hs,rfl⟩:=List.mem_map.1 hy
   exact wf_atom (d+1) (by have:=h.line s hs;omega)) (wf_over d c.over))
theorem nd_chg12 (d:Nat) (c:Chg):(([sNum c.kind]++sChg1 c++sChg2 c).map (ndX (d+3))).sum≤12:=by
 have h:=sum_map_le (l:= [sNum c.kind]++sChg1 c++sChg2 c) (f:=ndX (d+3)) (B:=3) fun y hy=>by
  simp only[List.mem_append,List.mem_singleton]at hy
  rcases hy with (rfl|hy)|hy
  ·rw[nd_num (d+2)];decide
  ·unfold sChg1 at hy
   split at hy
   ·simp only[List.mem_singleton]at hy;subst hy;rw[nd_ref (d+1)];decide
   ·cases hy
  ·unfold sChg2 at hy
   repeat' split at hy
   all_goals simp only[List.mem_cons,List.not_mem_nil,or_false]at hy
   ·subst hy;rw[nd_num (d+2)];decide
   ·rcases hy with rfl|rfl
    ·rw[nd_ref (d+1)];decide
    ·rw[nd_atom (d+2)];decide
   ·subst hy;rw[nd_num (d+2)];decide
   ·subst hy;rw[nd_atom (d+2)];decide
   ·rcases hy with rfl|rfl<;>(rw[nd_ref (d+1)];decide)
 have h1:=sChg1_len c
 have h2:=sChg2_len c
 simp only[List.length_append,List.length_singleton]at h
 omega
theorem nd_chg3 (d:Nat) (c:Chg):((sChg3 c).map (ndX (d+3))).sum≤3*rHvC c:=by
 unfold sChg3 rHvC
 repeat' split
 ·simp only[List.map_cons,List.map_nil,List.sum_cons,List.sum_nil]
  rw[nd_list (d+2),List.map_map]
  have:=sum_map_le (l:=c.lines) (f:=ndX (d+2) ∘ sAtom) (B:=1) fun s _=>Nat.le_refl _
  omega
 ·simp only[List.map_cons,List.map_nil,List.sum_cons,List.sum_nil]
  have:=nd_over d c.over
  omega
 ·simp
theorem nd_chg (d:Nat) (c:Chg):ndX (d+4) (sChg c)≤13+3*rHvC c:=by
 rw[sChg,nd_list,List.map_append,List.sum_append]
 have h1:=nd_chg12 d c
 have h2:=nd_chg3 d c
 omega
theorem sum_map_le2 {α:Type} {l:List α} {f g:α→Nat} {a b:Nat} (h: ∀ s∈l,f s≤a+b*g s):(l.map f).sum≤l.length*a+b*(l.map g).sum:=by
 induction l with
 |nil=>simp
 |cons x l ih=>
  have h1:=h x (by simp)
  have h2:=ih fun s hs=>h s (by simp[hs])
  simp only[List.map_cons,List.sum_cons,List.length_cons,Nat.add_mul,Nat.mul_add];omega
theorem ln_chg (d:Nat) {c:Chg} (h:chgOk c):(encX (d+4) (sChg c)).length≤650000:=by
 rw[sChg,ln_list]
 have h1:=sum_map_le (f:=fun y=>(encX (d+3) y).length) (B:=121000) (chg_cases (c:=c) (q:=fun y=>(encX (d+3) y).length≤121000) (fun n=>Nat.le_trans (ln_num (d+2) n) (by decide)) (fun x=>Nat.le_trans (ln_ref (d+1) x) (by decide))
  (Nat.le_trans (ln_atom (d+2) (s:=c.name) (by have:=h.name;omega)) (by have:=h.name;omega)) (Nat.le_trans (ln_atom (d+2) (s:=c.data) (by have:=h.data;omega)) (by have:=h.data;omega))
  (by
   rw[ln_list (d+2),List.map_map]
   have:=sum_map_le (l:=c.lines) (f:=(fun a=>(encX (d+2) a).length) ∘ sAtom) (B:=3016) fun s hs=>by
    have h3:=h.line s hs
    exact Nat.le_trans (ln_atom (d+1) (s:=s) (by omega)) (by omega)
   have:=h.lines;omega)
  (by have:=ln_over d c.over;have:=h.over;omega))
 have h2:=Nat.mul_le_mul_right 121000 (chg_len c)
 omega
theorem mem_sum_le {α:Type} {l:List α} {f:α→Nat} {a:α} (h:a∈l):f a≤(l.map f).sum:=by
 induction l with
 |nil=>cases h
 |cons x l ih=>
  simp only[List.map_cons,List.sum_cons]
  rcases List.mem_cons.1 h with rfl|h
  ·omega
  ·have:=ih h;omega
theorem great_facts {p:Pat} (h:rGreat p=false):p.author.length≤3000∧p.message.length≤3000∧p.deps.length≤20∧p.changes.length≤20∧ ∀ c∈p.changes,chgOk c:=by
 unfold rGreat at h
 simp only[Bool.or_eq_false_iff,decide_eq_false_iff_not,List.any_eq_false]at h
 obtain⟨⟨⟨h1,h2⟩,h3⟩,h4⟩:=h
 have ht:rTot p=p.author.length+p.message.length+(p.changes.map rTotC).sum:=rfl
 refine⟨by omega,by omega,by omega,by omega,fun c hc=>?_⟩
 have h5:=h1 c hc
 simp only[rGC,rG4,Bool.not_eq_true,Bool.or_eq_false_iff,decide_eq_false_iff_not]at h5
 obtain⟨⟨h6,h7⟩,h8⟩:=h5
 have h9:=mem_sum_le (f:=rTotC) hc
 have h10:rTotC c=c.name.length+c.data.length:=rfl
 refine⟨by omega,fun s hs=>?_,by omega,by omega,by omega⟩
 have:=mem_sum_le (f:=List.length) hs
 unfold sumLen at h7
 omega
theorem big_of {p:Pat} (h:rGreat p=false):rBig p=false:=by
 obtain⟨h1,h2,h3,h4,h5⟩:=great_facts h
 have hs:=sum_map_le (l:=p.changes) (f:=rHvC) (B:=81) fun c hc=>by have a:=(h5 c hc).lines;have b:=(h5 c hc).over;unfold rHvC;omega
 unfold rGreat at h
 unfold rBig
 simp only[Bool.or_eq_false_iff,decide_eq_false_iff_not,List.any_eq_false]at h ⊢
 obtain⟨⟨⟨g1,g2⟩,g3⟩,g4⟩:=h
 refine⟨⟨⟨⟨fun c hc=>?_,by omega⟩,by omega⟩,by omega⟩,by omega⟩
 have k1:=g1 c hc
 have k2: ¬3000 < (rTotC c:Int):=by
  have:=mem_sum_le (f:=rTotC) hc
  have ht:rTot p=p.author.length+p.message.length+(p.changes.map rTotC).sum:=rfl
  omega
 simp only[Bool.not_eq_true]at k1
 simp[k1,k2]
theorem big_facts {p:Pat} (h:rBig p=false):p.author.length≤30000∧p.message.length≤30000∧p.deps.length≤200∧p.changes.length≤200∧ ∀ c∈p.changes,chgOk c:=by
 unfold rBig at h
 simp only[Bool.or_eq_false_iff,decide_eq_false_iff_not,List.any_eq_false]at h
 obtain⟨⟨⟨⟨h1,h2⟩,h3⟩,h4⟩,_⟩:=h
 have ht:rTot p=p.author.length+p.message.length+(p.changes.map rTotC).sum:=rfl
 refine⟨by omega,by omega,by omega,by omega,fun c hc=>?_⟩
 have h5:=h1 c hc
 simp only[rGC,rG4,Bool.not_eq_true,Bool.or_eq_false_iff,decide_eq_false_iff_not]at h5
 obtain⟨⟨⟨h6,h7⟩,h8⟩,h9⟩:=h5
 have h10:rTotC c=c.name.length+c.data.length:=rfl
 refine⟨by omega,fun s hs=>?_,by omega,by omega,by omega⟩
 have:=mem_sum_le (f:=List.length) hs
 unfold sumLen at h7
 omega
theorem big_sum {p:Pat} (h:rBig p=false):(p.changes.map rHvC).sum≤2000:=by
 unfold rBig at h
 simp only[Bool.or_eq_false_iff,decide_eq_false_iff_not]at h
 omega
theorem encOk_of {p:Pat} (h:rBig p=false):encOk p:=by
 obtain⟨h1,h2,h3,h4,h5⟩:=big_facts h
 have hsum:=big_sum h
 refine⟨by omega,by omega,fun c hc=>⟨by have:=(h5 c hc).lines;omega,by have:=(h5 c hc).over;omega⟩,⟨?_,?_⟩,?_⟩
 ·refine wf_list (d:=7) fun y hy=>?_
  simp only[List.mem_cons,List.not_mem_nil,or_false]at hy
  rcases hy with rfl|rfl|rfl|rfl|rfl|rfl
  ·exact wf_atom 6 (by decide)
  ·exact wf_atom 6 (by omega)
  ·exact wf_atom 6 (by omega)
  ·exact wf_num 6 _
  ·exact wf_list fun y hy=>by obtain⟨x,_,rfl⟩:=List.mem_map.1 hy;exact wf_dig 5 x
  ·exact wf_list fun y hy=>by obtain⟨x,hx,rfl⟩:=List.mem_map.1 hy;exact wf_chg 2 (h5 x hx)
 ·rw[sPat,nd_list 7]
  simp only[List.map_cons,List.map_nil,List.sum_cons,List.sum_nil,nd_atom 6,nd_num 6,nd_list 6,List.map_map]
  have e1:=sum_map_le (l:=p.deps) (f:=ndX 6 ∘ sDig) (B:=1) fun x _=>Nat.le_of_eq (nd_dig 5 x)
  have e2:=sum_map_le2 (l:=p.changes) (f:=ndX 6 ∘ sChg) (g:=rHvC) (a:=13) (b:=3) fun x _=>nd_chg 2 x
  have e3:=Nat.mul_le_mul_right 13 h4
  omega
 ·rw[rEnc,sPat,ln_list 7]
  simp only[List.map_cons,List.map_nil,List.sum_cons,List.sum_nil]
  have e0:(encX 7 (sAtom [113,117,105,108,116,49])).length≤22:=ln_atom 6 (s:= [113,117,105,108,116,49]) (by decide)
  have e1:(encX 7 (sAtom p.author)).length≤16+p.author.length:=ln_atom 6 (s:=p.author) (by omega)
  have e2:(encX 7 (sAtom p.message)).length≤16+p.message.length:=ln_atom 6 (s:=p.message) (by omega)
  have e3:(encX 7 (sNum p.time)).length≤32:=ln_num 6 p.time
  have e8:(encX 7 (sList (p.deps.map sDig))).length=2+((p.deps.map sDig).map fun a=>(encX 6 a).length).sum:=ln_list 6 _
  have e9:(encX 7 (sList (p.changes.map sChg))).length=2+((p.changes.map sChg).map fun a=>(encX 6 a).length).sum:=ln_list 6 _
  rw[List.map_map]at e8 e9
  have e4:=sum_map_le (l:=p.deps) (f:=(fun a=>(encX 6 a).length) ∘ sDig) (B:=48) fun x _=>ln_dig 5 x
  have e5:=sum_map_le (l:=p.changes) (f:=(fun a=>(encX 6 a).length) ∘ sChg) (B:=650000) fun x hx=>ln_chg 2 (h5 x hx)
  have e6:=Nat.mul_le_mul_right 650000 h4
  have e7:=Nat.mul_le_mul_right 48 h3
  omega
def rEncodeP (p:Pat):Str × Int:=if(rCheckP p).2≠0 then([],(rCheckP p).2)else rEncode p
theorem rEncodeP_len (p:Pat):(rEncodeP p).1.length≤65536:=by
 unfold rEncodeP rEncode
 split
 ·simp
 ·split
  ·simp
  ·dsimp only;omega
instance EncodeP_ct (p:Pat) [hs:Small (rBig p=false)]:FnC Tryz.prog 104 [.agg (ePat p)] (.tuple [.str (rEncodeP p).1,.raw (.int .i64 (rEncodeP p).2)]):=⟨by
 have i1:Small (encOk p):=⟨encOk_of hs.out⟩
 refine fn_of Tryz.func104 Tryz.ntmps104 rfl (rs:= [.tmp 2,.tmp 3]) rfl rfl fun hb LF=>?_
 refine walkb fun b=>?_
 refine pwp_condN (fun h=>?_) (fun h=>?_)
 ·refine walk ?_
  refine end2 ?_
  rw[rEncodeP,if_pos h]
  exact .refl _
 ·refine walk ?_
  refine end2 ?_
  rw[rEncodeP,if_neg (by simp[h])]
  exact .refl _⟩
instance CheckP_ct (p:Pat) [hs:Small (rBig p=false)]:FnC Tryz.prog 76 [.agg (ePat p)] (.raw (.int .i64 (rEncodeP p).2)):=⟨by
 refine fn_of Tryz.func76 Tryz.ntmps76 rfl (rs:= [.tmp 2]) rfl rfl fun hb LF=>?_
 refine walkb fun b=>?_
 exact end1 (.refl _)⟩
def rId (p:Pat):Dig × Int:=if(rEncodeP p).2≠0 then(Dig.zero,(rEncodeP p).2)else(rSum (rEncodeP p).1,0)
instance IdP_ct (p:Pat) [hs:Small (rBig p=false)]:FnC Tryz.prog 64 [.agg (ePat p)] (.tuple [.agg (eDig (rId p).1),.raw (.int .i64 (rId p).2)]):=⟨by
 have i1:Small ((rEncodeP p).1.length≤1000000):=⟨by have:=rEncodeP_len p;omega⟩
 refine fn_of Tryz.func64 Tryz.ntmps64 rfl (rs:= [.cell 2 25,.tmp 3]) rfl rfl fun hb LF=>?_
 refine walkb fun b=>?_
 refine walkbp fun b2=>?_
 refine pwp_condN (fun h=>?_) (fun h=>?_)
 ·refine walk ?_
  refine endC1 rfl (.of_eq ?_)
  rw[rId,if_pos h]
 ·refine walk ?_
  refine endC1 rfl (.of_eq ?_)
  rw[rId,if_neg (by simp[h])]⟩
end Go.Proofs
namespace Go.Q
open Go
structure WrapF2 {α β:Type} (B:α→β→Prop):Prop where
 out: ∀ a b,B a b
section
variable {P:Program} {N:Nat} {all:Array Oper} {K:Env→List Res→Prop} {fl:List Bool} {os:List Oper} {ρ:Env} {L:List Res} {Q:PPost} {c:Code} {d:Nat} {ty:TypeId} {pos:String} {af:Array Edge}
theorem s_bsT4 {T sz by_:Nat} [hE:TApp P T sz by_] {x0 x1 x2 x3:Operand} {a0 a1 a2 a3:PV} {α:Type} {f:α→List PV} {e0 e1 e2 e3:α} (q0:ρ.ev x0=a0) (q1:ρ.ev x1=a1) (q2:ρ.ev x2=a2) (q3:ρ.ev x3=a3) [hC0:EncC a0 f e0] [hC1:EncC a1 f e1] [hC2:EncC a2 f e2] [hC3:EncC a3 f e3] [hf:Len f sz] (h24:4*sz≤16777216)
  (k: ∀ t,pops P N all K fl.tail os (upd ρ d (.slice ([e0,e1,e2,e3].map f) t)) (.tok t [e0,e1,e2,e3].length sz::L)) (hd:Nat.blt d N=true:=by rfl) (hfl:fl.headD true=true:=by rfl):pops P N all K fl (⟨some d,.buildSlice T 4 #[(0,x0),(1,x1),(2,x2),(3,x3)],ty,pos,af,none⟩::os) ρ L:=
 pops_n rfl (dlt hd) hfl (opN_bsT (n:=4) (xs:= [x0,x1,x2,x3]) (cs:= [e0,e1,e2,e3].map f) rfl rfl h24 (by decide) (fun i h1 h2=>by
  match i,h1,h2 with
  |0,_,_=>exact⟨q0 ▸ hC0.out,hf.out e0⟩
  |1,_,_=>exact⟨q1 ▸ hC1.out,hf.out e1⟩
  |2,_,_=>exact⟨q2 ▸ hC2.out,hf.out e2⟩
  |3,_,_=>exact⟨q3 ▸ hC3.out,hf.out e3⟩
  |m+4,h1,_=>exact absurd h1 (by simp only[List.length_cons,List.length_nil];omega)) k)
theorem walkbt4 {A:Prop} {B:Nat→Tag→Prop} (k: ∀ b t,B b t) (h:WrapF2 B→A:=by
  intro hB
  refine walkx ?_
  first|refine s_box (by rfl) fun b=>?_|refine s_alloc fun b=>?_
  refine walkx ?_
  refine s_bsT4 (by(conv=>lhs;whnf);done) (by(conv=>lhs;whnf);done) (by(conv=>lhs;whnf);done) (by(conv=>lhs;whnf);done) (hC0:=(by first|infer_instance|fail)) (hC1:=(by first|infer_instance|fail)) (hC2:=(by first|infer_instance|fail)) (hC3:=(by first|infer_instance|fail)) (hf:=(by first|infer_instance|fail)) (by decide) fun t=>?_
  refine walk ?_
  exact hB.out b t):A:=h ⟨k⟩
end
end Go.Q
namespace Go.Q
open Go
def Asc (l:List Dig):Prop:=l.Pairwise Dig.lt
theorem Asc.nil:Asc []:=List.Pairwise.nil
theorem Asc.nodup {l:List Dig} (h:Asc l):l.Nodup:=List.Pairwise.imp (fun h=>Dig.ne_of_lt h) h
theorem mem_withD {x d:Dig}: ∀ {l:List Dig},x∈withD l d↔x=d∨x∈l
 | []=>by simp[withD]
 |y::l=>by
  unfold withD
  split
  ·simp only[List.mem_cons,mem_withD (l:=l)]
   constructor
   ·rintro(h|h|h)
    ·exact .inr (.inl h)
    ·exact .inl h
    ·exact .inr (.inr h)
   ·rintro(h|h|h)
    ·exact .inr (.inl h)
    ·exact .inl h
    ·exact .inr (.inr h)
  ·split
   ·rename_i h;subst h
    simp only[List.mem_cons]
    constructor
    ·exact .inr
    ·rintro(h|h)
     ·exact .inl h
     ·exact h
   ·simp only[List.mem_cons]
theorem withD_asc {d:Dig}: ∀ {l:List Dig},Asc l→Asc (withD l d)
 | [],_=>by unfold withD;exact List.pairwise_singleton _ _
 |y::l,h=>by
  obtain⟨h1,h2⟩:=List.pairwise_cons.1 h
  unfold withD
  split
  ·rename_i hy
   refine List.pairwise_cons.2 ⟨fun z hz=>?_,withD_asc h2⟩
   rcases mem_withD.1 hz with rfl|hz
   ·exact hy
   ·exact h1 z hz
  ·rename_i hy
   split
   ·exact h
   ·rename_i hne
    have hlt:Dig.lt d y:=by
     rcases Dig.tri d y with h'|h'|h'
     ·exact h'
     ·exact absurd h'.symm hne
     ·exact absurd h' hy
    refine List.pairwise_cons.2 ⟨fun z hz=>?_,h⟩
    rcases List.mem_cons.1 hz with rfl|hz
    ·exact hlt
    ·exact Dig.lt_trans hlt (h1 z hz)
theorem withD_len {l:List Dig} {d:Dig}:(withD l d).length≤l.length+1:=by
 induction l with
 |nil=>simp[withD]
 |cons y l ih=>
  unfold withD
  split
  ·simp only[List.length_cons];omega
  ·split<;>simp only[List.length_cons]<;>omega
theorem Asc.ext: ∀ {l m:List Dig},Asc l→Asc m→(∀ d,d∈l↔d∈m)→l=m
 | [],[],_,_,_=>rfl
 | [],y::m,_,_,h=>absurd ((h y).2 (by simp)) (by simp)
 |x::l,[],_,_,h=>absurd ((h x).1 (by simp)) (by simp)
 |x::l,y::m,hl,hm,h=>by
  obtain⟨l1,l2⟩:=List.pairwise_cons.1 hl
  obtain⟨m1,m2⟩:=List.pairwise_cons.1 hm
  have e:x=y:=by
   rcases List.mem_cons.1 ((h x).1 (by simp))with h1|h1
   ·exact h1
   ·rcases List.mem_cons.1 ((h y).2 (by simp))with h2|h2
    ·exact h2.symm
    ·exact absurd (l1 y h2) (Dig.lt_asymm (m1 x h1))
  subst e
  congr 1
  refine Asc.ext l2 m2 fun d=>?_
  have hd:=h d
  simp only[List.mem_cons]at hd
  constructor
  ·intro h1
   rcases hd.1 (.inr h1)with h2|h2
   ·subst h2;exact absurd (l1 _ h1) (Dig.lt_irrefl _)
   ·exact h2
  ·intro h1
   rcases hd.2 (.inr h1)with h2|h2
   ·subst h2;exact absurd (m1 _ h1) (Dig.lt_irrefl _)
   ·exact h2
def withAll (l m:List Dig):List Dig:=m.foldl withD l
theorem mem_withAll {x:Dig}: ∀ {m l:List Dig},x∈withAll l m↔x∈l∨x∈m
 | [],l=>by simp[withAll]
 |d::m,l=>by
  show x∈withAll (withD l d) m↔_
  rw[mem_withAll,mem_withD,List.mem_cons]
  constructor
  ·rintro((h|h)|h)
   ·exact .inr (.inl h)
   ·exact .inl h
   ·exact .inr (.inr h)
  ·rintro(h|h|h)
   ·exact .inl (.inr h)
   ·exact .inl (.inl h)
   ·exact .inr h
theorem withAll_asc: ∀ {m l:List Dig},Asc l→Asc (withAll l m)
 | [],_,h=>h
 |d::m,l,h=>by show Asc (withAll (withD l d) m);exact withAll_asc (withD_asc h)
theorem withAll_len: ∀ {m l:List Dig},(withAll l m).length≤l.length+m.length
 | [],_=>by simp[withAll]
 |d::m,l=>by
  show(withAll (withD l d) m).length≤_
  have h1:=withAll_len (m:=m) (l:=withD l d)
  have h2:=withD_len (l:=l) (d:=d)
  simp only[List.length_cons];omega
theorem nodup_len {α:Type} [DecidableEq α] {l:List α} (hl:l.Nodup) {m:List α} (h: ∀ d∈l,d∈m):l.length≤m.length:=by
 induction l generalizing m with
 |nil=>simp
 |cons x l ih=>
  obtain⟨h1,h2⟩:=List.nodup_cons.1 hl
  have hx:x∈m:=h x (by simp)
  have:=ih h2 (m:=m.erase x) fun d hd=>by
   have hne:d≠x:=fun e=>h1 (e ▸ hd)
   exact(List.mem_erase_of_ne hne).2 (h d (by simp[hd]))
  rw[List.length_erase_of_mem hx]at this
  have hp:0 < m.length:=List.length_pos_of_mem hx
  simp only[List.length_cons];omega
def roundC (nd:Dig→List Dig) (out:List Dig):List Dig:=out.foldl (fun m x=>withAll m (nd x)) out
def iterC (nd:Dig→List Dig):Nat→List Dig→List Dig
 |0,out=>out
 |n+1,out=>iterC nd n (roundC nd out)
inductive Reach (nd:Dig→List Dig) (ids:List Dig):Dig→Prop
 |base {d:Dig} (h:d∈ids):Reach nd ids d
 |step {x d:Dig} (h:Reach nd ids x) (hd:d∈nd x):Reach nd ids d
section
variable {nd:Dig→List Dig}
theorem mem_foldC {y:Dig}: ∀ {l m:List Dig},y∈l.foldl (fun m x=>withAll m (nd x)) m↔y∈m∨ ∃ x∈l,y∈nd x
 | [],m=>by simp
 |x::l,m=>by
  rw[List.foldl_cons,mem_foldC,mem_withAll]
  simp only[List.mem_cons,exists_eq_or_imp]
  rw[or_assoc]
theorem foldC_asc: ∀ {l m:List Dig},Asc m→Asc (l.foldl (fun m x=>withAll m (nd x)) m)
 | [],_,h=>h
 |x::l,m,h=>by rw[List.foldl_cons];exact foldC_asc (withAll_asc h)
theorem mem_roundC {y:Dig} {out:List Dig}:y∈roundC nd out↔y∈out∨ ∃ x∈out,y∈nd x:=mem_foldC
theorem roundC_asc {out:List Dig} (h:Asc out):Asc (roundC nd out):=foldC_asc h
theorem iterC_asc: ∀ {n:Nat} {out:List Dig},Asc out→Asc (iterC nd n out)
 |0,_,h=>h
 |n+1,_,h=>iterC_asc (n:=n) (roundC_asc h)
theorem iterC_sound {ids:List Dig}: ∀ {n:Nat} {out:List Dig},(∀ d∈out,Reach nd ids d)→ ∀ d∈iterC nd n out,Reach nd ids d
 |0,_,h=>h
 |n+1,out,h=>iterC_sound (n:=n) fun d hd=>by
  rcases mem_roundC.1 hd with h1|⟨x,hx,h1⟩
  ·exact h d h1
  ·exact .step (h x hx) h1
theorem iterC_in {U:List Dig} (hU: ∀ x∈U,∀ d∈nd x,d∈U): ∀ {n:Nat} {out:List Dig},(∀ d∈out,d∈U)→ ∀ d∈iterC nd n out,d∈U
 |0,_,h=>h
 |n+1,out,h=>iterC_in hU (n:=n) fun d hd=>by
  rcases mem_roundC.1 hd with h1|⟨x,hx,h1⟩
  ·exact h d h1
  ·exact hU x (h x hx) d h1
theorem iterC_sub: ∀ {n:Nat} {out:List Dig} {d:Dig},d∈out→d∈iterC nd n out
 |0,_,_,h=>h
 |n+1,_,_,h=>iterC_sub (n:=n) (mem_roundC.2 (.inl h))
theorem iterC_closed {U:List Dig} (hU: ∀ x∈U,∀ d∈nd x,d∈U): ∀ {n:Nat} {out:List Dig},Asc out→(∀ d∈out,d∈U)→U.length+1≤out.length+n∨out= []∨(∀ x∈out,∀ d∈nd x,d∈out)→ ∀ x∈iterC nd n out,∀ d∈nd x,d∈iterC nd n out
 |0,out,ha,hu,h=>by
  rcases h with h|h|h
  ·have:=nodup_len ha.nodup hu
   omega
  ·subst h;intro x hx;cases hx
  ·exact h
 |n+1,out,ha,hu,h=>by
  have hu': ∀ d∈roundC nd out,d∈U:=iterC_in hU (n:=1) hu
  refine iterC_closed hU (n:=n) (roundC_asc ha) hu' ?_
  by_cases hc: ∀ x∈out,∀ d∈nd x,d∈out
  ·refine .inr (.inr ?_)
   have e:roundC nd out=out:=Asc.ext (roundC_asc ha) ha fun d=>by
    rw[mem_roundC]
    constructor
    ·rintro(h1|⟨x,hx,h1⟩)
     ·exact h1
     ·exact hc x hx d h1
    ·exact .inl
   rw[e];exact hc
  ·rcases h with h|h|h
   ·refine .inl ?_
    have:out.length+1≤(roundC nd out).length:=by
     have⟨x,hx⟩:=Classical.not_forall.1 hc
     have⟨hx1,hx2⟩:=Classical.not_imp.1 hx
     have⟨d,hd⟩:=Classical.not_forall.1 hx2
     have⟨hd1,hd2⟩:=Classical.not_imp.1 hd
     have hn:(d::out).Nodup:=List.nodup_cons.2 ⟨hd2,ha.nodup⟩
     have:=nodup_len hn (m:=roundC nd out) fun y hy=>by
      rcases List.mem_cons.1 hy with rfl|hy
      ·exact mem_roundC.2 (.inr ⟨x,hx1,hd1⟩)
      ·exact mem_roundC.2 (.inl hy)
     simpa using this
    omega
   ·subst h
    exact absurd (fun x hx=>by cases hx) hc
   ·exact absurd h hc
theorem mem_iterC {U ids:List Dig} (hU: ∀ x∈U,∀ d∈nd x,d∈U) (hi: ∀ d∈ids,d∈U) {n:Nat} (hn:U.length≤n) {d:Dig}:d∈iterC nd n (withAll [] ids)↔Reach nd ids d:=by
 have hin: ∀ d∈withAll [] ids,d∈U:=fun d hd=>by
  rcases mem_withAll.1 hd with h|h
  ·cases h
  ·exact hi d h
 refine⟨fun h=>iterC_sound (fun d hd=>?_) d h,fun h=>?_⟩
 ·rcases mem_withAll.1 hd with h|h
  ·cases h
  ·exact .base h
 ·have ha:Asc (withAll [] ids):=withAll_asc .nil
  have hcl:=iterC_closed (nd:=nd) hU (n:=n) ha hin (by
   cases hw:withAll [] ids with
   |nil=>exact .inr (.inl rfl)
   |cons x l=>exact .inl (by simp;omega))
  induction h with
  |base h=>exact iterC_sub (mem_withAll.2 (.inr h))
  |step h hd ih=>exact hcl _ ih _ hd
theorem Reach.in_ {U ids:List Dig} (hU: ∀ x∈U,∀ d∈nd x,d∈U) (hi: ∀ d∈ids,d∈U) {d:Dig} (h:Reach nd ids d):d∈U:=by
 induction h with
 |base h=>exact hi _ h
 |step h hd ih=>exact hU _ ih _ hd
end
end Go.Q
