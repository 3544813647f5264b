/- Contracts: patches that are not too large can be encoded; Encode, Check, Id (the reference's layer 16). -/
import Derived.Test.YtddlffkdpocmhaaGreatDoorUaj
import Derived.Test.YtddlffkdpocmhaaGreatDoorUag
import Derived.Test.YtddlffkdpocmhaaGreatDoorUae
set_option linter.unusedSimpArgs false
set_option linter.unusedVariables false
namespace Go.Proofs
open Go Go.Q
attribute [local irreducible] pwp pops PCalls OpN
theorem wf_atom (d:Nat) {s:Str} (h:s.length≤65536):wfX (d+1) (sAtom s):= .inl ⟨rfl,rfl,h⟩
theorem wf_num (d:Nat) (n:Int):wfX (d+1) (sNum n):=by
 unfold sNum rInt
 split
 ·exact .inl ⟨rfl,rfl,by decide⟩
 ·refine wf_atom d ?_
  have:=rDecI_len (n:=n) ⟨by omega,by omega⟩
  omega
theorem wf_dig (d:Nat) (x:Dig):wfX (d+1) (sDig x):=by
 unfold sDig
 split
 ·exact wf_atom d (by decide)
 ·exact wf_atom d (by rw[x.len];decide)
theorem wf_list {d:Nat} {l:List Sx} (h: ∀ y∈l,wfX d y):wfX (d+1) (sList l):= .inr ⟨rfl,rfl,h⟩
theorem wf_ref (d:Nat) (x:Ident):wfX (d+2) (sRef x):=wf_list fun y hy=>by
 simp only[List.mem_cons,List.not_mem_nil,or_false]at hy
 rcases hy with rfl|rfl
 ·exact wf_dig d _
 ·exact wf_num d _
theorem wf_over (d:Nat) (l:List Ident):wfX (d+3) (sOver l):=wf_list fun y hy=>by
 obtain⟨x,_,rfl⟩:=List.mem_map.1 hy
 exact wf_ref d x
theorem nd_atom (d:Nat) (s:Str):ndX (d+1) (sAtom s)=1:=rfl
theorem nd_num (d:Nat) (n:Int):ndX (d+1) (sNum n)=1:=by
 unfold sNum rInt
 split<;>rfl
theorem nd_dig (d:Nat) (x:Dig):ndX (d+1) (sDig x)=1:=by
 unfold sDig;split<;>rfl
theorem nd_list (d:Nat) (l:List Sx):ndX (d+1) (sList l)=1+(l.map (ndX d)).sum:=rfl
theorem nd_ref (d:Nat) (x:Ident):ndX (d+2) (sRef x)=3:=by
 rw[sRef,nd_list];simp only[List.map_cons,List.map_nil,List.sum_cons,List.sum_nil,nd_dig,nd_num];rfl
theorem nd_over (d:Nat) (l:List Ident):ndX (d+3) (sOver l)≤1+l.length*3:=by
 rw[sOver,nd_list,List.map_map]
 have:=sum_map_le (l:=l) (f:=ndX (d+2) ∘ sRef) (B:=3) fun x _=>by simp[nd_ref]
 omega
theorem ln_atom (d:Nat) {s:Str} (h:s.length≤140737488355328):(encX (d+1) (sAtom s)).length≤16+s.length:=by
 show(rDec s.length++58::s).length≤_
 have:=rDec_len15 h
 rw[List.length_append,List.length_cons];omega
theorem ln_num (d:Nat) (n:Int):(encX (d+1) (sNum n)).length≤32:=by
 unfold sNum rInt
 split
 ·exact Nat.le_trans (ln_atom d (s:= []) (by decide)) (by decide)
 ·rename_i h
  have h1:=rDecI_len (n:=n) ⟨by omega,by omega⟩
  have h2:=ln_atom d (s:=rDecI n) (by omega)
  dsimp only;omega
theorem ln_dig (d:Nat) (x:Dig):(encX (d+1) (sDig x)).length≤48:=by
 unfold sDig
 split
 ·exact Nat.le_trans (ln_atom d (s:= []) (by decide)) (by decide)
 ·have h:=ln_atom d (s:=x.bs) (by rw[x.len];decide)
  rw[x.len]at h;exact h
theorem flatMap_len {α β:Type} (l:List α) (f:α→List β):(l.flatMap f).length=(l.map fun a=>(f a).length).sum:=by
 induction l with
 |nil=>rfl
 |cons x l ih=>simp[ih]
theorem ln_list (d:Nat) (l:List Sx):(encX (d+1) (sList l)).length=2+(l.map fun a=>(encX d a).length).sum:=by
 show(40::(l.flatMap (encX d)++ [41])).length=_
 rw[List.length_cons,List.length_append,flatMap_len,List.length_singleton];omega
theorem ln_ref (d:Nat) (x:Ident):(encX (d+2) (sRef x)).length≤82:=by
 rw[sRef,ln_list]
 have h1:=ln_dig d x.patch
 have h2:=ln_num d x.n
 simp only[List.map_cons,List.map_nil,List.sum_cons,List.sum_nil];omega
theorem ln_over (d:Nat) (l:List Ident):(encX (d+3) (sOver l)).length≤2+l.length*82:=by
 rw[sOver,ln_list,List.map_map]
 have:=sum_map_le (l:=l) (f:=(fun a=>(encX (d+2) a).length) ∘ sRef) (B:=82) fun x _=>ln_ref d x
 omega
structure chgOk (c:Chg):Prop where
 lines:c.lines.length≤40
 line: ∀ s∈c.lines,s.length≤3000
 over:c.over.length≤40
 name:c.name.length≤3000
 data:c.data.length≤3000
theorem chg_cases {c:Chg} {q:Sx→Prop} (h1: ∀ n,q (sNum n)) (h2: ∀ x,q (sRef x)) (h3:q (sAtom c.name)) (h4:q (sAtom c.data)) (h5:q (sList (c.lines.map sAtom))) (h6:q (sOver c.over)): ∀ y∈([sNum c.kind]++sChg1 c++sChg2 c)++sChg3 c,q y:=by
 intro y hy
 simp only[List.mem_append,List.mem_singleton]at hy
 rcases hy with ((rfl|hy)|hy)|hy
 ·exact h1 _
 ·unfold sChg1 at hy
  split at hy
  ·simp only[List.mem_singleton]at hy;subst hy;exact h2 _
  ·cases hy
 ·unfold sChg2 at hy
  repeat' split at hy
  all_goals simp only[List.mem_cons,List.not_mem_nil,or_false]at hy
  ·subst hy;exact h1 _
  ·rcases hy with rfl|rfl
   ·exact h2 _
   ·exact h3
  ·subst hy;exact h1 _
  ·subst hy;exact h4
  ·rcases hy with rfl|rfl<;>exact h2 _
 ·unfold sChg3 at hy
  repeat' split at hy
  all_goals simp only[List.mem_cons,List.not_mem_nil,or_false]at hy
  ·subst hy;exact h5
  ·subst hy;exact h6
theorem chg_len (c:Chg):(([sNum c.kind]++sChg1 c++sChg2 c)++sChg3 c).length≤5:=by
 have h1:=sChg1_len c
 have h2:=sChg2_len c
 have h3:(sChg3 c).length≤1:=by unfold sChg3;repeat' split
                                all_goals simp
 simp only[List.length_append,List.length_singleton];omega
theorem wf_chg (d:Nat) {c:Chg} (h:chgOk c):wfX (d+4) (sChg c):=
 wf_list (chg_cases (fun n=>wf_num (d+2) n) (fun x=>wf_ref (d+1) x) (wf_atom (d+2) (by have:=h.name;omega)) (wf_atom (d+2) (by have:=h.data;omega))
  (wf_list fun y hy=>by
   obtain⟨s,hs,rfl⟩:=List.mem_map.1 hy
   exact wf_atom (d+1) (by have:=h.line s hs;omega)) (wf_over d c.over))
theorem nd_chg (d:Nat) {c:Chg} (h:chgOk c):ndX (d+4) (sChg c)≤606:=by
 rw[sChg,nd_list]
 have h1:=sum_map_le (f:=ndX (d+3)) (B:=121) (chg_cases (c:=c) (q:=fun y=>ndX (d+3) y≤121) (fun n=>by rw[nd_num (d+2)];decide) (fun x=>by rw[nd_ref (d+1)];decide) (by rw[nd_atom (d+2)];decide) (by rw[nd_atom (d+2)];decide)
  (by
   rw[nd_list (d+2),List.map_map]
   have:=sum_map_le (l:=c.lines) (f:=ndX (d+2) ∘ sAtom) (B:=1) fun s _=>Nat.le_refl _
   have:=h.lines;omega)
  (by have:=nd_over d c.over;have:=h.over;omega))
 have h2:=Nat.mul_le_mul_right 121 (chg_len c)
 omega
theorem ln_chg (d:Nat) {c:Chg} (h:chgOk c):(encX (d+4) (sChg c)).length≤650000:=by
 rw[sChg,ln_list]
 have h1:=sum_map_le (f:=fun y=>(encX (d+3) y).length) (B:=121000) (chg_cases (c:=c) (q:=fun y=>(encX (d+3) y).length≤121000) (fun n=>Nat.le_trans (ln_num (d+2) n) (by decide)) (fun x=>Nat.le_trans (ln_ref (d+1) x) (by decide))
  (Nat.le_trans (ln_atom (d+2) (s:=c.name) (by have:=h.name;omega)) (by have:=h.name;omega)) (Nat.le_trans (ln_atom (d+2) (s:=c.data) (by have:=h.data;omega)) (by have:=h.data;omega))
  (by
   rw[ln_list (d+2),List.map_map]
   have:=sum_map_le (l:=c.lines) (f:=(fun a=>(encX (d+2) a).length) ∘ sAtom) (B:=3016) fun s hs=>by
    have h3:=h.line s hs
    exact Nat.le_trans (ln_atom (d+1) (s:=s) (by omega)) (by omega)
   have:=h.lines;omega)
  (by have:=ln_over d c.over;have:=h.over;omega))
 have h2:=Nat.mul_le_mul_right 121000 (chg_len c)
 omega
theorem mem_sum_le {α:Type} {l:List α} {f:α→Nat} {a:α} (h:a∈l):f a≤(l.map f).sum:=by
 induction l with
 |nil=>cases h
 |cons x l ih=>
  simp only[List.map_cons,List.sum_cons]
  rcases List.mem_cons.1 h with rfl|h
  ·omega
  ·have:=ih h;omega
theorem great_facts {p:Pat} (h:rGreat p=false):p.author.length≤3000∧p.message.length≤3000∧p.deps.length≤20∧p.changes.length≤20∧ ∀ c∈p.changes,chgOk c:=by
 unfold rGreat at h
 simp only[Bool.or_eq_false_iff,decide_eq_false_iff_not,List.any_eq_false]at h
 obtain⟨⟨⟨h1,h2⟩,h3⟩,h4⟩:=h
 have ht:rTot p=p.author.length+p.message.length+(p.changes.map rTotC).sum:=rfl
 refine⟨by omega,by omega,by omega,by omega,fun c hc=>?_⟩
 have h5:=h1 c hc
 simp only[rGC,rG4,Bool.not_eq_true,Bool.or_eq_false_iff,decide_eq_false_iff_not]at h5
 obtain⟨⟨h6,h7⟩,h8⟩:=h5
 have h9:=mem_sum_le (f:=rTotC) hc
 have h10:rTotC c=c.name.length+c.data.length:=rfl
 refine⟨by omega,fun s hs=>?_,by omega,by omega,by omega⟩
 have:=mem_sum_le (f:=List.length) hs
 unfold sumLen at h7
 omega
theorem encOk_of {p:Pat} (h:rGreat p=false):encOk p:=by
 obtain⟨h1,h2,h3,h4,h5⟩:=great_facts h
 refine⟨by omega,by omega,fun c hc=>⟨by have:=(h5 c hc).lines;omega,by have:=(h5 c hc).over;omega⟩,⟨?_,?_⟩,?_⟩
 ·refine wf_list (d:=7) fun y hy=>?_
  simp only[List.mem_cons,List.not_mem_nil,or_false]at hy
  rcases hy with rfl|rfl|rfl|rfl|rfl|rfl
  ·exact wf_atom 6 (by decide)
  ·exact wf_atom 6 (by omega)
  ·exact wf_atom 6 (by omega)
  ·exact wf_num 6 _
  ·exact wf_list fun y hy=>by obtain⟨x,_,rfl⟩:=List.mem_map.1 hy;exact wf_dig 5 x
  ·exact wf_list fun y hy=>by obtain⟨x,hx,rfl⟩:=List.mem_map.1 hy;exact wf_chg 2 (h5 x hx)
 ·rw[sPat,nd_list 7]
  simp only[List.map_cons,List.map_nil,List.sum_cons,List.sum_nil,nd_atom 6,nd_num 6,nd_list 6,List.map_map]
  have e1:=sum_map_le (l:=p.deps) (f:=ndX 6 ∘ sDig) (B:=1) fun x _=>Nat.le_of_eq (nd_dig 5 x)
  have e2:=sum_map_le (l:=p.changes) (f:=ndX 6 ∘ sChg) (B:=606) fun x hx=>nd_chg 2 (h5 x hx)
  have e3:=Nat.mul_le_mul_right 606 h4
  omega
 ·rw[rEnc,sPat,ln_list 7]
  simp only[List.map_cons,List.map_nil,List.sum_cons,List.sum_nil]
  have e0:(encX 7 (sAtom [113,117,105,108,116,49])).length≤22:=ln_atom 6 (s:= [113,117,105,108,116,49]) (by decide)
  have e1:(encX 7 (sAtom p.author)).length≤16+p.author.length:=ln_atom 6 (s:=p.author) (by omega)
  have e2:(encX 7 (sAtom p.message)).length≤16+p.message.length:=ln_atom 6 (s:=p.message) (by omega)
  have e3:(encX 7 (sNum p.time)).length≤32:=ln_num 6 p.time
  have e8:(encX 7 (sList (p.deps.map sDig))).length=2+((p.deps.map sDig).map fun a=>(encX 6 a).length).sum:=ln_list 6 _
  have e9:(encX 7 (sList (p.changes.map sChg))).length=2+((p.changes.map sChg).map fun a=>(encX 6 a).length).sum:=ln_list 6 _
  rw[List.map_map]at e8 e9
  have e4:=sum_map_le (l:=p.deps) (f:=(fun a=>(encX 6 a).length) ∘ sDig) (B:=48) fun x _=>ln_dig 5 x
  have e5:=sum_map_le (l:=p.changes) (f:=(fun a=>(encX 6 a).length) ∘ sChg) (B:=650000) fun x hx=>ln_chg 2 (h5 x hx)
  have e6:=Nat.mul_le_mul_right 650000 h4
  have e7:=Nat.mul_le_mul_right 48 h3
  omega
def rEncodeP (p:Pat):Str × Int:=if(rCheckP p).2≠0 then([],(rCheckP p).2)else rEncode p
theorem rEncodeP_len (p:Pat):(rEncodeP p).1.length≤65536:=by
 unfold rEncodeP rEncode
 split
 ·simp
 ·split
  ·simp
  ·dsimp only;omega
instance EncodeP_ct (p:Pat) [hs:Small (rGreat p=false)]:FnC Tryz.prog 120 [.agg (ePat p)] (.tuple [.str (rEncodeP p).1,.raw (.int .i64 (rEncodeP p).2)]):=⟨by
 have i1:Small (encOk p):=⟨encOk_of hs.out⟩
 refine fn_of Tryz.func120 Tryz.ntmps120 rfl (rs:= [.tmp 2,.tmp 3]) rfl rfl fun hb LF=>?_
 refine walkb fun b=>?_
 refine pwp_condN (fun h=>?_) (fun h=>?_)
 ·refine walk ?_
  refine end2 ?_
  rw[rEncodeP,if_pos h]
  exact .refl _
 ·refine walk ?_
  refine end2 ?_
  rw[rEncodeP,if_neg (by simp[h])]
  exact .refl _⟩
instance CheckP_ct (p:Pat) [hs:Small (rGreat p=false)]:FnC Tryz.prog 122 [.agg (ePat p)] (.raw (.int .i64 (rEncodeP p).2)):=⟨by
 refine fn_of Tryz.func122 Tryz.ntmps122 rfl (rs:= [.tmp 2]) rfl rfl fun hb LF=>?_
 refine walkb fun b=>?_
 exact end1 (.refl _)⟩
def rId (p:Pat):Dig × Int:=if(rEncodeP p).2≠0 then(Dig.zero,(rEncodeP p).2)else(rSum (rEncodeP p).1,0)
instance IdP_ct (p:Pat) [hs:Small (rGreat p=false)]:FnC Tryz.prog 89 [.agg (ePat p)] (.tuple [.agg (eDig (rId p).1),.raw (.int .i64 (rId p).2)]):=⟨by
 have i1:Small ((rEncodeP p).1.length≤1000000):=⟨by have:=rEncodeP_len p;omega⟩
 refine fn_of Tryz.func89 Tryz.ntmps89 rfl (rs:= [.cell 2 37,.tmp 3]) rfl rfl fun hb LF=>?_
 refine walkb fun b=>?_
 refine walkbp fun b2=>?_
 refine pwp_condN (fun h=>?_) (fun h=>?_)
 ·refine walk ?_
  refine endC1 rfl (.of_eq ?_)
  rw[rId,if_pos h]
 ·refine walk ?_
  refine endC1 rfl (.of_eq ?_)
  rw[rId,if_neg (by simp[h])]⟩
end Go.Proofs
namespace Go.Q
open Go
structure WrapF2 {α β:Type} (B:α→β→Prop):Prop where
 out: ∀ a b,B a b
section
variable {P:Program} {N:Nat} {all:Array Oper} {K:Env→List Res→Prop} {fl:List Bool} {os:List Oper} {ρ:Env} {L:List Res} {Q:PPost} {c:Code} {d:Nat} {ty:TypeId} {pos:String} {af:Array Edge}
theorem pwp_bd (i:Nat) (x:PV) (hx:ρ i=x) (k:Bd x→pwp P N c Q ρ L):pwp P N c Q ρ L:=fun ro base a w g hs=>k (hx ▸ (hs.agr.slot i).bd) ro base a w g hs
theorem s_bsT4 {T sz by_:Nat} [hE:TApp P T sz by_] {x0 x1 x2 x3:Operand} {a0 a1 a2 a3:PV} {α:Type} {f:α→List PV} {e0 e1 e2 e3:α} (q0:ρ.ev x0=a0) (q1:ρ.ev x1=a1) (q2:ρ.ev x2=a2) (q3:ρ.ev x3=a3) [hC0:EncC a0 f e0] [hC1:EncC a1 f e1] [hC2:EncC a2 f e2] [hC3:EncC a3 f e3] [hf:Len f sz] (h24:4*sz≤16777216)
  (k: ∀ t,pops P N all K fl.tail os (upd ρ d (.slice ([e0,e1,e2,e3].map f) t)) (.tok t [e0,e1,e2,e3].length sz::L)) (hd:Nat.blt d N=true:=by rfl) (hfl:fl.headD true=true:=by rfl):pops P N all K fl (⟨some d,.buildSlice T 4 #[(0,x0),(1,x1),(2,x2),(3,x3)],ty,pos,af,none⟩::os) ρ L:=
 pops_n rfl (dlt hd) hfl (opN_bsT (n:=4) (xs:= [x0,x1,x2,x3]) (cs:= [e0,e1,e2,e3].map f) rfl rfl h24 (by decide) (fun i h1 h2=>by
  match i,h1,h2 with
  |0,_,_=>exact⟨q0 ▸ hC0.out,hf.out e0⟩
  |1,_,_=>exact⟨q1 ▸ hC1.out,hf.out e1⟩
  |2,_,_=>exact⟨q2 ▸ hC2.out,hf.out e2⟩
  |3,_,_=>exact⟨q3 ▸ hC3.out,hf.out e3⟩
  |m+4,h1,_=>exact absurd h1 (by simp only[List.length_cons,List.length_nil];omega)) k)
theorem walkbt4 {A:Prop} {B:Nat→Tag→Prop} (k: ∀ b t,B b t) (h:WrapF2 B→A:=by
  intro hB
  refine walkx ?_
  first|refine s_box (by rfl) fun b=>?_|refine s_alloc fun b=>?_
  refine walkx ?_
  refine s_bsT4 (by(conv=>lhs;whnf);done) (by(conv=>lhs;whnf);done) (by(conv=>lhs;whnf);done) (by(conv=>lhs;whnf);done) (hC0:=(by first|infer_instance|fail)) (hC1:=(by first|infer_instance|fail)) (hC2:=(by first|infer_instance|fail)) (hC3:=(by first|infer_instance|fail)) (hf:=(by first|infer_instance|fail)) (by decide) fun t=>?_
  refine walk ?_
  exact hB.out b t):A:=h ⟨k⟩
end
end Go.Q
namespace Go.Q
open Go
def Asc (l:List Dig):Prop:=l.Pairwise Dig.lt
theorem Asc.nil:Asc []:=List.Pairwise.nil
theorem Asc.nodup {l:List Dig} (h:Asc l):l.Nodup:=List.Pairwise.imp (fun h=>Dig.ne_of_lt h) h
theorem mem_withD {x d:Dig}: ∀ {l:List Dig},x∈withD l d↔x=d∨x∈l
 | []=>by simp[withD]
 |y::l=>by
  unfold withD
  split
  ·simp only[List.mem_cons,mem_withD (l:=l)]
   constructor
   ·rintro(h|h|h)
    ·exact .inr (.inl h)
    ·exact .inl h
    ·exact .inr (.inr h)
   ·rintro(h|h|h)
    ·exact .inr (.inl h)
    ·exact .inl h
    ·exact .inr (.inr h)
  ·split
   ·rename_i h;subst h
    simp only[List.mem_cons]
    constructor
    ·exact .inr
    ·rintro(h|h)
     ·exact .inl h
     ·exact h
   ·simp only[List.mem_cons]
theorem withD_asc {d:Dig}: ∀ {l:List Dig},Asc l→Asc (withD l d)
 | [],_=>by unfold withD;exact List.pairwise_singleton _ _
 |y::l,h=>by
  obtain⟨h1,h2⟩:=List.pairwise_cons.1 h
  unfold withD
  split
  ·rename_i hy
   refine List.pairwise_cons.2 ⟨fun z hz=>?_,withD_asc h2⟩
   rcases mem_withD.1 hz with rfl|hz
   ·exact hy
   ·exact h1 z hz
  ·rename_i hy
   split
   ·exact h
   ·rename_i hne
    have hlt:Dig.lt d y:=by
     rcases Dig.tri d y with h'|h'|h'
     ·exact h'
     ·exact absurd h'.symm hne
     ·exact absurd h' hy
    refine List.pairwise_cons.2 ⟨fun z hz=>?_,h⟩
    rcases List.mem_cons.1 hz with rfl|hz
    ·exact hlt
    ·exact Dig.lt_trans hlt (h1 z hz)
theorem withD_len {l:List Dig} {d:Dig}:(withD l d).length≤l.length+1:=by
 induction l with
 |nil=>simp[withD]
 |cons y l ih=>
  unfold withD
  split
  ·simp only[List.length_cons];omega
  ·split<;>simp only[List.length_cons]<;>omega
theorem Asc.ext: ∀ {l m:List Dig},Asc l→Asc m→(∀ d,d∈l↔d∈m)→l=m
 | [],[],_,_,_=>rfl
 | [],y::m,_,_,h=>absurd ((h y).2 (by simp)) (by simp)
 |x::l,[],_,_,h=>absurd ((h x).1 (by simp)) (by simp)
 |x::l,y::m,hl,hm,h=>by
  obtain⟨l1,l2⟩:=List.pairwise_cons.1 hl
  obtain⟨m1,m2⟩:=List.pairwise_cons.1 hm
  have e:x=y:=by
   rcases List.mem_cons.1 ((h x).1 (by simp))with h1|h1
   ·exact h1
   ·rcases List.mem_cons.1 ((h y).2 (by simp))with h2|h2
    ·exact h2.symm
    ·exact absurd (l1 y h2) (Dig.lt_asymm (m1 x h1))
  subst e
  congr 1
  refine Asc.ext l2 m2 fun d=>?_
  have hd:=h d
  simp only[List.mem_cons]at hd
  constructor
  ·intro h1
   rcases hd.1 (.inr h1)with h2|h2
   ·subst h2;exact absurd (l1 _ h1) (Dig.lt_irrefl _)
   ·exact h2
  ·intro h1
   rcases hd.2 (.inr h1)with h2|h2
   ·subst h2;exact absurd (m1 _ h1) (Dig.lt_irrefl _)
   ·exact h2
def withAll (l m:List Dig):List Dig:=m.foldl withD l
theorem mem_withAll {x:Dig}: ∀ {m l:List Dig},x∈withAll l m↔x∈l∨x∈m
 | [],l=>by simp[withAll]
 |d::m,l=>by
  show x∈withAll (withD l d) m↔_
  rw[mem_withAll,mem_withD,List.mem_cons]
  constructor
  ·rintro((h|h)|h)
   ·exact .inr (.inl h)
   ·exact .inl h
   ·exact .inr (.inr h)
  ·rintro(h|h|h)
   ·exact .inl (.inr h)
   ·exact .inl (.inl h)
   ·exact .inr h
theorem withAll_asc: ∀ {m l:List Dig},Asc l→Asc (withAll l m)
 | [],_,h=>h
 |d::m,l,h=>by show Asc (withAll (withD l d) m);exact withAll_asc (withD_asc h)
theorem withAll_len: ∀ {m l:List Dig},(withAll l m).length≤l.length+m.length
 | [],_=>by simp[withAll]
 |d::m,l=>by
  show(withAll (withD l d) m).length≤_
  have h1:=withAll_len (m:=m) (l:=withD l d)
  have h2:=withD_len (l:=l) (d:=d)
  simp only[List.length_cons];omega
theorem nodup_len {α:Type} [DecidableEq α] {l:List α} (hl:l.Nodup) {m:List α} (h: ∀ d∈l,d∈m):l.length≤m.length:=by
 induction l generalizing m with
 |nil=>simp
 |cons x l ih=>
  obtain⟨h1,h2⟩:=List.nodup_cons.1 hl
  have hx:x∈m:=h x (by simp)
  have:=ih h2 (m:=m.erase x) fun d hd=>by
   have hne:d≠x:=fun e=>h1 (e ▸ hd)
   exact(List.mem_erase_of_ne hne).2 (h d (by simp[hd]))
  rw[List.length_erase_of_mem hx]at this
  have hp:0 < m.length:=List.length_pos_of_mem hx
  simp only[List.length_cons];omega
def roundC (nd:Dig→List Dig) (out:List Dig):List Dig:=out.foldl (fun m x=>withAll m (nd x)) out
def iterC (nd:Dig→List Dig):Nat→List Dig→List Dig
 |0,out=>out
 |n+1,out=>iterC nd n (roundC nd out)
inductive Reach (nd:Dig→List Dig) (ids:List Dig):Dig→Prop
 |base {d:Dig} (h:d∈ids):Reach nd ids d
 |step {x d:Dig} (h:Reach nd ids x) (hd:d∈nd x):Reach nd ids d
section
variable {nd:Dig→List Dig}
theorem mem_foldC {y:Dig}: ∀ {l m:List Dig},y∈l.foldl (fun m x=>withAll m (nd x)) m↔y∈m∨ ∃ x∈l,y∈nd x
 | [],m=>by simp
 |x::l,m=>by
  rw[List.foldl_cons,mem_foldC,mem_withAll]
  simp only[List.mem_cons,exists_eq_or_imp]
  rw[or_assoc]
theorem foldC_asc: ∀ {l m:List Dig},Asc m→Asc (l.foldl (fun m x=>withAll m (nd x)) m)
 | [],_,h=>h
 |x::l,m,h=>by rw[List.foldl_cons];exact foldC_asc (withAll_asc h)
theorem mem_roundC {y:Dig} {out:List Dig}:y∈roundC nd out↔y∈out∨ ∃ x∈out,y∈nd x:=mem_foldC
theorem roundC_asc {out:List Dig} (h:Asc out):Asc (roundC nd out):=foldC_asc h
theorem iterC_asc: ∀ {n:Nat} {out:List Dig},Asc out→Asc (iterC nd n out)
 |0,_,h=>h
 |n+1,_,h=>iterC_asc (n:=n) (roundC_asc h)
theorem iterC_sound {ids:List Dig}: ∀ {n:Nat} {out:List Dig},(∀ d∈out,Reach nd ids d)→ ∀ d∈iterC nd n out,Reach nd ids d
 |0,_,h=>h
 |n+1,out,h=>iterC_sound (n:=n) fun d hd=>by
  rcases mem_roundC.1 hd with h1|⟨x,hx,h1⟩
  ·exact h d h1
  ·exact .step (h x hx) h1
theorem iterC_in {U:List Dig} (hU: ∀ x∈U,∀ d∈nd x,d∈U): ∀ {n:Nat} {out:List Dig},(∀ d∈out,d∈U)→ ∀ d∈iterC nd n out,d∈U
 |0,_,h=>h
 |n+1,out,h=>iterC_in hU (n:=n) fun d hd=>by
  rcases mem_roundC.1 hd with h1|⟨x,hx,h1⟩
  ·exact h d h1
  ·exact hU x (h x hx) d h1
theorem iterC_sub: ∀ {n:Nat} {out:List Dig} {d:Dig},d∈out→d∈iterC nd n out
 |0,_,_,h=>h
 |n+1,_,_,h=>iterC_sub (n:=n) (mem_roundC.2 (.inl h))
theorem iterC_closed {U:List Dig} (hU: ∀ x∈U,∀ d∈nd x,d∈U): ∀ {n:Nat} {out:List Dig},Asc out→(∀ d∈out,d∈U)→U.length+1≤out.length+n∨out= []∨(∀ x∈out,∀ d∈nd x,d∈out)→ ∀ x∈iterC nd n out,∀ d∈nd x,d∈iterC nd n out
 |0,out,ha,hu,h=>by
  rcases h with h|h|h
  ·have:=nodup_len ha.nodup hu
   omega
  ·subst h;intro x hx;cases hx
  ·exact h
 |n+1,out,ha,hu,h=>by
  have hu': ∀ d∈roundC nd out,d∈U:=iterC_in hU (n:=1) hu
  refine iterC_closed hU (n:=n) (roundC_asc ha) hu' ?_
  by_cases hc: ∀ x∈out,∀ d∈nd x,d∈out
  ·refine .inr (.inr ?_)
   have e:roundC nd out=out:=Asc.ext (roundC_asc ha) ha fun d=>by
    rw[mem_roundC]
    constructor
    ·rintro(h1|⟨x,hx,h1⟩)
     ·exact h1
     ·exact hc x hx d h1
    ·exact .inl
   rw[e];exact hc
  ·rcases h with h|h|h
   ·refine .inl ?_
    have:out.length+1≤(roundC nd out).length:=by
     have⟨x,hx⟩:=Classical.not_forall.1 hc
     have⟨hx1,hx2⟩:=Classical.not_imp.1 hx
     have⟨d,hd⟩:=Classical.not_forall.1 hx2
     have⟨hd1,hd2⟩:=Classical.not_imp.1 hd
     have hn:(d::out).Nodup:=List.nodup_cons.2 ⟨hd2,ha.nodup⟩
     have:=nodup_len hn (m:=roundC nd out) fun y hy=>by
      rcases List.mem_cons.1 hy with rfl|hy
      ·exact mem_roundC.2 (.inr ⟨x,hx1,hd1⟩)
      ·exact mem_roundC.2 (.inl hy)
     simpa using this
    omega
   ·subst h
    exact absurd (fun x hx=>by cases hx) hc
   ·exact absurd h hc
theorem mem_iterC {U ids:List Dig} (hU: ∀ x∈U,∀ d∈nd x,d∈U) (hi: ∀ d∈ids,d∈U) {n:Nat} (hn:U.length≤n) {d:Dig}:d∈iterC nd n (withAll [] ids)↔Reach nd ids d:=by
 have hin: ∀ d∈withAll [] ids,d∈U:=fun d hd=>by
  rcases mem_withAll.1 hd with h|h
  ·cases h
  ·exact hi d h
 refine⟨fun h=>iterC_sound (fun d hd=>?_) d h,fun h=>?_⟩
 ·rcases mem_withAll.1 hd with h|h
  ·cases h
  ·exact .base h
 ·have ha:Asc (withAll [] ids):=withAll_asc .nil
  have hcl:=iterC_closed (nd:=nd) hU (n:=n) ha hin (by
   cases hw:withAll [] ids with
   |nil=>exact .inr (.inl rfl)
   |cons x l=>exact .inl (by simp;omega))
  induction h with
  |base h=>exact iterC_sub (mem_withAll.2 (.inr h))
  |step h hd ih=>exact hcl _ ih _ hd
theorem Reach.in_ {U ids:List Dig} (hU: ∀ x∈U,∀ d∈nd x,d∈U) (hi: ∀ d∈ids,d∈U) {d:Dig} (h:Reach nd ids d):d∈U:=by
 induction h with
 |base h=>exact hi _ h
 |step h hd ih=>exact hU _ ih _ hd
end
end Go.Q
namespace Go.Q
open Go
section
variable (clo:Dig→List Dig)
end
end Go.Q
namespace Go.Proofs
open Go Go.Q
attribute [local irreducible] pwp pops PCalls OpN
def rIds (c:Chg):List Ident:= [c.file,c.parent,c.after,c.before]++c.over
def rForeign (l:List Ident):List Dig:=(l.filter fun x=>!decide (x.patch=Dig.zero)).map (·.patch)
def rNeedsC (m:List Dig) (c:Chg):List Dig:=withAll m (rForeign (rIds c))
def rNeeds (p:Pat):List Dig:=if(rEncodeP p).2≠0 then []else p.changes.foldl rNeedsC (withAll [] p.deps)
theorem withAll_snoc (l m:List Dig) (d:Dig):withAll l (m++ [d])=withD (withAll l m) d:=by
 unfold withAll;rw[List.foldl_append];rfl
theorem rForeign_len (l:List Ident):(rForeign l).length≤l.length:=by
 unfold rForeign;rw[List.length_map];exact List.length_filter_le _ _
theorem rForeign_take {l:List Ident} {k:Nat} (h:k < l.length):rForeign (l.take (k+1))=rForeign (l.take k)++(if l[k].patch=Dig.zero then []else [l[k].patch]):=by
 unfold rForeign
 rw[List.take_succ_eq_append_getElem h,List.filter_append,List.map_append]
 by_cases hz:l[k].patch=Dig.zero<;>simp[hz]
set_option maxHeartbeats 2000000 in
instance Needs_ct (p:Pat) [hs:Small (rGreat p=false)]:FnC Tryz.prog 91 [.agg (ePat p)] (.slice ((rNeeds p).map eDig) .ro):=⟨by
 obtain⟨_,_,hd,hch,hcs⟩:=great_facts hs.out
 refine fn_of Tryz.func91 Tryz.ntmps91 rfl (rs:= [.tmp 2]) rfl rfl fun hb LF=>?_
 refine walkb fun b=>?_
 refine pwp_condN (fun h=>?_) (fun h=>?_)
 ·refine walk ?_
  refine end1 ?_
  rw[rNeeds,if_pos h]
  exact .ro _ _
 rw[rNeeds,if_neg (by simp[h])]
 refine walk ?_
 refine pwp_loopS (σ:=Nat × List Dig × Tag) (fun k=>k.1≤p.deps.length∧k.2.1=withAll [] (p.deps.take k.1)) (fun k=>p.deps.length - k.1) (fun k=> [(1,.raw (.pointer (some ⟨b,0,none⟩))),(3,.slice (k.2.1.map eDig) k.2.2),(4,.raw (.int .i64 k.1))]) (fun _=> .box b 57 (ePat p)::LF) (0,[],.nil) ⟨by simp,by simp[withAll]⟩ ⟨rfl,rfl,rfl⟩ (.refl _) ?_
 rintro⟨k,out,t⟩ ⟨hk,ho⟩
 dsimp only at hk ho ⊢
 have hol:out.length≤20:=by
  rw[ho]
  have:=withAll_len (m:=p.deps.take k) (l:= [])
  simp only[List.length_take,List.length_nil]at this;omega
 refine walk ?_
 refine pwp_condD (fun hc=>?_) (fun hc=>?_)
 ·have hlt:k < p.deps.length:=by omega
  have:Small (out.length≤1000000):=⟨by omega⟩
  refine walk ?_
  refine⟨(k+1,withD out p.deps[k],.ro),⟨by dsimp only;omega,by dsimp only;rw[List.take_succ_eq_append_getElem hlt,withAll_snoc,ho]⟩,by dsimp only;omega,⟨rfl,rfl,rfl⟩,.refl _⟩
 rw[List.take_of_length_le (by omega)]at ho
 refine walk ?_
 refine pwp_loopS (σ:=Nat × List Dig × Tag) (fun k=>k.1≤p.changes.length∧k.2.1.length≤20+k.1*44∧k.2.1=(p.changes.take k.1).foldl rNeedsC (withAll [] p.deps)) (fun k=>p.changes.length - k.1) (fun k=> [(1,.raw (.pointer (some ⟨b,0,none⟩))),(3,.slice (k.2.1.map eDig) k.2.2),(5,.raw (.int .i64 k.1))]) (fun _=> .box b 57 (ePat p)::LF) (0,out,t) ⟨by simp,by simp;omega,by simp[ho]⟩ ⟨rfl,rfl,rfl⟩ (.refl _) ?_
 clear ho hol hk hc k out t
 rintro⟨k,out,t⟩ ⟨hk,hol,ho⟩
 dsimp only at hk hol ho ⊢
 refine walk ?_
 refine pwp_condD (fun hc=>?_) (fun hc=>?_)
 ·have hlt:k < p.changes.length:=by omega
  have hov:=(hcs _ (List.getElem_mem hlt)).over
  refine walkbt4 fun b2 t2=>?_
  refine walkap fun t3=>?_
  generalize hl: [p.changes[k].file,p.changes[k].parent,p.changes[k].after,p.changes[k].before]++p.changes[k].over=l
  have hll:l.length≤44:=by rw[←hl];simp only[List.length_append,List.length_cons,List.length_nil];omega
  refine pwp_loopS (σ:=Nat × List Dig × Tag) (fun j=>j.1≤l.length∧j.2.1=withAll out (rForeign (l.take j.1))) (fun j=>l.length - j.1) (fun j=> [(1,.raw (.pointer (some ⟨b,0,none⟩))),(3,.slice (j.2.1.map eDig) j.2.2),(5,.raw (.int .i64 k)),(7,.slice (l.map eIdent) t3),(8,.raw (.int .i64 j.1))]) (fun _=> .box b 57 (ePat p)::LF) (0,out,t) ⟨by simp,by simp[rForeign,withAll]⟩ ⟨rfl,rfl,rfl,rfl,rfl⟩ (.cons _ (.cons _ (.refl _))) ?_
  rintro⟨j,m,u⟩ ⟨hj,hm⟩
  dsimp only at hj hm ⊢
  have hml:m.length≤20+k*44+44:=by
   rw[hm]
   have h1:=withAll_len (m:=rForeign (l.take j)) (l:=out)
   have h2:=rForeign_len (l.take j)
   have h3:(l.take j).length≤44:=by rw[List.length_take];omega
   omega
  refine walk ?_
  refine pwp_condD (fun hc2=>?_) (fun hc2=>?_)
  ·have hlt2:j < l.length:=by omega
   have e:=rForeign_take hlt2
   refine walk ?_
   refine pwp_condN (fun hz=>?_) (fun hz=>?_)
   ·have:Small (m.length≤1000000):=⟨by omega⟩
    refine walk ?_
    rw[if_neg hz]at e
    refine⟨(j+1,withD m l[j].patch,.ro),⟨by dsimp only;omega,by dsimp only;rw[e,withAll_snoc,hm]⟩,by dsimp only;omega,⟨rfl,rfl,rfl,rfl,rfl⟩,.refl _⟩
   ·refine walk ?_
    rw[if_pos hz,List.append_nil]at e
    refine⟨(j+1,m,u),⟨by dsimp only;omega,by dsimp only;rw[e,hm]⟩,by dsimp only;omega,⟨rfl,rfl,rfl,rfl,rfl⟩,.refl _⟩
  ·refine walk ?_
   rw[List.take_of_length_le (by omega)]at hm
   have e:(p.changes.take (k+1)).foldl rNeedsC (withAll [] p.deps)=m:=by
    rw[List.take_succ_eq_append_getElem hlt,List.foldl_append,←ho,hm,←hl];rfl
   refine⟨(k+1,m,u),⟨by dsimp only;omega,by dsimp only;omega,e.symm⟩,by dsimp only;omega,⟨rfl,rfl,rfl⟩,.refl _⟩
 ·refine walk ?_
  refine end1 ?_
  rw[List.take_of_length_le (by omega)]at ho
  rw[←ho]
  exact .ro _ _⟩
end Go.Proofs
namespace Go.Proofs
open Go Go.Q
attribute [local irreducible] pwp pops PCalls OpN
def rHvC (c:Chg):Nat:=1+c.lines.length+c.over.length
def rHv (x:Sto):Nat:=(x.patch.changes.map rHvC).sum
def rGreatS (s:List Sto):Bool:=(s.take 9).any (fun x=>rGreat x.patch)||decide (8 < (s.length:Int))||decide (300 < (((s.take 9).map rHv).sum:Int))
theorem rHvC_le {c:Chg} (h:chgOk c):rHvC c≤81:=by have:=h.lines;have:=h.over;unfold rHvC;omega
set_option maxHeartbeats 1000000 in
instance Heavy_ct (s:List Sto) (t:Tag):FnC Tryz.prog 87 [.slice (s.map eSto) t,.raw (.int .i64 8)] (.raw (.bool (rGreatS s))):=⟨by
 refine fn_of Tryz.func87 Tryz.ntmps87 rfl (rs:= [.tmp 4]) rfl rfl fun hb LF=>?_
 have hlen:s.length≤140737488355328:=(hb (.slice (s.map eSto) t) (by simp)).slice_map
 refine walk ?_
 refine pwp_loopS (σ:=Nat × Nat) (fun k=>k.1≤s.length∧k.1≤9∧(∀ i (h:i < s.length),i < k.1→rGreat s[i].patch=false)∧k.2≤k.1*1620∧k.2=((s.take k.1).map rHv).sum) (fun k=>s.length - k.1) (fun k=> [(0,.slice (s.map eSto) t),(1,.raw (.int .i64 8)),(5,.raw (.int .i64 (k.2:Int))),(6,.raw (.int .i64 (k.1:Int)))]) (fun _=>LF) (0,0) ⟨by simp,by simp,by simp,by simp,by simp⟩ ⟨rfl,rfl,rfl,rfl⟩ (.refl _) ?_
 rintro⟨i,n⟩ ⟨hi,hi9,hg,hn,hs⟩
 dsimp only at hi hi9 hg hn hs ⊢
 have fin:(i:Int) < s.length∧(i:Int)≤8∨ ¬((i:Int) < s.length∧(i:Int)≤8):=Classical.em _
 refine walk ?_
 refine pops_cutE [(16,.raw (.bool (decide ((i:Int) < s.length∧(i:Int)≤8)))),(0,.slice (s.map eSto) t),(1,.raw (.int .i64 8)),(5,.raw (.int .i64 (n:Int))),(6,.raw (.int .i64 (i:Int)))] (LF) ?_ ?_
 ·repeat' (first|(refine pwp_condD (fun h=>?_) (fun h=>?_)<;>refine walk ?_)|(refine pwp_condN (fun h=>?_) (fun h=>?_)<;>refine walk ?_)|(refine pwp_condB (fun h=>?_) (fun h=>?_)<;>refine walk ?_)|(refine pops_if (fun h=>?_) (fun h=>?_)<;>(have h2:=h;(try simp only[decide_eq_true_eq,decide_eq_false_iff_not,Bool.not_eq_true',Bool.not_eq_false']at h2);refine walkp ?_)))
  all_goals (refine⟨⟨holdsB (by rfl) ?_,rfl,rfl,rfl,rfl⟩,.refl _⟩;first|(simp_all;done)|(simp_all;omega)|grind)
 refine walk ?_
 clear fin
 refine pwp_condD (fun hc=>?_) (fun hc=>?_)
 ·have hlt:i < s.length:=by omega
  refine walk ?_
  refine pwp_condB (fun h=>?_) (fun h=>?_)
  ·refine walk ?_
   refine end1 (.of_eq ?_)
   have:(s.take 9).any (fun x=>rGreat x.patch)=true:=by
    rw[List.any_eq_true]
    exact⟨s[i],List.mem_iff_getElem.2 ⟨i,by rw[List.length_take];omega,by simp⟩,h⟩
   rw[rGreatS,this];rfl
  obtain⟨_,_,_,hch,hcs⟩:=great_facts h
  refine walk ?_
  refine pwp_loopS (σ:=Nat × Nat) (fun j=>j.1≤s[i].patch.changes.length∧j.2≤n+j.1*81∧j.2=n+((s[i].patch.changes.take j.1).map rHvC).sum) (fun j=>s[i].patch.changes.length - j.1) (fun j=> [(0,.slice (s.map eSto) t),(1,.raw (.int .i64 8)),(5,.raw (.int .i64 (j.2:Int))),(6,.raw (.int .i64 (i:Int))),(7,.raw (.int .i64 (j.1:Int)))]) (fun _=>LF) (0,n) ⟨by simp,by simp,by simp⟩ ⟨rfl,rfl,rfl,rfl,rfl⟩ (.refl _) ?_
  rintro⟨j,m⟩ ⟨hj,hm,hms⟩
  dsimp only at hj hm hms ⊢
  refine walk ?_
  refine pwp_condD (fun hc2=>?_) (fun hc2=>?_)
  ·have hlt2:j < s[i].patch.changes.length:=by omega
   have hco:=hcs _ (List.getElem_mem hlt2)
   have h81:=rHvC_le hco
   have hl40:=hco.lines
   have ho40:=hco.over
   have e:=sum_map_take (f:=rHvC) hlt2
   have e2:rHvC s[i].patch.changes[j]=1+s[i].patch.changes[j].lines.length+s[i].patch.changes[j].over.length:=rfl
   refine walk ?_
   refine⟨(j+1,m+rHvC s[i].patch.changes[j]),⟨by dsimp only;omega,by dsimp only;omega,by dsimp only;omega⟩,by dsimp only;omega,⟨rfl,rfl,?_,rfl,rfl⟩,.refl _⟩
   show PV.raw (Value.int .i64 _)=PV.raw (Value.int .i64 _)
   congr 2;dsimp only;omega
  ·refine walk ?_
   rw[List.take_of_length_le (by omega)]at hms
   have e:=sum_map_take (f:=rHv) hlt
   refine⟨(i+1,m),⟨by dsimp only;omega,by dsimp only;omega,fun x hx hxi=>?_,by dsimp only;omega,?_⟩,by dsimp only;omega,⟨rfl,rfl,rfl,rfl⟩,.refl _⟩
   ·rcases Nat.lt_or_ge x i with h'|h'
    ·exact hg x hx h'
    ·have:x=i:=by dsimp only at hxi;omega
     subst this;exact h
   ·dsimp only;rw[e,←hs];exact hms
 ·refine walk ?_
  have hany:(s.take 9).any (fun x=>rGreat x.patch)=false:=by
   rw[List.any_eq_false];intro x hx
   obtain⟨j,hj,rfl⟩:=List.mem_iff_getElem.1 hx
   rw[List.length_take]at hj
   simp only[List.getElem_take]
   rw[hg j (by omega) (by omega)];simp
  have htk:s.take i=s.take 9:=by
   by_cases h9:i=9
   ·rw[h9]
   ·rw[List.take_of_length_le (by omega),List.take_of_length_le (by omega)]
  rw[htk]at hs
  have key:rGreatS s=(decide (8 < (s.length:Int))||decide (300 < (n:Int))):=by rw[rGreatS,hany,Bool.false_or,←hs]
  rw[key]
  clear key hany hs htk hg
  repeat' (first|(refine pwp_condD (fun h=>?_) (fun h=>?_)<;>refine walk ?_)|(refine pwp_condN (fun h=>?_) (fun h=>?_)<;>refine walk ?_)|(refine pwp_condB (fun h=>?_) (fun h=>?_)<;>refine walk ?_)|(refine pops_if (fun h=>?_) (fun h=>?_)<;>(have h2:=h;(try simp only[decide_eq_true_eq,decide_eq_false_iff_not,Bool.not_eq_true',Bool.not_eq_false']at h2);refine walkp ?_)))
  all_goals (refine end1 (.of_eq ?_);first|(simp_all;done)|grind)⟩
instance GreatS_ct (s:List Sto) (t:Tag):FnC Tryz.prog 42 [.slice (s.map eSto) t] (.raw (.bool (rGreatS s))):=⟨by
 refine fn_of Tryz.func42 Tryz.ntmps42 rfl (rs:= [.tmp 2]) rfl rfl fun hb LF=>?_
 refine walk ?_
 exact end1 (.refl _)⟩
def goodS (s:List Sto):Prop:=s.length≤40∧ ∀ x∈s,rGreat x.patch=false
def rBetter (s:List Sto) (out:List Dig) (k:Int) (i:Nat):Int:=
 if(¬(s.getD i Sto.zero).id∈out∧allIn out (rNeeds (s.getD i Sto.zero).patch)=true)∧(k < 0∨cmpD (s.getD i Sto.zero).id (s.getD k.toNat Sto.zero).id < 0)then(i:Int)else k
def rPick (s:List Sto) (out:List Dig):Int:=(List.range s.length).foldl (rBetter s out) (-1)
def rOrd (s:List Sto):Nat→List Dig→List Dig
 |0,out=>out
 |n+1,out=>if rPick s out < 0 then out else rOrd s n (out++ [(s.getD (rPick s out).toNat Sto.zero).id])
def rOrder (s:List Sto):List Dig:=rOrd s s.length []
theorem rBetter_range {s:List Sto} {out:List Dig} (n:Nat): -1≤(List.range n).foldl (rBetter s out) (-1)∧(List.range n).foldl (rBetter s out) (-1) < n:=by
 induction n with
 |zero=>simp
 |succ n ih=>
  rw[foldl_range_succ]
  generalize (List.range n).foldl (rBetter s out) (-1)=k at ih
  unfold rBetter
  split<;>omega
set_option maxHeartbeats 2000000 in
instance Order_ct (s:List Sto) (t:Tag) [hs:Small (goodS s)]:FnC Tryz.prog 59 [.slice (s.map eSto) t] (.slice ((rOrder s).map eDig) .ro):=⟨by
 obtain⟨hl8,hgr⟩:=hs.out
 refine fn_of Tryz.func59 Tryz.ntmps59 rfl (rs:= [.tmp 2]) rfl rfl fun hb LF=>?_
 refine walk ?_
 refine pwp_tok 32 ?_
 refine pwp_loopS (σ:=Nat × List Dig × Tag) (fun k=>k.1≤s.length∧k.2.1.length+k.1=s.length∧rOrder s=rOrd s k.1 k.2.1) (fun k=>k.1) (fun k=> [(0,.slice (s.map eSto) t),(3,.slice (k.2.1.map eDig) k.2.2)]) (fun k=> .tok k.2.2 k.2.1.length 32::LF) (s.length,[],.nil) ⟨by simp,by simp,rfl⟩ ⟨rfl,rfl⟩ (.refl _) ?_
 rintro⟨n,out,u⟩ ⟨hn,hol,ho⟩
 dsimp only at hn hol ho ⊢
 refine walk ?_
 refine pwp_condD (fun hc=>?_) (fun hc=>?_)
 ·obtain⟨m,rfl⟩: ∃ m,n=m+1:=⟨n - 1,by omega⟩
  rw[rOrd]at ho
  have hpr:=rBetter_range (s:=s) (out:=out) s.length
  refine walk ?_
  refine pwp_loopS (σ:=Nat) (fun i=>i≤s.length) (fun i=>s.length - i) (fun i=> [(0,.slice (s.map eSto) t),(3,.slice (out.map eDig) u),(4,.raw (.int .i64 ((List.range i).foldl (rBetter s out) (-1)))),(5,.raw (.int .i64 (i:Int)))]) (fun _=> .tok u out.length 32::LF) 0 (by simp) ⟨rfl,rfl,rfl,rfl⟩ (.refl _) ?_
  intro i hi
  have hkr:=rBetter_range (s:=s) (out:=out) i
  have hsucc:=foldl_range_succ (rBetter s out) (-1) i
  generalize hkk:(List.range i).foldl (rBetter s out) (-1)=k at hkr hsucc ⊢
  refine walk ?_
  refine pwp_condD (fun hc2=>?_) (fun hc2=>?_)
  ·have hlt:i < s.length:=by omega
   have i1:Small (rGreat s[i].patch=false):=⟨hgr _ (List.getElem_mem hlt)⟩
   have e0:s.getD i Sto.zero=s[i]:=by simp[List.getD,hlt]
   rw[rBetter,e0]at hsucc
   refine walk ?_
   refine pops_cutE [(53,.raw (.bool (decide ((¬s[i].id∈out∧allIn out (rNeeds s[i].patch)=true)∧(k < 0∨cmpD s[i].id (s.getD k.toNat Sto.zero).id < 0))))),(0,.slice (s.map eSto) t),(3,.slice (out.map eDig) u),(4,.raw (.int .i64 k)),(5,.raw (.int .i64 (i:Int)))] (.tok u out.length 32::LF) ?_ ?_
   ·repeat' (first|(refine pwp_condD (fun h=>?_) (fun h=>?_)<;>refine walk ?_)|(refine pwp_condN (fun h=>?_) (fun h=>?_)<;>refine walk ?_)|(refine pwp_condB (fun h=>?_) (fun h=>?_)<;>refine walk ?_)|(refine pops_if (fun h=>?_) (fun h=>?_)<;>(have h2:=h;(try simp only[decide_eq_true_eq,decide_eq_false_iff_not,Bool.not_eq_true',Bool.not_eq_false']at h2);refine walkp ?_)))
    all_goals (refine⟨⟨holdsB (by rfl) ?_,rfl,rfl,rfl,rfl⟩,.refl _⟩;first|(simp_all;done)|(have hkl:k.toNat < s.length:=(by omega);simp_all[List.getD];done)|grind)
   refine walk ?_
   refine pwp_condD (fun h=>?_) (fun h=>?_)
   ·refine walk ?_
    rw[if_pos h]at hsucc
    refine⟨i+1,by omega,by dsimp only;omega,⟨rfl,rfl,?_,rfl⟩,.refl _⟩
    rw[hsucc];rfl
   ·refine walk ?_
    rw[if_neg h]at hsucc
    refine⟨i+1,by omega,by dsimp only;omega,⟨rfl,rfl,?_,rfl⟩,.refl _⟩
    rw[hsucc];rfl
  ·have hii:i=s.length:=by omega
   subst hii
   have hpk:rPick s out=k:=hkk
   rw[hpk]at ho
   refine walk ?_
   refine pwp_condD (fun h=>?_) (fun h=>?_)
   ·refine walk ?_
    rw[if_pos h]at ho
    refine end1 ?_
    rw[ho];exact .ro _ _
   ·rw[if_neg h]at ho
    have hkl:k.toNat < s.length:=by omega
    have e0:s.getD k.toNat Sto.zero=s[k.toNat]:=by simp[List.getD,hkl]
    rw[e0]at ho
    refine walka fun u'=>?_
    refine⟨(m,out++ [s[k.toNat].id],u'),⟨by dsimp only;omega,by dsimp only;rw[List.length_append,List.length_singleton];omega,ho⟩,by dsimp only;omega,⟨rfl,rfl⟩,.refl _⟩
 ·refine walk ?_
  have hn0:n=0:=by omega
  subst hn0
  refine end1 ?_
  rw[ho];exact .ro _ _⟩
end Go.Proofs
namespace Go.Proofs
open Go Go.Q
attribute [local irreducible] pwp pops PCalls OpN
theorem great_zero:rGreat Pat.zero=false:=by simp[rGreat,Pat.zero,rTot]
theorem needs_zero:rNeeds Pat.zero= []:=by
 have h:(rEncodeP Pat.zero).2≠0:=by simp[rEncodeP,rCheckP,rName,Pat.zero]
 rw[rNeeds,if_pos h]
theorem getS_mem {s:List Sto} {d:Dig} {p:Pat} (h:getS s d=some p): ∃ x∈s,x.id=d∧x.patch=p:=by
 induction s with
 |nil=>cases h
 |cons y s ih=>
  unfold getS at h
  split at h
  ·rename_i he
   exact⟨y,by simp,he,by simpa using h⟩
  ·obtain⟨x,hx,h1⟩:=ih h
   exact⟨x,by simp[hx],h1⟩
def ndS (s:List Sto) (d:Dig):List Dig:=rNeeds ((getS s d).getD Pat.zero)
def closeS (s:List Sto):Prop:=goodS s∧ ∀ x∈s,∀ d∈rNeeds x.patch,d∈ids s
theorem closeS.great {s:List Sto} (h:closeS s) (d:Dig):rGreat ((getS s d).getD Pat.zero)=false:=by
 cases hg:getS s d with
 |none=>exact great_zero
 |some p=>
  obtain⟨x,hx,_,rfl⟩:=getS_mem hg
  exact h.1.2 x hx
theorem closeS.nd {s:List Sto} (h:closeS s) (x:Dig): ∀ d∈ndS s x,d∈ids s:=by
 unfold ndS
 cases hg:getS s x with
 |none=>rw[Option.getD_none,needs_zero];intro d hd;cases hd
 |some p=>
  obtain⟨y,hy,_,rfl⟩:=getS_mem hg
  exact h.2 y hy
theorem ids_len (s:List Sto):(ids s).length=s.length:=by simp[ids]
theorem closeS.small {s:List Sto} (h:closeS s) {l:List Dig} (ha:Asc l) (hl: ∀ d∈l,d∈ids s):l.length≤40:=by
 have h1:=nodup_len ha.nodup hl
 have h2:=h.1.1
 rw[ids_len]at h1;omega
def rClosure (s:List Sto) (l:List Dig):List Dig × Int:=if allIn (ids s) l=false then([],7)else(iterC (ndS s) s.length (withAll [] l),0)
set_option maxHeartbeats 2000000 in
instance Closure_ct (s:List Sto) (l:List Dig) (t u:Tag) [hs:Small (closeS s)]:FnC Tryz.prog 52 [.slice (s.map eSto) t,.slice (l.map eDig) u] (.tuple [.slice ((rClosure s l).1.map eDig) .ro,.raw (.int .i64 (rClosure s l).2)]):=⟨by
 have hcl:=hs.out
 have hl8:=hcl.1.1
 refine fn_of Tryz.func52 Tryz.ntmps52 rfl (rs:= [.tmp 4,.tmp 5]) rfl rfl fun hb LF=>?_
 have hlen:l.length≤140737488355328:=(hb (.slice (l.map eDig) u) (by simp)).slice_map
 refine walk ?_
 refine pwp_condB (fun h=>?_) (fun h=>?_)
 ·refine walk ?_
  refine end2 ?_
  rw[rClosure,if_pos (by simpa using h)]
  exact .tuple2 (.ro _ _) (.refl _)
 rw[rClosure,if_neg (by simpa using h)]
 have hin: ∀ d∈l,d∈ids s:=by
  have h':allIn (ids s) l=true:=by simpa using h
  intro d hd
  have:=List.all_eq_true.1 h' d hd
  simpa using this
 refine walk ?_
 refine pwp_loopS (σ:=Nat × List Dig × Tag) (fun k=>k.1≤l.length∧k.2.1=withAll [] (l.take k.1)) (fun k=>l.length - k.1) (fun k=> [(0,.slice (s.map eSto) t),(1,.slice (l.map eDig) u),(6,.slice (k.2.1.map eDig) k.2.2),(7,.raw (.int .i64 k.1))]) (fun _=>LF) (0,[],.nil) ⟨by simp,by simp[withAll]⟩ ⟨rfl,rfl,rfl,rfl⟩ (.refl _) ?_
 rintro⟨k,out,v⟩ ⟨hk,ho⟩
 dsimp only at hk ho ⊢
 have hoa:Asc out:=by rw[ho];exact withAll_asc .nil
 have hoi: ∀ d∈out,d∈ids s:=fun d hd=>by
  rw[ho]at hd
  rcases mem_withAll.1 hd with h'|h'
  ·cases h'
  ·exact hin d (List.mem_of_mem_take h')
 have hol:=hcl.small hoa hoi
 refine walk ?_
 refine pwp_condD (fun hc=>?_) (fun hc=>?_)
 ·have hlt:k < l.length:=by omega
  have:Small (out.length≤1000000):=⟨by omega⟩
  refine walk ?_
  refine⟨(k+1,withD out l[k],.ro),⟨by dsimp only;omega,by dsimp only;rw[List.take_succ_eq_append_getElem hlt,withAll_snoc,ho]⟩,by dsimp only;omega,⟨rfl,rfl,rfl,rfl⟩,.refl _⟩
 rw[List.take_of_length_le (by omega)]at ho
 refine walk ?_
 refine pwp_loopS (σ:=Nat × List Dig × Tag) (fun k=>k.1≤s.length∧Asc k.2.1∧(∀ d∈k.2.1,d∈ids s)∧iterC (ndS s) s.length (withAll [] l)=iterC (ndS s) (s.length - k.1) k.2.1) (fun k=>s.length - k.1) (fun k=> [(0,.slice (s.map eSto) t),(6,.slice (k.2.1.map eDig) k.2.2),(8,.raw (.int .i64 k.1))]) (fun _=>LF) (0,out,v) ⟨by simp,hoa,hoi,by simp[ho]⟩ ⟨rfl,rfl,rfl⟩ (.refl _) ?_
 clear ho hoa hoi hol hk hc k out v
 rintro⟨n,out,v⟩ ⟨hn,hoa,hoi,ho⟩
 dsimp only at hn hoa hoi ho ⊢
 have hol:=hcl.small hoa hoi
 refine walk ?_
 refine pwp_condD (fun hc=>?_) (fun hc=>?_)
 ·refine walk ?_
  refine pwp_loopS (σ:=Nat × List Dig × Tag) (fun i=>i.1≤out.length∧i.2.1=(out.take i.1).foldl (fun m x=>withAll m (ndS s x)) out) (fun i=>out.length - i.1) (fun i=> [(0,.slice (s.map eSto) t),(6,.slice (out.map eDig) v),(8,.raw (.int .i64 n)),(9,.slice (i.2.1.map eDig) i.2.2),(10,.raw (.int .i64 i.1))]) (fun _=>LF) (0,out,v) ⟨by simp,by simp⟩ ⟨rfl,rfl,rfl,rfl,rfl⟩ (.refl _) ?_
  rintro⟨i,more,w⟩ ⟨hi,hm⟩
  dsimp only at hi hm ⊢
  have hma:Asc more:=by rw[hm];exact foldC_asc hoa
  have hmi: ∀ d∈more,d∈ids s:=fun d hd=>by
   rw[hm]at hd
   rcases mem_foldC.1 hd with h'|⟨x,_,h'⟩
   ·exact hoi d h'
   ·exact hcl.nd x d h'
  refine walk ?_
  refine pwp_condD (fun hc2=>?_) (fun hc2=>?_)
  ·have hlt:i < out.length:=by omega
   have i1:Small (rGreat ((getS s out[i]).getD Pat.zero)=false):=⟨hcl.great _⟩
   refine walkb fun b=>?_
   have hndl:(rNeeds ((getS s out[i]).getD Pat.zero)).length≤140737488355328∨True:= .inr trivial
   generalize hnn:rNeeds ((getS s out[i]).getD Pat.zero)=nd
   have hnd:nd=ndS s out[i]:=by rw[←hnn];rfl
   refine pwp_bd (13) (.slice (nd.map eDig) .ro) rfl fun hbd=>?_
   have hndl:nd.length≤140737488355328:=hbd.slice_map
   refine pwp_loopS (σ:=Nat × List Dig × Tag) (fun j=>j.1≤nd.length∧j.2.1=withAll more (nd.take j.1)) (fun j=>nd.length - j.1) (fun j=> [(0,.slice (s.map eSto) t),(6,.slice (out.map eDig) v),(8,.raw (.int .i64 n)),(9,.slice (j.2.1.map eDig) j.2.2),(10,.raw (.int .i64 i)),(13,.slice (nd.map eDig) .ro),(14,.raw (.int .i64 j.1))]) (fun _=>LF) (0,more,w) ⟨by simp,by simp[withAll]⟩ ⟨rfl,rfl,rfl,rfl,rfl,rfl,rfl⟩ (.cons _ (.refl _)) ?_
   rintro⟨j,m,z⟩ ⟨hj,hj2⟩
   dsimp only at hj hj2 ⊢
   have hml:m.length≤40:=hcl.small (by rw[hj2];exact withAll_asc hma) fun d hd=>by
    rw[hj2]at hd
    rcases mem_withAll.1 hd with h'|h'
    ·exact hmi d h'
    ·exact hcl.nd out[i] d (hnd ▸ List.mem_of_mem_take h')
   refine walk ?_
   refine pwp_condD (fun hc3=>?_) (fun hc3=>?_)
   ·have hlt3:j < nd.length:=by omega
    have:Small (m.length≤1000000):=⟨by omega⟩
    refine walk ?_
    refine⟨(j+1,withD m nd[j],.ro),⟨by dsimp only;omega,by dsimp only;rw[List.take_succ_eq_append_getElem hlt3,withAll_snoc,hj2]⟩,by dsimp only;omega,⟨rfl,rfl,rfl,rfl,rfl,rfl,rfl⟩,.refl _⟩
   ·refine walk ?_
    rw[List.take_of_length_le (by omega)]at hj2
    refine⟨(i+1,m,z),⟨by dsimp only;omega,?_⟩,by dsimp only;omega,⟨rfl,rfl,rfl,rfl,rfl⟩,.refl _⟩
    dsimp only
    rw[List.take_succ_eq_append_getElem hlt,List.foldl_append,←hm,hj2,hnd];rfl
  ·refine walk ?_
   rw[List.take_of_length_le (by omega)]at hm
   obtain⟨r,hr⟩: ∃ r,s.length - n=r+1:=⟨s.length - n - 1,by omega⟩
   refine⟨(n+1,more,w),⟨by dsimp only;omega,hma,hmi,?_⟩,by dsimp only;omega,⟨rfl,rfl,rfl⟩,.refl _⟩
   dsimp only
   rw[ho,hr,iterC,show s.length - (n+1)=r by omega,hm];rfl
 ·refine walk ?_
  refine end2 ?_
  rw[show s.length - n=0 by omega]at ho
  rw[ho]
  exact .tuple2 (.ro _ _) (.refl _)⟩
end Go.Proofs
namespace Go.Proofs
open Go Go.Q
attribute [local irreducible] pwp pops PCalls OpN
def cloS (s:List Sto) (p:Dig):List Dig:=(rClosure s [p]).1
end Go.Proofs
namespace Go.Proofs
open Go Go.Q
attribute [local irreducible] pwp pops PCalls OpN
def insI:List Ident→Ident→List Ident
 | [],d=> [d]
 |x::xs,d=>if cmpI x d < 0 then x::insI xs d else if x=d then x::xs else d::x::xs
theorem insI_at: ∀ {l:List Ident} {d:Ident} {k:Nat},k≤l.length→(∀ i (h:i < l.length),i < k→cmpI l[i] d < 0)→(∀ h:k < l.length,¬cmpI l[k] d < 0)→
  insI l d=if ∃ h:k < l.length,l[k]=d then l else l.take k++d::l.drop k
 | [],d,k,hk,_,_=>by simp[insI]
 |x::xs,d,0,_,_,hk=>by
  have:=hk (by simp)
  simp only[List.getElem_cons_zero]at this
  simp[insI,this]
 |x::xs,d,k+1,hl,h1,h2=>by
  have h0:=h1 0 (by simp) (by omega)
  simp only[List.getElem_cons_zero]at h0
  have ih:=insI_at (l:=xs) (d:=d) (k:=k) (by simpa using hl) (fun i h hi=>by have:=h1 (i+1) (by simpa using h) (by omega);simpa using this) (fun h=>by have:=h2 (by simpa using h);simpa using this)
  simp only[insI,h0,if_true,ih]
  simp only[List.length_cons,Nat.add_lt_add_iff_right,List.getElem_cons_succ,List.take_succ_cons,List.drop_succ_cons]
  split<;>rfl
theorem insI_len (l:List Ident) (d:Ident):(insI l d).length≤l.length+1:=by
 induction l with
 |nil=>simp[insI]
 |cons y l ih=>
  unfold insI
  split
  ·simp only[List.length_cons];omega
  ·split<;>simp only[List.length_cons]<;>omega
set_option maxHeartbeats 1000000 in
instance Insert_ct (l:List Ident) (d:Ident) (t:Tag) [hs:Small (l.length≤1000000)]:FnC Tryz.prog 234 [.slice (l.map eIdent) t,.agg (eIdent d)] (.slice ((insI l d).map eIdent) .ro):=⟨by
 refine fn_of Tryz.func234 Tryz.ntmps234 rfl (rs:= [.tmp 4]) rfl rfl fun hb LF=>?_
 have hlen:l.length≤1000000:=hs.out
 refine walkb fun b=>?_
 refine pwp_loopS (σ:=Nat) (fun k=>k≤l.length∧ ∀ i (h:i < l.length),i < k→cmpI l[i] d < 0) (fun k=>l.length - k) (fun k=> [(0,.slice (l.map eIdent) t),(3,.raw (.pointer (some ⟨b,0,none⟩))),(5,.raw (.int .i64 k))]) (fun _=> .box b 115 (eIdent d)::LF) 0 ⟨by simp,by simp⟩ ⟨rfl,rfl,rfl⟩ (.refl _) ?_
 rintro k ⟨hk,hne⟩
 refine walk ?_
 refine pops_if (fun hp=>?_) (fun hp=>?_)
 ·have hc:(k:Int) < l.length:=of_decide_eq_true hp
  refine walkp ?_
  refine pwp_condD (fun h1=>?_) (fun h1=>?_)
  ·refine walk ?_
   refine⟨k+1,⟨by omega,fun i h hi=>?_⟩,by dsimp only;omega,⟨rfl,rfl,rfl⟩,.refl _⟩
   rcases Nat.lt_or_ge i k with h'|h'
   ·exact hne i h h'
   ·have:i=k:=by omega
    subst this;exact h1
  ·refine walk ?_
   refine pwp_condD (fun h2=>?_) (fun h2=>?_)
   ·refine walk ?_
    refine end1 (.ros ?_)
    rw[insI_at hk hne (fun _=>h1),if_pos ⟨by omega,h2⟩]
   ·refine walka fun t1=>?_
    refine walkap fun t2=>?_
    refine walkap fun t3=>?_
    refine end1 (.ros ?_)
    rw[insI_at hk hne (fun _=>h1),if_neg (fun⟨_,e⟩=>h2 e)]
    simp
 ·have hc: ¬(k:Int) < l.length:=of_decide_eq_false hp
  refine walkp ?_
  refine walkap fun t1=>?_
  refine walkap fun t2=>?_
  refine walkap fun t3=>?_
  refine end1 (.ros ?_)
  rw[insI_at hk hne (fun h=>absurd (show(k:Int) < l.length by omega) hc),if_neg (fun⟨h,_⟩=>hc (by omega))]
  simp⟩
def rOverF (d:Dig) (l:List Ident):List Ident:=l.foldl (fun m y=>insI m (rWhole y d)) []
def rFull1 (d:Dig) (a:Atm):Atm:={ a with id:={ a.id with patch:=d } }
def rFull2 (d:Dig) (a:Atm):Atm:=if a.kind≠7 then { a with file:=rWhole a.file d }else a
def rFull3 (d:Dig) (a:Atm):Atm:=if a.kind=2 then { a with parent:=rWhole a.parent d }else a
def rFull4 (d:Dig) (a:Atm):Atm:=if a.kind=6 then { a with src:=rWhole a.src d,dst:=rWhole a.dst d }else a
def rFull5 (d:Dig) (a:Atm):Atm:={ a with over:=rOverF d a.over }
def rFull (d:Dig) (a:Atm):Atm:=rFull5 d (rFull4 d (rFull3 d (rFull2 d (rFull1 d a))))
theorem rFull4_over (d:Dig) (a:Atm):(rFull4 d (rFull3 d (rFull2 d (rFull1 d a)))).over=a.over:=by
 unfold rFull4 rFull3 rFull2 rFull1
 repeat' split
 all_goals rfl
theorem rOverF_len (d:Dig) (l:List Ident) (k:Nat):((l.take k).foldl (fun m y=>insI m (rWhole y d)) []).length≤k:=by
 induction k with
 |zero=>simp
 |succ k ih=>
  by_cases h:k < l.length
  ·rw[List.take_succ_eq_append_getElem h,List.foldl_append]
   have:=insI_len ((l.take k).foldl (fun m y=>insI m (rWhole y d)) []) (rWhole l[k] d)
   simp only[List.foldl_cons,List.foldl_nil];omega
  ·rw[List.take_of_length_le (by omega)]at ih ⊢;omega
def rAtoms (p:Pat):List Atm × Int:=if(rId p).2≠0 then([],(rId p).2)else((rCheckP p).1.map (rFull (rId p).1),0)
theorem rMade_over {c:Chg} {first:Int} (h:c.over.length≤40): ∀ a∈rMade c first,a.over.length≤40:=by
 intro a ha
 unfold rMade at ha
 repeat' split at ha
 all_goals simp only[List.mem_singleton,List.mem_append,List.mem_map]at ha
 all_goals first
  |(subst ha;first|exact h|(show([]:List Ident).length≤40;decide))
  |(rcases ha with ⟨_,_,rfl⟩|⟨_,_,rfl⟩<;>(show([]:List Ident).length≤40;decide))
theorem rChanges_facts: ∀ (l:List Chg) (own:List Atm),(∀ c∈l,chgOk c)→(∀ a∈own,a.over.length≤40)→(rChanges l own).1.length≤own.length+l.length*81∧ ∀ a∈(rChanges l own).1,a.over.length≤40
 | [],own,_,h=>⟨by simp[rChanges],by simpa [rChanges]using h⟩
 |c::l,own,hc,ho=>by
  unfold rChanges
  split
  ·exact⟨by simp,by simp⟩
  ·split
   ·exact⟨by simp,by simp⟩
   ·have hcc:=hc c (by simp)
    have h1:=rMade_len c own.length
    have h2:=rMade_over (first:=own.length) hcc.over
    have h3:=hcc.lines
    have ih:=rChanges_facts l (own++rMade c own.length) (fun x hx=>hc x (by simp[hx])) (fun a ha=>by
     rcases List.mem_append.1 ha with h|h
     ·exact ho a h
     ·exact h2 a h)
    rw[List.length_append]at ih
    refine⟨?_,ih.2⟩
    have:=ih.1
    simp only[List.length_cons,Nat.add_mul];omega
theorem rCheckP_facts {p:Pat} (h:rGreat p=false):(rCheckP p).1.length≤1620∧ ∀ a∈(rCheckP p).1,a.over.length≤40:=by
 obtain⟨_,_,_,hch,hcs⟩:=great_facts h
 unfold rCheckP
 repeat' split
 all_goals first
  |exact⟨by simp,by simp⟩
  |(have:=rChanges_facts p.changes [] hcs (by simp)
    exact⟨by have h1:=this.1;simp only[List.length_nil]at h1;omega,this.2⟩)
end Go.Proofs
namespace Go.Proofs
open Go Go.Q
attribute [local irreducible] pwp pops PCalls OpN
set_option maxHeartbeats 2000000 in
instance Atoms_ct (p:Pat) [hs:Small (rGreat p=false)]:FnC Tryz.prog 200 [.agg (ePat p)] (.tuple [.slice ((rAtoms p).1.map eAtm) .ro,.raw (.int .i64 (rAtoms p).2)]):=⟨by
 obtain⟨hal,hao⟩:=rCheckP_facts hs.out
 refine fn_of Tryz.func200 Tryz.ntmps200 rfl (rs:= [.tmp 2,.tmp 3]) rfl rfl fun hb LF=>?_
 refine walkb fun b1=>?_
 refine walkbp fun b4=>?_
 refine pwp_condN (fun h=>?_) (fun h=>?_)
 ·refine walk ?_
  refine end2 ?_
  rw[rAtoms,if_pos h]
  exact .tuple2 (.ro _ _) (.refl _)
 rw[rAtoms,if_neg (by simp[h])]
 refine walk ?_
 generalize (rId p).1=d
 generalize (rCheckP p).1=own at hal hao
 refine pwp_tok 172 ?_
 refine pwp_loopS (σ:=Nat × List Atm × Tag) (fun k=>k.1≤own.length∧k.2.1=(own.take k.1).map (rFull d)) (fun k=>own.length - k.1) (fun k=> [(4,.raw (.pointer (some ⟨b4,0,none⟩))),(6,.slice (own.map eAtm) .ro),(8,.slice (k.2.1.map eAtm) k.2.2),(9,.raw (.int .i64 k.1))]) (fun k=> .tok k.2.2 k.2.1.length 172:: .box b4 37 (eDig d)::LF) (0,[],.nil) ⟨by simp,by simp⟩ ⟨rfl,rfl,rfl,rfl⟩ (.cons_cons _ (.cons_cons _ (.cons _ (.refl _)))) ?_
 rintro⟨i,out,v⟩ ⟨hi,ho⟩
 dsimp only at hi ho ⊢
 have hol:out.length=i:=by rw[ho];simp;omega
 refine walk ?_
 refine pwp_condD (fun hc=>?_) (fun hc=>?_)
 ·have hlt:i < own.length:=by omega
  have hov:=hao _ (List.getElem_mem hlt)
  refine walkb fun b10=>?_
  refine pwp_joinG (σ:=Unit) (fun _=>True) (fun _=> [(4,.raw (.pointer (some ⟨b4,0,none⟩))),(6,.slice (own.map eAtm) .ro),(8,.slice (out.map eAtm) v),(9,.raw (.int .i64 i)),(10,.raw (.pointer (some ⟨b10,0,none⟩)))]) (fun _=> .box b10 157 (eAtm (rFull2 d (rFull1 d own[i]))):: .tok v out.length 172:: .box b4 37 (eDig d)::LF) ?_ ?_
  ·refine pwp_condN (fun h7=>?_) (fun h7=>?_)
   ·refine walk ?_
    refine⟨(),trivial,⟨rfl,rfl,rfl,rfl,rfl⟩,?_⟩
    have h7':(rFull1 d own[i]).kind≠7:=h7
    rw[rFull2,if_pos h7'];exact .refl _
   ·refine walk ?_
    refine⟨(),trivial,⟨rfl,rfl,rfl,rfl,rfl⟩,?_⟩
    have h7':(rFull1 d own[i]).kind=7:=h7
    rw[rFull2,if_neg (by simp[h7'])];exact .refl _
  rintro _ _
  generalize ha2:rFull2 d (rFull1 d own[i])=a2
  refine walk ?_
  refine pwp_joinG (σ:=Unit) (fun _=>True) (fun _=> [(4,.raw (.pointer (some ⟨b4,0,none⟩))),(6,.slice (own.map eAtm) .ro),(8,.slice (out.map eAtm) v),(9,.raw (.int .i64 i)),(10,.raw (.pointer (some ⟨b10,0,none⟩)))]) (fun _=> .box b10 157 (eAtm (rFull3 d a2)):: .tok v out.length 172:: .box b4 37 (eDig d)::LF) ?_ ?_
  ·refine pwp_condD (fun h7=>?_) (fun h7=>?_)
   ·refine walk ?_
    refine⟨(),trivial,⟨rfl,rfl,rfl,rfl,rfl⟩,?_⟩
    rw[rFull3,if_pos h7];exact .refl _
   ·refine walk ?_
    refine⟨(),trivial,⟨rfl,rfl,rfl,rfl,rfl⟩,?_⟩
    rw[rFull3,if_neg h7];exact .refl _
  rintro _ _
  generalize ha3:rFull3 d a2=a3
  refine walk ?_
  refine pwp_joinG (σ:=Unit) (fun _=>True) (fun _=> [(4,.raw (.pointer (some ⟨b4,0,none⟩))),(6,.slice (own.map eAtm) .ro),(8,.slice (out.map eAtm) v),(9,.raw (.int .i64 i)),(10,.raw (.pointer (some ⟨b10,0,none⟩)))]) (fun _=> .box b10 157 (eAtm (rFull4 d a3)):: .tok v out.length 172:: .box b4 37 (eDig d)::LF) ?_ ?_
  ·refine pwp_condD (fun h7=>?_) (fun h7=>?_)
   ·refine walkn ?_
    refine pwp_draw [false,false,false,false,false,false,false,false,false,true,false,true] ?_ ?_
    ·decide+kernel
    refine walkp ?_
    refine⟨(),trivial,⟨rfl,rfl,rfl,rfl,rfl⟩,?_⟩
    rw[rFull4,if_pos h7];exact .refl _
   ·refine walk ?_
    refine⟨(),trivial,⟨rfl,rfl,rfl,rfl,rfl⟩,?_⟩
    rw[rFull4,if_neg h7];exact .refl _
  rintro _ _
  have hover:(rFull4 d a3).over=own[i].over:=by rw[←ha3,←ha2];exact rFull4_over d own[i]
  generalize ha4:rFull4 d a3=a4 at hover
  have hov4:a4.over.length≤40:=by rw[hover];exact hov
  refine walk ?_
  refine pwp_loopS (σ:=Nat × List Ident × Tag) (fun j=>j.1≤a4.over.length∧j.2.1=(a4.over.take j.1).foldl (fun m y=>insI m (rWhole y d)) []) (fun j=>a4.over.length - j.1) (fun j=> [(4,.raw (.pointer (some ⟨b4,0,none⟩))),(6,.slice (own.map eAtm) .ro),(8,.slice (out.map eAtm) v),(9,.raw (.int .i64 i)),(10,.raw (.pointer (some ⟨b10,0,none⟩))),(11,.slice (j.2.1.map eIdent) j.2.2),(12,.raw (.int .i64 j.1))]) (fun _=> .box b10 157 (eAtm a4):: .tok v out.length 172:: .box b4 37 (eDig d)::LF) (0,[],.nil) ⟨by simp,by simp⟩ ⟨rfl,rfl,rfl,rfl,rfl,rfl,rfl⟩ (.refl _) ?_
  rintro⟨j,m,z⟩ ⟨hj,hm⟩
  dsimp only at hj hm ⊢
  have hml:m.length≤j:=by rw[hm];exact rOverF_len d a4.over j
  refine walk ?_
  refine pwp_condD (fun hc2=>?_) (fun hc2=>?_)
  ·have hlt2:j < a4.over.length:=by omega
   have:Small (m.length≤1000000):=⟨by omega⟩
   refine walk ?_
   refine⟨(j+1,insI m (rWhole a4.over[j] d),.ro),⟨by dsimp only;omega,?_⟩,by dsimp only;omega,⟨rfl,rfl,rfl,rfl,rfl,rfl,rfl⟩,.refl _⟩
   dsimp only
   rw[List.take_succ_eq_append_getElem hlt2,List.foldl_append,←hm];rfl
  ·rw[List.take_of_length_le (by omega)]at hm
   refine walka fun v'=>?_
   have e:rFull d own[i]= { a4 with over:=m }:=by rw[rFull,ha2,ha3,ha4,rFull5,rOverF,←hm]
   refine⟨(i+1,out++ [{ a4 with over:=m }],v'),⟨by dsimp only;omega,?_⟩,by dsimp only;omega,⟨rfl,rfl,rfl,rfl⟩,.cons _ (.refl _)⟩
   dsimp only
   rw[List.take_succ_eq_append_getElem hlt,List.map_append,←ho,List.map_cons,e];rfl
 ·rw[List.take_of_length_le (by omega)]at ho
  refine walk ?_
  refine end2 ?_
  rw[ho]
  exact .tuple2 (.ro _ _) (.refl _)⟩
end Go.Proofs
namespace Go.Proofs
open Go Go.Q
attribute [local irreducible] pwp pops PCalls OpN
theorem nfalse {b:Bool} (h:(!b)=false): ¬b=false:=by cases b<;>simp_all
theorem ntrue {b:Bool} (h:(!b)=true):b=false:=by cases b<;>simp_all
theorem goodS.great {s:List Sto} (h:goodS s) (d:Dig):rGreat ((getS s d).getD Pat.zero)=false:=by
 cases hg:getS s d with
 |none=>exact great_zero
 |some p=>
  obtain⟨x,hx,_,rfl⟩:=getS_mem hg
  exact h.2 x hx
def rAtomsOf (s:List Sto) (d:Dig):List Atm:=(rAtoms ((getS s d).getD Pat.zero)).1
def rAtom (s:List Sto) (x:Ident):Option Atm:=if x.n < 0∨((rAtomsOf s x.patch).length:Int)≤x.n then none else(rAtomsOf s x.patch)[x.n.toNat]?
instance atom17_ct (s:List Sto) (x:Ident) (t:Tag) [hs:Small (goodS s)]:FnC Tryz.prog 160 [.slice (s.map eSto) t,.agg (eIdent x)] (.tuple [.agg (eAtm ((rAtom s x).getD Atm.zero)),.raw (.bool (rAtom s x).isSome)]):=⟨by
 have i1:Small (rGreat ((getS s x.patch).getD Pat.zero)=false):=⟨hs.out.great _⟩
 refine fn_of Tryz.func160 Tryz.ntmps160 rfl (rs:= [.cell 4 157,.tmp 5]) rfl rfl fun hb LF=>?_
 refine walkb fun b3=>?_
 refine walkbp fun b4=>?_
 refine walkbp fun b6=>?_
 have e0:(rAtoms ((getS s x.patch).getD Pat.zero)).1=rAtomsOf s x.patch:=rfl
 rw[e0]
 refine pops_cutE [(31,.raw (.bool (decide (x.n < 0∨((rAtomsOf s x.patch).length:Int)≤x.n)))),(3,.raw (.pointer (some ⟨b3,0,none⟩))),(4,.raw (.pointer (some ⟨b4,0,none⟩))),(8,.slice ((rAtomsOf s x.patch).map eAtm) .ro)] (.box b6 57 (ePat ((getS s x.patch).getD Pat.zero)):: .box b4 157 (eAtm Atm.zero):: .box b3 115 (eIdent x)::LF) ?_ ?_
 ·repeat' (first|(refine pwp_condD (fun h=>?_) (fun h=>?_)<;>refine walk ?_)|(refine pwp_condN (fun h=>?_) (fun h=>?_)<;>refine walk ?_)|(refine pwp_condB (fun h=>?_) (fun h=>?_)<;>refine walk ?_)|(refine pops_if (fun h=>?_) (fun h=>?_)<;>(have h2:=h;(try simp only[decide_eq_true_eq,decide_eq_false_iff_not,Bool.not_eq_true',Bool.not_eq_false']at h2);refine walkp ?_)))
  all_goals (refine⟨⟨holdsB (by rfl) ?_,rfl,rfl,rfl⟩,.refl _⟩;first|(simp_all;done)|(simp_all;omega)|grind)
 refine walk ?_
 refine pwp_condD (fun h=>?_) (fun h=>?_)
 ·refine walk ?_
  refine endC1 rfl (.of_eq ?_)
  rw[rAtom,if_pos h];rfl
 ·refine walk ?_
  refine endC1 rfl (.of_eq ?_)
  have hlt:x.n.toNat < (rAtomsOf s x.patch).length:=by omega
  rw[rAtom,if_neg h,List.getElem?_eq_getElem hlt];rfl⟩
def rRefOk (o:Option Atm) (fits:Atm→Bool):Int:=if o.isSome=false then 7 else if fits (o.getD Atm.zero)=false then 8 else 0
def rEndE (s:List Sto) (x file:Ident) (id:Dig):Int:=if rOther x=false∨x=file then 0 else rRefOk (rAtom s x) (rFitsEnd (rComplete file id))
set_option maxHeartbeats 1000000 in
instance end17_ct (s:List Sto) (x file:Ident) (id:Dig) (t:Tag) [hs:Small (goodS s)]:FnC Tryz.prog 163 [.slice (s.map eSto) t,.agg (eIdent x),.agg (eIdent file),.agg (eDig id)] (.raw (.int .i64 (rEndE s x file id))):=⟨by
 refine fn_of Tryz.func163 Tryz.ntmps163 rfl (rs:= [.tmp 8]) rfl rfl fun hb LF=>?_
 refine walkb fun b5=>?_
 refine walkbp fun b6=>?_
 refine walkbp fun b7=>?_
 refine pops_cutE [(18,.raw (.bool (decide (rOther x=false∨x=file)))),(0,.slice (s.map eSto) t),(5,.raw (.pointer (some ⟨b5,0,none⟩))),(6,.raw (.pointer (some ⟨b6,0,none⟩))),(7,.raw (.pointer (some ⟨b7,0,none⟩)))] (.box b7 37 (eDig id):: .box b6 115 (eIdent file):: .box b5 115 (eIdent x)::LF) ?_ ?_
 ·repeat' (first|(refine pwp_condD (fun h=>?_) (fun h=>?_)<;>refine walk ?_)|(refine pwp_condN (fun h=>?_) (fun h=>?_)<;>refine walk ?_)|(refine pwp_condB (fun h=>?_) (fun h=>?_)<;>refine walk ?_)|(refine pops_if (fun h=>?_) (fun h=>?_)<;>(have h2:=h;(try simp only[decide_eq_true_eq,decide_eq_false_iff_not,Bool.not_eq_true',Bool.not_eq_false']at h2);refine walkp ?_)))
  all_goals (refine⟨⟨holdsB (by rfl) ?_,rfl,rfl,rfl,rfl⟩,.refl _⟩;first|(simp_all;done)|(simp_all;omega)|grind)
 refine walk ?_
 refine pwp_condD (fun h=>?_) (fun h=>?_)
 ·refine walk ?_
  refine end1 (.of_eq ?_)
  rw[rEndE,if_pos h]
 rw[rEndE,if_neg h]
 refine walkb fun b9=>?_
 refine pwp_condB (fun h2=>?_) (fun h2=>?_)
 ·refine walk ?_
  refine end1 (.of_eq ?_)
  rw[rRefOk,if_pos (ntrue h2)]
 refine walk ?_
 refine pwp_condB (fun h3=>?_) (fun h3=>?_)
 ·refine walk ?_
  refine end1 (.of_eq ?_)
  rw[rRefOk,if_neg (nfalse h2),if_pos (ntrue h3)]
 ·refine walk ?_
  refine end1 (.of_eq ?_)
  rw[rRefOk,if_neg (nfalse h2),if_neg (nfalse h3)]⟩
def rChgF (s:List Sto) (c:Chg):Int:=if rOther c.file=true then rRefOk (rAtom s c.file) (rFitsFile c.kind)else 0
def rChgP (s:List Sto) (c:Chg):Int:=if rOther c.parent=true then rRefOk (rAtom s c.parent) rDirectory else 0
def rChgO (s:List Sto) (c:Chg) (id:Dig) (x:Ident):Int:=if rOther x=false then 0 else rRefOk (rAtom s x) (rFitsOver c.kind (rComplete c.file id))
def rChgE (s:List Sto) (c:Chg) (id:Dig):Int:=
 if rChgF s c≠0 then rChgF s c else if rChgP s c≠0 then rChgP s c else if rEndE s c.after c.file id≠0 then rEndE s c.after c.file id else
 if rEndE s c.before c.file id≠0 then rEndE s c.before c.file id else firstErr (rChgO s c id) c.over
set_option maxHeartbeats 2000000 in
instance change17_ct (s:List Sto) (c:Chg) (id:Dig) (t:Tag) [hs:Small (goodS s)]:FnC Tryz.prog 124 [.slice (s.map eSto) t,.agg (eChg c),.agg (eDig id)] (.raw (.int .i64 (rChgE s c id))):=⟨by
 refine fn_of Tryz.func124 Tryz.ntmps124 rfl (rs:= [.tmp 6]) rfl rfl fun hb LF=>?_
 have hlen:c.over.length≤140737488355328:=((hb (.agg (eChg c)) (by simp)).agg_at (c:= .slice (c.over.map eIdent) .ro) (by simp[eChg])).slice_map
 refine walkb fun b4=>?_
 refine walkbp fun b5=>?_
 refine pwp_joinG (σ:=Unit) (fun _=>rChgF s c=0) (fun _=> [(0,.slice (s.map eSto) t),(4,.raw (.pointer (some ⟨b4,0,none⟩))),(5,.raw (.pointer (some ⟨b5,0,none⟩)))]) (fun _=> .box b5 37 (eDig id):: .box b4 119 (eChg c)::LF) ?_ ?_
 ·refine pwp_condB (fun h=>?_) (fun h=>?_)
  ·have e:rChgF s c=rRefOk (rAtom s c.file) (rFitsFile c.kind):=by rw[rChgF,if_pos h]
   refine walkb fun b7=>?_
   refine pwp_condB (fun h2=>?_) (fun h2=>?_)
   ·refine walk ?_
    refine end1 (.of_eq ?_)
    rw[rRefOk,if_pos (ntrue h2)]at e
    rw[rChgE,if_pos (by rw[e];decide),e]
   refine walk ?_
   refine pwp_condB (fun h3=>?_) (fun h3=>?_)
   ·refine walk ?_
    refine end1 (.of_eq ?_)
    rw[rRefOk,if_neg (nfalse h2),if_pos (ntrue h3)]at e
    rw[rChgE,if_pos (by rw[e];decide),e]
   ·refine walk ?_
    rw[rRefOk,if_neg (nfalse h2),if_neg (nfalse h3)]at e
    exact⟨(),e,⟨rfl,rfl,rfl⟩,.cons _ (.refl _)⟩
  ·refine walk ?_
   exact⟨(),by rw[rChgF,if_neg (by simp[h])],⟨rfl,rfl,rfl⟩,.refl _⟩
 rintro _ hF
 refine walk ?_
 refine pwp_joinG (σ:=Unit) (fun _=>rChgP s c=0) (fun _=> [(0,.slice (s.map eSto) t),(4,.raw (.pointer (some ⟨b4,0,none⟩))),(5,.raw (.pointer (some ⟨b5,0,none⟩)))]) (fun _=> .box b5 37 (eDig id):: .box b4 119 (eChg c)::LF) ?_ ?_
 ·refine pwp_condB (fun h=>?_) (fun h=>?_)
  ·have e:rChgP s c=rRefOk (rAtom s c.parent) rDirectory:=by rw[rChgP,if_pos h]
   refine walkb fun b7=>?_
   refine pwp_condB (fun h2=>?_) (fun h2=>?_)
   ·refine walk ?_
    refine end1 (.of_eq ?_)
    rw[rRefOk,if_pos (ntrue h2)]at e
    rw[rChgE,if_neg (by simp[hF]),if_pos (by rw[e];decide),e]
   refine walk ?_
   refine pwp_condB (fun h3=>?_) (fun h3=>?_)
   ·refine walk ?_
    refine end1 (.of_eq ?_)
    rw[rRefOk,if_neg (nfalse h2),if_pos (ntrue h3)]at e
    rw[rChgE,if_neg (by simp[hF]),if_pos (by rw[e];decide),e]
   ·refine walk ?_
    rw[rRefOk,if_neg (nfalse h2),if_neg (nfalse h3)]at e
    exact⟨(),e,⟨rfl,rfl,rfl⟩,.cons _ (.refl _)⟩
  ·refine walk ?_
   exact⟨(),by rw[rChgP,if_neg (by simp[h])],⟨rfl,rfl,rfl⟩,.refl _⟩
 rintro _ hP
 rw[rChgE,if_neg (by simp[hF]),if_neg (by simp[hP])]
 refine walk ?_
 refine pwp_condN (fun h1=>?_) (fun h1=>?_)
 ·refine walk ?_
  refine end1 (.of_eq ?_)
  rw[if_pos h1]
 rw[if_neg (by simp[h1])]
 refine walk ?_
 refine pwp_condN (fun h2=>?_) (fun h2=>?_)
 ·refine walk ?_
  refine end1 (.of_eq ?_)
  rw[if_pos h2]
 rw[if_neg (by simp[h2])]
 refine walk ?_
 refine pwp_loopS (σ:=Nat) (fun k=>k≤c.over.length∧ ∀ i (h:i < c.over.length),i < k→rChgO s c id c.over[i]=0) (fun k=>c.over.length - k) (fun k=> [(0,.slice (s.map eSto) t),(4,.raw (.pointer (some ⟨b4,0,none⟩))),(5,.raw (.pointer (some ⟨b5,0,none⟩))),(13,.raw (.int .i64 k))]) (fun _=> .box b5 37 (eDig id):: .box b4 119 (eChg c)::LF) 0 ⟨by simp,by simp⟩ ⟨rfl,rfl,rfl,rfl⟩ (.refl _) ?_
 rintro k ⟨hk,he⟩
 refine walk ?_
 refine pwp_condD (fun hc=>?_) (fun hc=>?_)
 ·have hlt:k < c.over.length:=by omega
  refine walk ?_
  refine pwp_condB (fun h=>?_) (fun h=>?_)
  ·refine walk ?_
   exact⟨k+1,⟨by omega,upto_succ0 he hlt (by rw[rChgO,if_pos (ntrue h)])⟩,by dsimp only;omega,⟨rfl,rfl,rfl,rfl⟩,.refl _⟩
  have e:rChgO s c id c.over[k]=rRefOk (rAtom s c.over[k]) (rFitsOver c.kind (rComplete c.file id)):=by rw[rChgO,if_neg (nfalse h)]
  refine walkb fun b14=>?_
  refine pwp_condB (fun h3=>?_) (fun h3=>?_)
  ·refine walk ?_
   refine end1 (.of_eq ?_)
   rw[rRefOk,if_pos (ntrue h3)]at e
   rw[firstErr_at hlt he (by rw[e];decide),e]
  refine walk ?_
  refine pwp_condB (fun h4=>?_) (fun h4=>?_)
  ·refine walk ?_
   refine end1 (.of_eq ?_)
   rw[rRefOk,if_neg (nfalse h3),if_pos (ntrue h4)]at e
   rw[firstErr_at hlt he (by rw[e];decide),e]
  ·refine walk ?_
   rw[rRefOk,if_neg (nfalse h3),if_neg (nfalse h4)]at e
   exact⟨k+1,⟨by omega,upto_succ0 he hlt e⟩,by dsimp only;omega,⟨rfl,rfl,rfl,rfl⟩,.cons _ (.refl _)⟩
 ·refine walk ?_
  refine end1 (.of_eq ?_)
  rw[firstErr_zero fun i h=>he i h (by omega)]⟩
def rRefsS (s:List Sto) (p:Pat) (id:Dig):Int:=firstErr (fun c=>rChgE s c id) p.changes
instance references17_ct (s:List Sto) (p:Pat) (id:Dig) (t:Tag) [hs:Small (goodS s)]:FnC Tryz.prog 92 [.slice (s.map eSto) t,.agg (ePat p),.agg (eDig id)] (.raw (.int .i64 (rRefsS s p id))):=⟨by
 refine fn_of Tryz.func92 Tryz.ntmps92 rfl (rs:= [.tmp 6]) rfl rfl fun hb LF=>?_
 have hlen:p.changes.length≤140737488355328:=((hb (.agg (ePat p)) (by simp)).agg_at (c:= .slice (p.changes.map eChg) .ro) (by simp[ePat])).slice_map
 refine walkb fun b4=>?_
 refine walkbp fun b5=>?_
 refine pwp_loopS (σ:=Nat) (fun k=>k≤p.changes.length∧ ∀ i (h:i < p.changes.length),i < k→rChgE s p.changes[i] id=0) (fun k=>p.changes.length - k) (fun k=> [(0,.slice (s.map eSto) t),(4,.raw (.pointer (some ⟨b4,0,none⟩))),(5,.raw (.pointer (some ⟨b5,0,none⟩))),(7,.raw (.int .i64 k))]) (fun _=> .box b5 37 (eDig id):: .box b4 57 (ePat p)::LF) 0 ⟨by simp,by simp⟩ ⟨rfl,rfl,rfl,rfl⟩ (.refl _) ?_
 rintro k ⟨hk,he⟩
 refine walk ?_
 refine pwp_condD (fun hc=>?_) (fun hc=>?_)
 ·have hlt:k < p.changes.length:=by omega
  refine walk ?_
  refine pwp_condN (fun h=>?_) (fun h=>?_)
  ·refine walk ?_
   refine end1 (.of_eq ?_)
   rw[rRefsS,firstErr_at hlt he h]
  ·refine walk ?_
   exact⟨k+1,⟨by omega,upto_succ0 (f:=fun c=>rChgE s c id) he hlt h⟩,by dsimp only;omega,⟨rfl,rfl,rfl,rfl⟩,.refl _⟩
 ·refine walk ?_
  refine end1 (.of_eq ?_)
  rw[rRefsS,firstErr_zero fun i h=>he i h (by omega)]⟩
end Go.Proofs
namespace Go.Proofs
open Go Go.Q
attribute [local irreducible] pwp pops PCalls OpN
theorem nnot {b:Bool} (h:(!b)=false):b=true:=by cases b<;>simp_all
def rChkE (s:List Sto) (i:Nat):Int:=
 if(rId (s.getD i Sto.zero).patch).2≠0 then(rId (s.getD i Sto.zero).patch).2 else if(rId (s.getD i Sto.zero).patch).1≠(s.getD i Sto.zero).id then 13 else
 if 0 < (i:Int)∧0≤cmpD (s.getD (i - 1) Sto.zero).id (rId (s.getD i Sto.zero).patch).1 then 9 else 0
def rCheckS (s:List Sto):Int:=
 if 400 < (s.length:Int)then 4 else if firstErr (rChkE s) (List.range s.length)≠0 then firstErr (rChkE s) (List.range s.length)else
 if s.all (fun x=>allIn (ids s) (rNeeds x.patch))=false then 19 else if((rOrder s).length:Int) < s.length then 20 else firstErr (fun(x:Sto)=>rRefsS s x.patch x.id) s
set_option maxHeartbeats 400000 in
instance CheckS_ct (s:List Sto) (t:Tag) [hs:Small (goodS s)]:FnC Tryz.prog 46 [.slice (s.map eSto) t] (.raw (.int .i64 (rCheckS s))):=⟨by
 obtain⟨hl8,hgr⟩:=hs.out
 refine fn_of Tryz.func46 Tryz.ntmps46 rfl (rs:= [.tmp 2]) rfl rfl fun hb LF=>?_
 refine walk ?_
 refine pwp_condD (fun h1=>?_) (fun h1=>?_)
 ·omega
 rw[rCheckS,if_neg h1]
 refine walk ?_
 refine pwp_loopS (σ:=Nat) (fun k=>k≤s.length∧ ∀ i (h:i < (List.range s.length).length),i < k→rChkE s (List.range s.length)[i]=0) (fun k=>s.length - k) (fun k=> [(0,.slice (s.map eSto) t),(3,.raw (.int .i64 k))]) (fun _=>LF) 0 ⟨by simp,by simp⟩ ⟨rfl,rfl⟩ (.refl _) ?_
 rintro k ⟨hk,he⟩
 refine walk ?_
 refine pwp_condD (fun hc=>?_) (fun hc=>?_)
 ·have hlt:k < s.length:=by omega
  have hltr:k < (List.range s.length).length:=by simpa using hlt
  have ek:(List.range s.length)[k]=k:=by simp
  have e0:s.getD k Sto.zero=s[k]:=by simp[List.getD,hlt]
  have i1:Small (rGreat s[k].patch=false):=⟨hgr _ (List.getElem_mem hlt)⟩
  refine walkb fun b=>?_
  refine pwp_condN (fun h2=>?_) (fun h2=>?_)
  ·refine walk ?_
   refine end1 (.of_eq ?_)
   have e:rChkE s (List.range s.length)[k]=(rId s[k].patch).2:=by rw[ek,rChkE,e0,if_pos h2]
   have f:=firstErr_at hltr he (by rw[e];exact h2)
   rw[if_pos (by rw[f,e];exact h2),f,e]
  refine walk ?_
  refine pwp_condN (fun h3=>?_) (fun h3=>?_)
  ·refine walk ?_
   refine end1 (.of_eq ?_)
   have e:rChkE s (List.range s.length)[k]=13:=by rw[ek,rChkE,e0,if_neg (by simp[h2]),if_pos h3]
   have f:=firstErr_at hltr he (by rw[e];decide)
   rw[if_pos (by rw[f,e];decide),f,e]
  refine walk ?_
  refine pops_if (fun hp=>?_) (fun hp=>?_)
  ·have hp':0 < (k:Int):=of_decide_eq_true hp
   refine walkp ?_
   have e1:s.getD (k - 1) Sto.zero=s[((k:Int) - 1).toNat]:=by
    have:((k:Int) - 1).toNat=k - 1:=by omega
    simp only[this]
    have h':k - 1 < s.length:=by omega
    simp[List.getD,h']
   refine pwp_condD (fun h4=>?_) (fun h4=>?_)
   ·refine walk ?_
    refine end1 (.of_eq ?_)
    have e:rChkE s (List.range s.length)[k]=9:=by rw[ek,rChkE,e0,e1,if_neg (by simp[h2]),if_neg (by simp[h3]),if_pos ⟨hp',h4⟩]
    have f:=firstErr_at hltr he (by rw[e];decide)
    rw[if_pos (by rw[f,e];decide),f,e]
   ·refine walk ?_
    have e:rChkE s (List.range s.length)[k]=0:=by rw[ek,rChkE,e0,e1,if_neg (by simp[h2]),if_neg (by simp[h3]),if_neg (fun h=>h4 h.2)]
    exact⟨k+1,⟨by omega,upto_succ0 he hltr e⟩,by dsimp only;omega,⟨rfl,rfl⟩,.cons _ (.refl _)⟩
  ·have hp': ¬0 < (k:Int):=of_decide_eq_false hp
   refine walkp ?_
   have e:rChkE s (List.range s.length)[k]=0:=by rw[ek,rChkE,e0,if_neg (by simp[h2]),if_neg (by simp[h3]),if_neg (fun h=>hp' h.1)]
   exact⟨k+1,⟨by omega,upto_succ0 he hltr e⟩,by dsimp only;omega,⟨rfl,rfl⟩,.cons _ (.refl _)⟩
 have hA:firstErr (rChkE s) (List.range s.length)=0:=firstErr_zero fun i h=>he i h (by simp at h;omega)
 rw[if_neg (by simp[hA])]
 clear he hA hk hc
 refine walk ?_
 refine pwp_loopS (σ:=Nat) (fun k=>k≤s.length∧ ∀ i (h:i < s.length),i < k→allIn (ids s) (rNeeds s[i].patch)=true) (fun k=>s.length - k) (fun k=> [(0,.slice (s.map eSto) t),(6,.slice ((ids s).map eDig) .ro),(7,.raw (.int .i64 k))]) (fun _=>LF) 0 ⟨by simp,by simp⟩ ⟨rfl,rfl,rfl⟩ (.refl _) ?_
 rintro k ⟨hk,he⟩
 refine walk ?_
 refine pwp_condD (fun hc=>?_) (fun hc=>?_)
 ·have hlt:k < s.length:=by omega
  have i1:Small (rGreat s[k].patch=false):=⟨hgr _ (List.getElem_mem hlt)⟩
  refine walk ?_
  refine pwp_condB (fun h=>?_) (fun h=>?_)
  ·refine walk ?_
   refine end1 (.of_eq ?_)
   have hx:allIn (ids s) (rNeeds s[k].patch)=false:=ntrue h
   have hy:s.all (fun x=>allIn (ids s) (rNeeds x.patch))=false:=all_false_of hlt hx
   rw[if_pos hy]
  ·refine walk ?_
   have hx:allIn (ids s) (rNeeds s[k].patch)=true:=nnot h
   have hy: ∀ i (h:i < s.length),i < k+1→allIn (ids s) (rNeeds s[i].patch)=true:=fun i hi hik=>by
    rcases Nat.lt_or_ge i k with h'|h'
    ·exact he i hi h'
    ·have e:i=k:=by omega
     subst e;exact hx
   exact⟨k+1,⟨by omega,hy⟩,by dsimp only;omega,⟨rfl,rfl,rfl⟩,.refl _⟩
 have hB:s.all (fun x=>allIn (ids s) (rNeeds x.patch))=true:=all_true_of fun i h=>he i h (by omega)
 rw[if_neg (by simp[hB])]
 clear he hB hk hc
 refine walk ?_
 refine pwp_condD (fun h=>?_) (fun h=>?_)
 ·refine walk ?_
  refine end1 (.of_eq ?_)
  rw[if_pos h]
 rw[if_neg h]
 refine walk ?_
 refine pwp_loopS (σ:=Nat) (fun k=>k≤s.length∧ ∀ i (h:i < s.length),i < k→rRefsS s s[i].patch s[i].id=0) (fun k=>s.length - k) (fun k=> [(0,.slice (s.map eSto) t),(8,.raw (.int .i64 k))]) (fun _=>LF) 0 ⟨by simp,by simp⟩ ⟨rfl,rfl⟩ (.refl _) ?_
 rintro k ⟨hk,he⟩
 refine walk ?_
 refine pwp_condD (fun hc=>?_) (fun hc=>?_)
 ·have hlt:k < s.length:=by omega
  refine walk ?_
  refine pwp_condN (fun h2=>?_) (fun h2=>?_)
  ·refine walk ?_
   refine end1 (.of_eq ?_)
   rw[firstErr_at (f:=fun(x:Sto)=>rRefsS s x.patch x.id) hlt he h2]
  ·refine walk ?_
   exact⟨k+1,⟨by omega,upto_succ0 (f:=fun(x:Sto)=>rRefsS s x.patch x.id) he hlt h2⟩,by dsimp only;omega,⟨rfl,rfl⟩,.refl _⟩
 ·refine walk ?_
  refine end1 (.of_eq ?_)
  rw[firstErr_zero (f:=fun(x:Sto)=>rRefsS s x.patch x.id) fun i h=>he i h (by omega)]⟩
theorem goodS_of {s:List Sto} (h:rGreatS s=false):goodS s:=by
 unfold rGreatS at h
 simp only[Bool.or_eq_false_iff,decide_eq_false_iff_not,List.any_eq_false]at h
 obtain⟨⟨h1,h2⟩,_⟩:=h
 refine⟨by omega,fun x hx=>?_⟩
 have:=h1 x (by rw[List.take_of_length_le (by omega)];exact hx)
 simpa using this
def rFine (s:List Sto):Bool:=!rGreatS s&&decide (rCheckS s=0)
instance Fine_ct (s:List Sto) (t:Tag):FnC Tryz.prog 48 [.slice (s.map eSto) t] (.raw (.bool (rFine s))):=⟨by
 refine fn_of Tryz.func48 Tryz.ntmps48 rfl (rs:= [.tmp 2]) rfl rfl fun hb LF=>?_
 refine walk ?_
 refine pops_if (fun hp=>?_) (fun hp=>?_)
 ·have i1:Small (goodS s):=⟨goodS_of (by simpa using hp)⟩
  refine walkp ?_
  refine end1 (.of_eq ?_)
  rw[rFine,hp,Bool.true_and]
 ·refine walkp ?_
  refine end1 (.of_eq ?_)
  rw[rFine,hp,Bool.false_and]⟩
end Go.Proofs
