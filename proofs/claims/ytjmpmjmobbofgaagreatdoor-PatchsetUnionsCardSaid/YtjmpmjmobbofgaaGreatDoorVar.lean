/- Contracts of the program: patchset.Union. -/
import Derived.Test.YtjmpmjmobbofgaaGreatDoorVaq
set_option linter.unusedSimpArgs false
set_option linter.unusedVariables false
namespace Go.Proofs
open Go Go.Q
attribute [local irreducible] pwp pops pAny PCalls OpN
set_option maxHeartbeats 4000000 in
theorem unionP_fn (a0 b0:List Sto) (t0 u0:Tag) (va:Valid a0) (vb:Valid b0) (hl:a0.length+b0.length≤400):FnC Tryz.prog 25 [.slice (a0.map eSto) t0,.slice (b0.map eSto) u0] (.tuple [.slice ((rUnion a0 b0).1.map eSto) .ro,.raw (.int .i64 (rUnion a0 b0).2)]):=⟨by
 refine fn_of Tryz.func25 Tryz.ntmps25 rfl (rs:= [.tmp 4,.tmp 5]) rfl rfl fun hb LF=>?_
 have hmu:=mrg_uni va.asc vb.asc
 refine wf ?_
 refine pwp_tok 37 ?_
 refine pwp_loopS (σ:=(List Sto × Tag) × (List Sto × Tag) × (List Sto × Tag)) (fun k=>mrgS a0 b0=(mrgS k.1.1 k.2.1.1).map (k.2.2.1++ ·)∧k.1.1.length+k.2.1.1.length+k.2.2.1.length≤a0.length+b0.length∧(∀ x∈k.1.1,x∈a0)∧(∀ x∈k.2.1.1,x∈b0)) (fun k=>k.1.1.length+k.2.1.1.length) (fun k=> [(0,.slice (k.1.1.map eSto) k.1.2),(1,.slice (k.2.1.1.map eSto) k.2.1.2),(6,.slice (k.2.2.1.map eSto) k.2.2.2)]) (fun k=> .tok k.2.2.2 k.2.2.1.length 37::LF) ((a0,t0),(b0,u0),([],.nil)) ⟨by cases mrgS a0 b0<;>simp,by simp,fun _ h=>h,fun _ h=>h⟩ ⟨rfl,rfl,rfl⟩ (.refl _) ?_
 rintro⟨⟨a,t⟩,⟨b,u⟩,⟨out,v⟩⟩ ⟨hm,hlen,hsa,hsb⟩
 dsimp only at hm hlen hsa hsb ⊢
 have hl0:out.length≤400:=by omega
 rcases a with _|⟨x,a⟩
 ·rcases b with _|⟨y,b⟩
  ·have e:rUnion a0 b0=(out,0):=by
    rw[hmu,mrgS]at hm
    rw[rUnion,hm]
    simp only[Option.map_some,List.append_nil]
    rw[if_neg (by omega)]
   rw[e]
   refine wf ?_
   refine pwp_condD (fun h=>?_) (fun h=>?_)
   ·omega
   refine wf ?_
   exact end2 (.tuple2 (.ro _ _) (.refl _))
  ·have g1:decide (0 < ((y::b).length:Int))=true:=decide_eq_true (by simp)
   have g2:decide (((y::b).length:Int)=0)=false:=decide_eq_false (by simp;omega)
   refine wn ?_
   refine pwp_condD (fun _=>?_) (fun h=>absurd (of_decide_eq_true g1) h)
   refine wn ?_
   refine pwp_drawQ (by decide+kernel) ?_
   refine pops_cutE [(25,.raw (.bool (false))),(0,.slice (([]:List Sto).map eSto) t),(1,.slice ((y::b).map eSto) u),(6,.slice (out.map eSto) v)] (.tok v out.length 37::LF) ?_ ?_
   ·refine wf ?_
    refine⟨⟨holdsB (by rfl) ?_,rfl,rfl,rfl⟩,.refl _⟩
    first|rfl|(simp_all;done)|grind
   refine wn ?_
   refine pwp_drawQ (by decide+kernel) ?_
   refine pops_cutE [(54,.raw (.bool (true))),(0,.slice (([]:List Sto).map eSto) t),(1,.slice ((y::b).map eSto) u),(6,.slice (out.map eSto) v)] (.tok v out.length 37::LF) ?_ ?_
   ·refine wf ?_
    refine⟨⟨holdsB (by rfl) ?_,rfl,rfl,rfl⟩,.refl _⟩
    first|rfl|(simp_all;done)|grind
   refine wn ?_
   refine pwp_drawA [4,5] (by decide+kernel) ?_
   refine pAny_quiet 0 rfl (by decide+kernel) rfl (fun L'=>q_of_pops (N:=93) rfl rfl (by refine wo ?_;refine pops_nil ?_;exact⟨upd_self _ _ _,rfl⟩)) ?_
   refine pAny_quiet 1 rfl (by decide+kernel) rfl (fun L'=>q_of_pops (N:=93) rfl rfl (by refine wo ?_;refine pops_nil ?_;exact⟨upd_self _ _ _,rfl⟩)) ?_
   refine pAny_quiet 2 rfl (by decide+kernel) rfl (fun L'=>q_of_pops (N:=93) rfl rfl (by refine wo ?_;refine pops_nil ?_;exact⟨upd_self _ _ _,rfl⟩)) ?_
   refine pAny_quiet 3 rfl (by decide+kernel) rfl (fun L'=>q_of_pops (N:=93) rfl rfl (by refine wo ?_;refine pops_nil ?_;exact⟨upd_self _ _ _,rfl⟩)) ?_
   refine pAny_quiet 6 rfl (by decide+kernel) rfl (fun L'=>q_of_pops (N:=93) rfl rfl (by refine wo ?_;refine pops_nil ?_;exact⟨upd_self _ _ _,rfl⟩)) ?_
   refine pAny_quiet 7 rfl (by decide+kernel) rfl (fun L'=>q_of_pops (N:=93) rfl rfl (by refine s_cutL (i:=1) rfl rfl (by simp) ?_;refine pops_nil ?_;exact⟨upd_self _ _ _,rfl⟩)) ?_
   refine pAny_next (fuel:=3) [4] (by decide+kernel) (by simp) fun i hi=>?_
   simp only[List.mem_cons,List.not_mem_nil,or_false]at hi
   subst hi
   refine⟨_,rfl,?_⟩
   refine wo ?_
   refine pops_nil ?_
   refine pAny_next (fuel:=2) [5] (by decide+kernel) (by simp) fun i hi=>?_
   simp only[List.mem_cons,List.not_mem_nil,or_false]at hi
   subst hi
   refine⟨_,rfl,?_⟩
   refine s_append (l:=out) (m:= [y]) rfl rfl (by simp only[List.length_cons,List.length_nil];omega) (by simp only[List.length_cons,List.length_nil];omega) (fun t=> .here) fun v2=>?_
   refine pops_nil ?_
   refine pAny_next (fuel:=1) [8] (by decide+kernel) (by simp) fun i hi=>?_
   simp only[List.mem_cons,List.not_mem_nil,or_false]at hi
   subst hi
   refine⟨_,rfl,?_⟩
   refine wo ?_
   refine pops_nil ?_
   refine pAny_next (fuel:=0) [9] (by decide+kernel) (by simp) fun i hi=>?_
   simp only[List.mem_cons,List.not_mem_nil,or_false]at hi
   subst hi
   refine⟨_,rfl,?_⟩
   refine wo ?_
   refine pops_nil ?_
   refine pAny_end (by decide+kernel) ?_
   refine wf ?_
   refine⟨(([],t),(b,.ro),(out++ [y],v2)),⟨?_,?_,?_,?_⟩,?_,⟨rfl,rfl,rfl⟩,.refl _⟩
   all_goals dsimp only
   ·rw[hm]
    cases b<;>simp[mrgS]
   ·simp only[List.length_append,List.length_cons,List.length_nil]at hlen ⊢;omega
   ·exact fun z hz=>hsa z (by first|exact hz|exact List.mem_cons_of_mem _ hz)
   ·exact fun z hz=>hsb z (by first|exact hz|exact List.mem_cons_of_mem _ hz)
   ·simp only[List.length_cons,List.length_nil];omega
 ·have g1:decide (0 < ((x::a).length:Int))=true:=decide_eq_true (by simp)
  have p1:0 < (x::a).length:=by simp
  rcases b with _|⟨y,b⟩
  ·refine wn ?_
   refine wn ?_
   refine pwp_drawQ (by decide+kernel) ?_
   refine pops_cutE [(25,.raw (.bool (true))),(0,.slice ((x::a).map eSto) t),(1,.slice (([]:List Sto).map eSto) u),(6,.slice (out.map eSto) v)] (.tok v out.length 37::LF) ?_ ?_
   ·refine wf ?_
    refine⟨⟨holdsB (by rfl) ?_,rfl,rfl,rfl⟩,.refl _⟩
    first|rfl|(simp_all;done)|grind
   refine wn ?_
   refine pwp_drawA [4,5] (by decide+kernel) ?_
   refine pAny_quiet 0 rfl (by decide+kernel) rfl (fun L'=>q_of_pops (N:=93) rfl rfl (by refine wo ?_;refine pops_nil ?_;exact⟨upd_self _ _ _,rfl⟩)) ?_
   refine pAny_quiet 1 rfl (by decide+kernel) rfl (fun L'=>q_of_pops (N:=93) rfl rfl (by refine wo ?_;refine pops_nil ?_;exact⟨upd_self _ _ _,rfl⟩)) ?_
   refine pAny_quiet 2 rfl (by decide+kernel) rfl (fun L'=>q_of_pops (N:=93) rfl rfl (by refine wo ?_;refine pops_nil ?_;exact⟨upd_self _ _ _,rfl⟩)) ?_
   refine pAny_quiet 3 rfl (by decide+kernel) rfl (fun L'=>q_of_pops (N:=93) rfl rfl (by refine wo ?_;refine pops_nil ?_;exact⟨upd_self _ _ _,rfl⟩)) ?_
   refine pAny_quiet 6 rfl (by decide+kernel) rfl (fun L'=>q_of_pops (N:=93) rfl rfl (by refine wo ?_;refine pops_nil ?_;exact⟨upd_self _ _ _,rfl⟩)) ?_
   refine pAny_quiet 7 rfl (by decide+kernel) rfl (fun L'=>q_of_pops (N:=93) rfl rfl (by refine s_cutL (i:=1) rfl rfl (by simp) ?_;refine pops_nil ?_;exact⟨upd_self _ _ _,rfl⟩)) ?_
   refine pAny_next (fuel:=3) [4] (by decide+kernel) (by simp) fun i hi=>?_
   simp only[List.mem_cons,List.not_mem_nil,or_false]at hi
   subst hi
   refine⟨_,rfl,?_⟩
   refine wo ?_
   refine pops_nil ?_
   refine pAny_next (fuel:=2) [5] (by decide+kernel) (by simp) fun i hi=>?_
   simp only[List.mem_cons,List.not_mem_nil,or_false]at hi
   subst hi
   refine⟨_,rfl,?_⟩
   refine s_append (l:=out) (m:= [x]) rfl rfl (by simp only[List.length_cons,List.length_nil];omega) (by simp only[List.length_cons,List.length_nil];omega) (fun t=> .here) fun v2=>?_
   refine pops_nil ?_
   refine pAny_next (fuel:=1) [8] (by decide+kernel) (by simp) fun i hi=>?_
   simp only[List.mem_cons,List.not_mem_nil,or_false]at hi
   subst hi
   refine⟨_,rfl,?_⟩
   refine wo ?_
   refine pops_nil ?_
   refine pAny_next (fuel:=0) [9] (by decide+kernel) (by simp) fun i hi=>?_
   simp only[List.mem_cons,List.not_mem_nil,or_false]at hi
   subst hi
   refine⟨_,rfl,?_⟩
   refine wo ?_
   refine pops_nil ?_
   refine pAny_end (by decide+kernel) ?_
   refine wf ?_
   refine⟨((a,.ro),([],u),(out++ [x],v2)),⟨?_,?_,?_,?_⟩,?_,⟨rfl,rfl,rfl⟩,.refl _⟩
   all_goals dsimp only
   ·rw[hm]
    cases a<;>simp[mrgS]
   ·simp only[List.length_append,List.length_cons,List.length_nil]at hlen ⊢;omega
   ·exact fun z hz=>hsa z (by first|exact hz|exact List.mem_cons_of_mem _ hz)
   ·exact fun z hz=>hsb z (by first|exact hz|exact List.mem_cons_of_mem _ hz)
   ·simp only[List.length_cons,List.length_nil];omega
  ·have g2:decide (((y::b).length:Int)=0)=false:=decide_eq_false (by simp;omega)
   have p2:0 < (y::b).length:=by simp
   have g3:decide (((x::a).length:Int)=0)=false:=decide_eq_false (by simp;omega)
   have i1:Small (rBig x.patch=false):=⟨va.close.1.2 x (hsa x List.mem_cons_self)⟩
   have i2:Small (rBig y.patch=false):=⟨vb.close.1.2 y (hsb y List.mem_cons_self)⟩
   have q1:=equalP_ct x.patch y.patch
   rw[encode_eq i2.out i1.out (vb.id y (hsb y List.mem_cons_self)).1 (va.id x (hsa x List.mem_cons_self)).1]at q1
   have q2:FnC Tryz.prog 64 [.agg (ePat (x::a)[0].patch),.agg (ePat (y::b)[0].patch)] (.raw (.bool (decide (y.patch=x.patch)))):=q1
   by_cases h1:cmpD x.id y.id < 0
   ·have hm1:mrgS (x::a) (y::b)=(mrgS a (y::b)).map (x:: ·):=by rw[mrgS,if_pos h1]
    refine wn ?_
    refine pwp_drawQ (by decide+kernel) ?_
    refine pops_cutE [(25,.raw (.bool (true))),(0,.slice ((x::a).map eSto) t),(1,.slice ((y::b).map eSto) u),(6,.slice (out.map eSto) v)] (.tok v out.length 37::LF) ?_ ?_
    ·refine wf ?_
     refine⟨⟨holdsB (by rfl) ?_,rfl,rfl,rfl⟩,.refl _⟩
     first|rfl|(simp_all;done)|grind
    refine wn ?_
    refine pwp_drawA [4,5] (by decide+kernel) ?_
    refine pAny_quiet 0 rfl (by decide+kernel) rfl (fun L'=>q_of_pops (N:=93) rfl rfl (by refine wo ?_;refine pops_nil ?_;exact⟨upd_self _ _ _,rfl⟩)) ?_
    refine pAny_quiet 1 rfl (by decide+kernel) rfl (fun L'=>q_of_pops (N:=93) rfl rfl (by refine wo ?_;refine pops_nil ?_;exact⟨upd_self _ _ _,rfl⟩)) ?_
    refine pAny_quiet 2 rfl (by decide+kernel) rfl (fun L'=>q_of_pops (N:=93) rfl rfl (by refine wo ?_;refine pops_nil ?_;exact⟨upd_self _ _ _,rfl⟩)) ?_
    refine pAny_quiet 3 rfl (by decide+kernel) rfl (fun L'=>q_of_pops (N:=93) rfl rfl (by refine wo ?_;refine pops_nil ?_;exact⟨upd_self _ _ _,rfl⟩)) ?_
    refine pAny_quiet 6 rfl (by decide+kernel) rfl (fun L'=>q_of_pops (N:=93) rfl rfl (by refine wo ?_;refine pops_nil ?_;exact⟨upd_self _ _ _,rfl⟩)) ?_
    refine pAny_quiet 7 rfl (by decide+kernel) rfl (fun L'=>q_of_pops (N:=93) rfl rfl (by refine s_cutL (i:=1) rfl rfl (by simp) ?_;refine pops_nil ?_;exact⟨upd_self _ _ _,rfl⟩)) ?_
    refine pAny_next (fuel:=3) [4] (by decide+kernel) (by simp) fun i hi=>?_
    simp only[List.mem_cons,List.not_mem_nil,or_false]at hi
    subst hi
    refine⟨_,rfl,?_⟩
    refine wo ?_
    refine pops_nil ?_
    refine pAny_next (fuel:=2) [5] (by decide+kernel) (by simp) fun i hi=>?_
    simp only[List.mem_cons,List.not_mem_nil,or_false]at hi
    subst hi
    refine⟨_,rfl,?_⟩
    refine s_append (l:=out) (m:= [x]) rfl rfl (by simp only[List.length_cons,List.length_nil];omega) (by simp only[List.length_cons,List.length_nil];omega) (fun t=> .here) fun v2=>?_
    refine pops_nil ?_
    refine pAny_next (fuel:=1) [8] (by decide+kernel) (by simp) fun i hi=>?_
    simp only[List.mem_cons,List.not_mem_nil,or_false]at hi
    subst hi
    refine⟨_,rfl,?_⟩
    refine wo ?_
    refine pops_nil ?_
    refine pAny_next (fuel:=0) [9] (by decide+kernel) (by simp) fun i hi=>?_
    simp only[List.mem_cons,List.not_mem_nil,or_false]at hi
    subst hi
    refine⟨_,rfl,?_⟩
    refine wo ?_
    refine pops_nil ?_
    refine pAny_end (by decide+kernel) ?_
    refine wf ?_
    refine⟨((a,.ro),(y::b,u),(out++ [x],v2)),⟨?_,?_,?_,?_⟩,?_,⟨rfl,rfl,rfl⟩,.refl _⟩
    all_goals dsimp only
    ·rw[hm,hm1]
     cases mrgS a (y::b)<;>simp
    ·simp only[List.length_append,List.length_cons,List.length_nil]at hlen ⊢;omega
    ·exact fun z hz=>hsa z (by first|exact hz|exact List.mem_cons_of_mem _ hz)
    ·exact fun z hz=>hsb z (by first|exact hz|exact List.mem_cons_of_mem _ hz)
    ·simp only[List.length_cons,List.length_nil];omega
   by_cases h2:cmpD y.id x.id < 0
   ·have hm1:mrgS (x::a) (y::b)=(mrgS (x::a) b).map (y:: ·):=by rw[mrgS,if_neg h1,if_pos h2]
    refine wn ?_
    refine pwp_drawQ (by decide+kernel) ?_
    refine pops_cutE [(25,.raw (.bool (false))),(0,.slice ((x::a).map eSto) t),(1,.slice ((y::b).map eSto) u),(6,.slice (out.map eSto) v)] (.tok v out.length 37::LF) ?_ ?_
    ·refine wf ?_
     refine⟨⟨holdsB (by rfl) ?_,rfl,rfl,rfl⟩,.refl _⟩
     first|rfl|(simp_all;done)|grind
    refine wn ?_
    refine pwp_drawQ (by decide+kernel) ?_
    refine pops_cutE [(54,.raw (.bool (true))),(0,.slice ((x::a).map eSto) t),(1,.slice ((y::b).map eSto) u),(6,.slice (out.map eSto) v)] (.tok v out.length 37::LF) ?_ ?_
    ·refine wf ?_
     refine⟨⟨holdsB (by rfl) ?_,rfl,rfl,rfl⟩,.refl _⟩
     first|rfl|(simp_all;done)|grind
    refine wn ?_
    refine pwp_drawA [4,5] (by decide+kernel) ?_
    refine pAny_quiet 0 rfl (by decide+kernel) rfl (fun L'=>q_of_pops (N:=93) rfl rfl (by refine wo ?_;refine pops_nil ?_;exact⟨upd_self _ _ _,rfl⟩)) ?_
    refine pAny_quiet 1 rfl (by decide+kernel) rfl (fun L'=>q_of_pops (N:=93) rfl rfl (by refine wo ?_;refine pops_nil ?_;exact⟨upd_self _ _ _,rfl⟩)) ?_
    refine pAny_quiet 2 rfl (by decide+kernel) rfl (fun L'=>q_of_pops (N:=93) rfl rfl (by refine wo ?_;refine pops_nil ?_;exact⟨upd_self _ _ _,rfl⟩)) ?_
    refine pAny_quiet 3 rfl (by decide+kernel) rfl (fun L'=>q_of_pops (N:=93) rfl rfl (by refine wo ?_;refine pops_nil ?_;exact⟨upd_self _ _ _,rfl⟩)) ?_
    refine pAny_quiet 6 rfl (by decide+kernel) rfl (fun L'=>q_of_pops (N:=93) rfl rfl (by refine wo ?_;refine pops_nil ?_;exact⟨upd_self _ _ _,rfl⟩)) ?_
    refine pAny_quiet 7 rfl (by decide+kernel) rfl (fun L'=>q_of_pops (N:=93) rfl rfl (by refine s_cutL (i:=1) rfl rfl (by simp) ?_;refine pops_nil ?_;exact⟨upd_self _ _ _,rfl⟩)) ?_
    refine pAny_next (fuel:=3) [4] (by decide+kernel) (by simp) fun i hi=>?_
    simp only[List.mem_cons,List.not_mem_nil,or_false]at hi
    subst hi
    refine⟨_,rfl,?_⟩
    refine wo ?_
    refine pops_nil ?_
    refine pAny_next (fuel:=2) [5] (by decide+kernel) (by simp) fun i hi=>?_
    simp only[List.mem_cons,List.not_mem_nil,or_false]at hi
    subst hi
    refine⟨_,rfl,?_⟩
    refine s_append (l:=out) (m:= [y]) rfl rfl (by simp only[List.length_cons,List.length_nil];omega) (by simp only[List.length_cons,List.length_nil];omega) (fun t=> .here) fun v2=>?_
    refine pops_nil ?_
    refine pAny_next (fuel:=1) [8] (by decide+kernel) (by simp) fun i hi=>?_
    simp only[List.mem_cons,List.not_mem_nil,or_false]at hi
    subst hi
    refine⟨_,rfl,?_⟩
    refine wo ?_
    refine pops_nil ?_
    refine pAny_next (fuel:=0) [9] (by decide+kernel) (by simp) fun i hi=>?_
    simp only[List.mem_cons,List.not_mem_nil,or_false]at hi
    subst hi
    refine⟨_,rfl,?_⟩
    refine wo ?_
    refine pops_nil ?_
    refine pAny_end (by decide+kernel) ?_
    refine wf ?_
    refine⟨((x::a,t),(b,.ro),(out++ [y],v2)),⟨?_,?_,?_,?_⟩,?_,⟨rfl,rfl,rfl⟩,.refl _⟩
    all_goals dsimp only
    ·rw[hm,hm1]
     cases mrgS (x::a) b<;>simp
    ·simp only[List.length_append,List.length_cons,List.length_nil]at hlen ⊢;omega
    ·exact fun z hz=>hsa z (by first|exact hz|exact List.mem_cons_of_mem _ hz)
    ·exact fun z hz=>hsb z (by first|exact hz|exact List.mem_cons_of_mem _ hz)
    ·simp only[List.length_cons,List.length_nil];omega
   refine wn ?_
   refine pwp_drawQ (by decide+kernel) ?_
   refine pops_cutE [(25,.raw (.bool (false))),(0,.slice ((x::a).map eSto) t),(1,.slice ((y::b).map eSto) u),(6,.slice (out.map eSto) v)] (.tok v out.length 37::LF) ?_ ?_
   ·refine wf ?_
    refine⟨⟨holdsB (by rfl) ?_,rfl,rfl,rfl⟩,.refl _⟩
    first|rfl|(simp_all;done)|grind
   refine wn ?_
   refine pwp_drawQ (by decide+kernel) ?_
   refine pops_cutE [(54,.raw (.bool (false))),(0,.slice ((x::a).map eSto) t),(1,.slice ((y::b).map eSto) u),(6,.slice (out.map eSto) v)] (.tok v out.length 37::LF) ?_ ?_
   ·refine wf ?_
    refine⟨⟨holdsB (by rfl) ?_,rfl,rfl,rfl⟩,.refl _⟩
    first|rfl|(simp_all;done)|grind
   by_cases h3:y.patch=x.patch
   ·have hm1:mrgS (x::a) (y::b)=(mrgS a b).map (x:: ·):=by rw[mrgS,if_neg h1,if_neg h2,if_pos h3.symm]
    refine wn ?_
    refine pwp_drawQ (by decide+kernel) ?_
    refine pops_cutE [(78,.raw (.bool (false))),(0,.slice ((x::a).map eSto) t),(1,.slice ((y::b).map eSto) u),(6,.slice (out.map eSto) v)] (.tok v out.length 37::LF) ?_ ?_
    ·refine wf ?_
     refine⟨⟨holdsB (by rfl) ?_,rfl,rfl,rfl⟩,.refl _⟩
     first|rfl|(simp_all;done)|grind
    refine wn ?_
    refine pwp_drawA [4,5] (by decide+kernel) ?_
    refine pAny_quiet 0 rfl (by decide+kernel) rfl (fun L'=>q_of_pops (N:=93) rfl rfl (by refine wo ?_;refine pops_nil ?_;exact⟨upd_self _ _ _,rfl⟩)) ?_
    refine pAny_quiet 1 rfl (by decide+kernel) rfl (fun L'=>q_of_pops (N:=93) rfl rfl (by refine wo ?_;refine pops_nil ?_;exact⟨upd_self _ _ _,rfl⟩)) ?_
    refine pAny_quiet 2 rfl (by decide+kernel) rfl (fun L'=>q_of_pops (N:=93) rfl rfl (by refine wo ?_;refine pops_nil ?_;exact⟨upd_self _ _ _,rfl⟩)) ?_
    refine pAny_quiet 3 rfl (by decide+kernel) rfl (fun L'=>q_of_pops (N:=93) rfl rfl (by refine wo ?_;refine pops_nil ?_;exact⟨upd_self _ _ _,rfl⟩)) ?_
    refine pAny_quiet 6 rfl (by decide+kernel) rfl (fun L'=>q_of_pops (N:=93) rfl rfl (by refine wo ?_;refine pops_nil ?_;exact⟨upd_self _ _ _,rfl⟩)) ?_
    refine pAny_quiet 7 rfl (by decide+kernel) rfl (fun L'=>q_of_pops (N:=93) rfl rfl (by refine s_cutL (i:=1) rfl rfl (by simp) ?_;refine pops_nil ?_;exact⟨upd_self _ _ _,rfl⟩)) ?_
    refine pAny_quiet 8 rfl (by decide+kernel) rfl (fun L'=>q_of_pops (N:=93) rfl rfl (by refine wo ?_;refine pops_nil ?_;exact⟨upd_self _ _ _,rfl⟩)) ?_
    refine pAny_quiet 9 rfl (by decide+kernel) rfl (fun L'=>q_of_pops (N:=93) rfl rfl (by refine s_cutL (i:=1) rfl rfl (by simp) ?_;refine pops_nil ?_;exact⟨upd_self _ _ _,rfl⟩)) ?_
    refine pAny_next (fuel:=4) [4] (by decide+kernel) (by simp) fun i hi=>?_
    simp only[List.mem_cons,List.not_mem_nil,or_false]at hi
    subst hi
    refine⟨_,rfl,?_⟩
    refine wo ?_
    refine pops_nil ?_
    refine pAny_next (fuel:=3) [5] (by decide+kernel) (by simp) fun i hi=>?_
    simp only[List.mem_cons,List.not_mem_nil,or_false]at hi
    subst hi
    refine⟨_,rfl,?_⟩
    refine s_append (l:=out) (m:= [x]) rfl rfl (by simp only[List.length_cons,List.length_nil];omega) (by simp only[List.length_cons,List.length_nil];omega) (fun t=> .here) fun v2=>?_
    refine pops_nil ?_
    refine pAny_next (fuel:=2) [10] (by decide+kernel) (by simp) fun i hi=>?_
    simp only[List.mem_cons,List.not_mem_nil,or_false]at hi
    subst hi
    refine⟨_,rfl,?_⟩
    refine wo ?_
    refine pops_nil ?_
    refine pAny_next (fuel:=1) [11] (by decide+kernel) (by simp) fun i hi=>?_
    simp only[List.mem_cons,List.not_mem_nil,or_false]at hi
    subst hi
    refine⟨_,rfl,?_⟩
    refine wo ?_
    refine pops_nil ?_
    refine pAny_next (fuel:=0) [12] (by decide+kernel) (by simp) fun i hi=>?_
    simp only[List.mem_cons,List.not_mem_nil,or_false]at hi
    subst hi
    refine⟨_,rfl,?_⟩
    refine wo ?_
    refine pops_nil ?_
    refine pAny_end (by decide+kernel) ?_
    refine wf ?_
    refine⟨((a,.ro),(b,.ro),(out++ [x],v2)),⟨?_,?_,?_,?_⟩,?_,⟨rfl,rfl,rfl⟩,.refl _⟩
    all_goals dsimp only
    ·rw[hm,hm1]
     cases mrgS a b<;>simp
    ·simp only[List.length_append,List.length_cons,List.length_nil]at hlen ⊢;omega
    ·exact fun z hz=>hsa z (by first|exact hz|exact List.mem_cons_of_mem _ hz)
    ·exact fun z hz=>hsb z (by first|exact hz|exact List.mem_cons_of_mem _ hz)
    ·simp only[List.length_cons,List.length_nil];omega
   ·have hm1:mrgS (x::a) (y::b)=none:=by rw[mrgS,if_neg h1,if_neg h2,if_neg fun h=>h3 h.symm]
    have e:rUnion a0 b0=([],14):=by
     rw[hmu,hm1]at hm
     rw[rUnion,hm];rfl
    rw[show(rUnion a0 b0).1= [] by rw[e],show(rUnion a0 b0).2=14 by rw[e],List.map_nil]
    refine wn ?_
    refine pwp_drawQ (by decide+kernel) ?_
    refine pops_cutE [(78,.raw (.bool (true))),(0,.slice ((x::a).map eSto) t),(1,.slice ((y::b).map eSto) u),(6,.slice (out.map eSto) v)] (.tok v out.length 37::LF) ?_ ?_
    ·refine wf ?_
     refine⟨⟨holdsB (by rfl) ?_,rfl,rfl,rfl⟩,.refl _⟩
     first|rfl|(simp_all;done)|grind
    refine wf ?_
    exact end2 (.tuple2 (.ro _ _) (.refl _))⟩
end Go.Proofs
