/- Contracts of the program: patchset.Union. -/
import Derived.Test.YtjmpmjmobbofgaaGreatDoorUaq
import Derived.Test.YtjmpmjmobbofgaaGreatDoorUal
import Derived.Test.YtjmpmjmobbofgaaGreatDoorUai
import Derived.Test.YtjmpmjmobbofgaaGreatDoorUam
import Derived.Test.YtjmpmjmobbofgaaGreatDoorUap
import Derived.Test.YtjmpmjmobbofgaaGreatDoorUag
import Derived.Test.YtjmpmjmobbofgaaGreatDoorUao
set_option linter.unusedSimpArgs false
set_option linter.unusedVariables false
namespace Go.Proofs
open Go Go.Q
attribute [local irreducible] pwp pops pAny PCalls OpN
set_option maxHeartbeats 4000000 in
theorem unionP_fn (a0 b0:List Sto) (t0 u0:Tag) (va:Valid a0) (vb:Valid b0) (hl:a0.length+b0.length≤400):FnC Tryz.prog 25 [.slice (a0.map eSto) t0,.slice (b0.map eSto) u0] (.tuple [.slice ((rUnion a0 b0).1.map eSto) .ro,.raw (.int .i64 (rUnion a0 b0).2)]):=⟨by
 refine fn_of Tryz.func25 Tryz.ntmps25 rfl (rs:= [.tmp 4,.tmp 5]) rfl rfl fun hb LF=>?_
 have hmu:=mrg_uni va.asc vb.asc
 refine wf ?_
 refine pwp_tok 37 ?_
 refine pwp_loopS (σ:=(List Sto × Tag) × (List Sto × Tag) × (List Sto × Tag)) (fun k=>mrgS a0 b0=(mrgS k.1.1 k.2.1.1).map (k.2.2.1++ ·)∧k.1.1.length+k.2.1.1.length+k.2.2.1.length≤a0.length+b0.length∧(∀ x∈k.1.1,x∈a0)∧(∀ x∈k.2.1.1,x∈b0)) (fun k=>k.1.1.length+k.2.1.1.length) (fun k=> [(0,.slice (k.1.1.map eSto) k.1.2),(1,.slice (k.2.1.1.map eSto) k.2.1.2),(6,.slice (k.2.2.1.map eSto) k.2.2.2)]) (fun k=> .tok k.2.2.2 k.2.2.1.length 37::LF) ((a0,t0),(b0,u0),([],.nil)) ⟨by cases mrgS a0 b0<;>simp,by simp,fun _ h=>h,fun _ h=>h⟩ ⟨rfl,rfl,rfl⟩ (.refl _) ?_
 rintro⟨⟨a,t⟩,⟨b,u⟩,⟨out,v⟩⟩ ⟨hm,hlen,hsa,hsb⟩
 dsimp only at hm hlen hsa hsb ⊢
 have hl0:out.length≤400:=by omega
 rcases a with _|⟨x,a⟩
 ·rcases b with _|⟨y,b⟩
  ·have e:rUnion a0 b0=(out,0):=by
    rw[hmu,mrgS]at hm
    rw[rUnion,hm]
    simp only[Option.map_some,List.append_nil]
    rw[if_neg (by omega)]
   rw[e]
   refine wf ?_
   refine pwp_condD (fun h=>?_) (fun h=>?_)
   ·omega
   refine wf ?_
   exact end2 (.tuple2 (.ro _ _) (.refl _))
  ·have g1:decide (0 < ((y::b).length:Int))=true:=decide_eq_true (by simp)
   have g2:decide (((y::b).length:Int)=0)=false:=decide_eq_false (by simp;omega)
   refine wn ?_
   refine pwp_condD (fun _=>?_) (fun h=>absurd (of_decide_eq_true g1) h)
   refine wn ?_
   refine pwp_drawQ (by decide+kernel) ?_
   refine pops_cutE [(25,.raw (.bool (false))),(0,.slice (([]:List Sto).map eSto) t),(1,.slice ((y::b).map eSto) u),(6,.slice (out.map eSto) v)] (.tok v out.length 37::LF) ?_ ?_
   ·refine wf ?_
    refine⟨⟨holdsB (by rfl) ?_,rfl,rfl,rfl⟩,.refl _⟩
    first|rfl|(simp_all;done)|grind
   refine wn ?_
   refine pwp_drawQ (by decide+kernel) ?_
   refine pops_cutE [(54,.raw (.bool (true))),(0,.slice (([]:List Sto).map eSto) t),(1,.slice ((y::b).map eSto) u),(6,.slice (out.map eSto) v)] (.tok v out.length 37::LF) ?_ ?_
   ·refine wf ?_
    refine⟨⟨holdsB (by rfl) ?_,rfl,rfl,rfl⟩,.refl _⟩
    first|rfl|(simp_all;done)|grind
   refine wn ?_
   refine pwp_drawA [4,5] (by decide+kernel) ?_
   refine pAny_quiet 0 rfl (by decide+kernel) rfl (fun L'=>q_of_pops (N:=93) rfl rfl (by refine wo ?_;refine pops_nil ?_;exact⟨upd_self _ _ _,rfl⟩)) ?_
   refine pAny_quiet 1 rfl (by decide+kernel) rfl (fun L'=>q_of_pops (N:=93) rfl rfl (by refine wo ?_;refine pops_nil ?_;exact⟨upd_self _ _ _,rfl⟩)) ?_
   refine pAny_quiet 2 rfl (by decide+kernel) rfl (fun L'=>q_of_pops (N:=93) rfl rfl (by refine wo ?_;refine pops_nil ?_;exact⟨upd_self _ _ _,rfl⟩)) ?_
   refine pAny_quiet 3 rfl (by decide+kernel) rfl (fun L'=>q_of_pops (N:=93) rfl rfl (by refine wo ?_;refine pops_nil ?_;exact⟨upd_self _ _ _,rfl⟩)) ?_
   refine pAny_quiet 6 rfl (by decide+kernel) rfl (fun L'=>q_of_pops (N:=93) rfl rfl (by refine wo ?_;refine pops_nil ?_;exact⟨upd_self _ _ _,rfl⟩)) ?_
   refine pAny_quiet 7 rfl (by decide+kernel) rfl (fun L'=>q_of_pops (N:=93) rfl rfl (by refine s_cutL (i:=1) rfl rfl (by simp) ?_;refine pops_nil ?_;exact⟨upd_self _ _ _,rfl⟩)) ?_
   refine pAny_next (fuel:=3) [4] (by decide+kernel) (by simp) fun i hi=>?_
   simp only[List.mem_cons,List.not_mem_nil,or_false]at hi
   subst hi
   refine⟨_,rfl,?_⟩
   refine wo ?_
   refine pops_nil ?_
   refine pAny_next (fuel:=2) [5] (by decide+kernel) (by simp) fun i hi=>?_
   simp only[List.mem_cons,List.not_mem_nil,or_false]at hi
   subst hi
   refine⟨_,rfl,?_⟩
   refine s_append (l:=out) (m:= [y]) rfl rfl (by simp only[List.length_cons,List.length_nil];omega) (by simp only[List.length_cons,List.length_nil];omega) (fun t=> .here) fun v2=>?_
   refine pops_nil ?_
   refine pAny_next (fuel:=1) [8] (by decide+kernel) (by simp) fun i hi=>?_
   simp only[List.mem_cons,List.not_mem_nil,or_false]at hi
   subst hi
   refine⟨_,rfl,?_⟩
   refine wo ?_
   refine pops_nil ?_
   refine pAny_next (fuel:=0) [9] (by decide+kernel) (by simp) fun i hi=>?_
   simp only[List.mem_cons,List.not_mem_nil,or_false]at hi
   subst hi
   refine⟨_,rfl,?_⟩
   refine wo ?_
   refine pops_nil ?_
   refine pAny_end (by decide+kernel) ?_
   refine wf ?_
   refine⟨(([],t),(b,.ro),(out++ [y],v2)),⟨?_,?_,?_,?_⟩,?_,⟨rfl,rfl,rfl⟩,.refl _⟩
   all_goals dsimp only
   ·rw[hm]
    cases b<;>simp[mrgS]
   ·simp only[List.length_append,List.length_cons,List.length_nil]at hlen ⊢;omega
   ·exact fun z hz=>hsa z (by first|exact hz|exact List.mem_cons_of_mem _ hz)
   ·exact fun z hz=>hsb z (by first|exact hz|exact List.mem_cons_of_mem _ hz)
   ·simp only[List.length_cons,List.length_nil];omega
 ·have g1:decide (0 < ((x::a).length:Int))=true:=decide_eq_true (by simp)
  have p1:0 < (x::a).length:=by simp
  rcases b with _|⟨y,b⟩
  ·refine wn ?_
   refine wn ?_
   refine pwp_drawQ (by decide+kernel) ?_
   refine pops_cutE [(25,.raw (.bool (true))),(0,.slice ((x::a).map eSto) t),(1,.slice (([]:List Sto).map eSto) u),(6,.slice (out.map eSto) v)] (.tok v out.length 37::LF) ?_ ?_
   ·refine wf ?_
    refine⟨⟨holdsB (by rfl) ?_,rfl,rfl,rfl⟩,.refl _⟩
    first|rfl|(simp_all;done)|grind
   refine wn ?_
   refine pwp_drawA [4,5] (by decide+kernel) ?_
   refine pAny_quiet 0 rfl (by decide+kernel) rfl (fun L'=>q_of_pops (N:=93) rfl rfl (by refine wo ?_;refine pops_nil ?_;exact⟨upd_self _ _ _,rfl⟩)) ?_
   refine pAny_quiet 1 rfl (by decide+kernel) rfl (fun L'=>q_of_pops (N:=93) rfl rfl (by refine wo ?_;refine pops_nil ?_;exact⟨upd_self _ _ _,rfl⟩)) ?_
   refine pAny_quiet 2 rfl (by decide+kernel) rfl (fun L'=>q_of_pops (N:=93) rfl rfl (by refine wo ?_;refine pops_nil ?_;exact⟨upd_self _ _ _,rfl⟩)) ?_
   refine pAny_quiet 3 rfl (by decide+kernel) rfl (fun L'=>q_of_pops (N:=93) rfl rfl (by refine wo ?_;refine pops_nil ?_;exact⟨upd_self _ _ _,rfl⟩)) ?_
   refine pAny_quiet 6 rfl (by decide+kernel) rfl (fun L'=>q_of_pops (N:=93) rfl rfl (by refine wo ?_;refine pops_nil ?_;exact⟨upd_self _ _ _,rfl⟩)) ?_
   refine pAny_quiet 7 rfl (by decide+kernel) rfl (fun L'=>q_of_pops (N:=93) rfl rfl (by refine s_cutL (i:=1) rfl rfl (by simp) ?_;refine pops_nil ?_;exact⟨upd_self _ _ _,rfl⟩)) ?_
   refine pAny_next (fuel:=3) [4] (by decide+kernel) (by simp) fun i hi=>?_
   simp only[List.mem_cons,List.not_mem_nil,or_false]at hi
   subst hi
   refine⟨_,rfl,?_⟩
   refine wo ?_
   refine pops_nil ?_
   refine pAny_next (fuel:=2) [5] (by decide+kernel) (by simp) fun i hi=>?_
   simp only[List.mem_cons,List.not_mem_nil,or_false]at hi
   subst hi
   refine⟨_,rfl,?_⟩
   refine s_append (l:=out) (m:= [x]) rfl rfl (by simp only[List.length_cons,List.length_nil];omega) (by simp only[List.length_cons,List.length_nil];omega) (fun t=> .here) fun v2=>?_
   refine pops_nil ?_
   refine pAny_next (fuel:=1) [8] (by decide+kernel) (by simp) fun i hi=>?_
   simp only[List.mem_cons,List.not_mem_nil,or_false]at hi
   subst hi
   refine⟨_,rfl,?_⟩
   refine wo ?_
   refine pops_nil ?_
   refine pAny_next (fuel:=0) [9] (by decide+kernel) (by simp) fun i hi=>?_
   simp only[List.mem_cons,List.not_mem_nil,or_false]at hi
   subst hi
   refine⟨_,rfl,?_⟩
   refine wo ?_
   refine pops_nil ?_
   refine pAny_end (by decide+kernel) ?_
   refine wf ?_
   refine⟨((a,.ro),([],u),(out++ [x],v2)),⟨?_,?_,?_,?_⟩,?_,⟨rfl,rfl,rfl⟩,.refl _⟩
   all_goals dsimp only
   ·rw[hm]
    cases a<;>simp[mrgS]
   ·simp only[List.length_append,List.length_cons,List.length_nil]at hlen ⊢;omega
   ·exact fun z hz=>hsa z (by first|exact hz|exact List.mem_cons_of_mem _ hz)
   ·exact fun z hz=>hsb z (by first|exact hz|exact List.mem_cons_of_mem _ hz)
   ·simp only[List.length_cons,List.length_nil];omega
  ·have g2:decide (((y::b).length:Int)=0)=false:=decide_eq_false (by simp;omega)
   have p2:0 < (y::b).length:=by simp
   have g3:decide (((x::a).length:Int)=0)=false:=decide_eq_false (by simp;omega)
   have i1:Small (rBig x.patch=false):=⟨va.close.1.2 x (hsa x List.mem_cons_self)⟩
   have i2:Small (rBig y.patch=false):=⟨vb.close.1.2 y (hsb y List.mem_cons_self)⟩
   have q1:=equalP_ct x.patch y.patch
   rw[encode_eq i2.out i1.out (vb.id y (hsb y List.mem_cons_self)).1 (va.id x (hsa x List.mem_cons_self)).1]at q1
   have q2:FnC Tryz.prog 64 [.agg (ePat (x::a)[0].patch),.agg (ePat (y::b)[0].patch)] (.raw (.bool (decide (y.patch=x.patch)))):=q1
   by_cases h1:cmpD x.id y.id < 0
   ·have hm1:mrgS (x::a) (y::b)=(mrgS a (y::b)).map (x:: ·):=by rw[mrgS,if_pos h1]
    refine wn ?_
    refine pwp_drawQ (by decide+kernel) ?_
    refine pops_cutE [(25,.raw (.bool (true))),(0,.slice ((x::a).map eSto) t),(1,.slice ((y::b).map eSto) u),(6,.slice (out.map eSto) v)] (.tok v out.length 37::LF) ?_ ?_
    ·refine wf ?_
     refine⟨⟨holdsB (by rfl) ?_,rfl,rfl,rfl⟩,.refl _⟩
     first|rfl|(simp_all;done)|grind
    refine wn ?_
    refine pwp_drawA [4,5] (by decide+kernel) ?_
    refine pAny_quiet 0 rfl (by decide+kernel) rfl (fun L'=>q_of_pops (N:=93) rfl rfl (by refine wo ?_;refine pops_nil ?_;exact⟨upd_self _ _ _,rfl⟩)) ?_
    refine pAny_quiet 1 rfl (by decide+kernel) rfl (fun L'=>q_of_pops (N:=93) rfl rfl (by refine wo ?_;refine pops_nil ?_;exact⟨upd_self _ _ _,rfl⟩)) ?_
    refine pAny_quiet 2 rfl (by decide+kernel) rfl (fun L'=>q_of_pops (N:=93) rfl rfl (by refine wo ?_;refine pops_nil ?_;exact⟨upd_self _ _ _,rfl⟩)) ?_
    refine pAny_quiet 3 rfl (by decide+kernel) rfl (fun L'=>q_of_pops (N:=93) rfl rfl (by refine wo ?_;refine pops_nil ?_;exact⟨upd_self _ _ _,rfl⟩)) ?_
    refine pAny_quiet 6 rfl (by decide+kernel) rfl (fun L'=>q_of_pops (N:=93) rfl rfl (by refine wo ?_;refine pops_nil ?_;exact⟨upd_self _ _ _,rfl⟩)) ?_
    refine pAny_quiet 7 rfl (by decide+kernel) rfl (fun L'=>q_of_pops (N:=93) rfl rfl (by refine s_cutL (i:=1) rfl rfl (by simp) ?_;refine pops_nil ?_;exact⟨upd_self _ _ _,rfl⟩)) ?_
    refine pAny_next (fuel:=3) [4] (by decide+kernel) (by simp) fun i hi=>?_
    simp only[List.mem_cons,List.not_mem_nil,or_false]at hi
    subst hi
    refine⟨_,rfl,?_⟩
    refine wo ?_
    refine pops_nil ?_
    refine pAny_next (fuel:=2) [5] (by decide+kernel) (by simp) fun i hi=>?_
    simp only[List.mem_cons,List.not_mem_nil,or_false]at hi
    subst hi
    refine⟨_,rfl,?_⟩
    refine s_append (l:=out) (m:= [x]) rfl rfl (by simp only[List.length_cons,List.length_nil];omega) (by simp only[List.length_cons,List.length_nil];omega) (fun t=> .here) fun v2=>?_
    refine pops_nil ?_
    refine pAny_next (fuel:=1) [8] (by decide+kernel) (by simp) fun i hi=>?_
    simp only[List.mem_cons,List.not_mem_nil,or_false]at hi
    subst hi
    refine⟨_,rfl,?_⟩
    refine wo ?_
    refine pops_nil ?_
    refine pAny_next (fuel:=0) [9] (by decide+kernel) (by simp) fun i hi=>?_
    simp only[List.mem_cons,List.not_mem_nil,or_false]at hi
    subst hi
    refine⟨_,rfl,?_⟩
    refine wo ?_
    refine pops_nil ?_
    refine pAny_end (by decide+kernel) ?_
    refine wf ?_
    refine⟨((a,.ro),(y::b,u),(out++ [x],v2)),⟨?_,?_,?_,?_⟩,?_,⟨rfl,rfl,rfl⟩,.refl _⟩
    all_goals dsimp only
    ·rw[hm,hm1]
     cases mrgS a (y::b)<;>simp
    ·simp only[List.length_append,List.length_cons,List.length_nil]at hlen ⊢;omega
    ·exact fun z hz=>hsa z (by first|exact hz|exact List.mem_cons_of_mem _ hz)
    ·exact fun z hz=>hsb z (by first|exact hz|exact List.mem_cons_of_mem _ hz)
    ·simp only[List.length_cons,List.length_nil];omega
   by_cases h2:cmpD y.id x.id < 0
   ·have hm1:mrgS (x::a) (y::b)=(mrgS (x::a) b).map (y:: ·):=by rw[mrgS,if_neg h1,if_pos h2]
    refine wn ?_
    refine pwp_drawQ (by decide+kernel) ?_
    refine pops_cutE [(25,.raw (.bool (false))),(0,.slice ((x::a).map eSto) t),(1,.slice ((y::b).map eSto) u),(6,.slice (out.map eSto) v)] (.tok v out.length 37::LF) ?_ ?_
    ·refine wf ?_
     refine⟨⟨holdsB (by rfl) ?_,rfl,rfl,rfl⟩,.refl _⟩
     first|rfl|(simp_all;done)|grind
    refine wn ?_
    refine pwp_drawQ (by decide+kernel) ?_
    refine pops_cutE [(54,.raw (.bool (true))),(0,.slice ((x::a).map eSto) t),(1,.slice ((y::b).map eSto) u),(6,.slice (out.map eSto) v)] (.tok v out.length 37::LF) ?_ ?_
    ·refine wf ?_
     refine⟨⟨holdsB (by rfl) ?_,rfl,rfl,rfl⟩,.refl _⟩
     first|rfl|(simp_all;done)|grind
    refine wn ?_
    refine pwp_drawA [4,5] (by decide+kernel) ?_
    refine pAny_quiet 0 rfl (by decide+kernel) rfl (fun L'=>q_of_pops (N:=93) rfl rfl (by refine wo ?_;refine pops_nil ?_;exact⟨upd_self _ _ _,rfl⟩)) ?_
    refine pAny_quiet 1 rfl (by decide+kernel) rfl (fun L'=>q_of_pops (N:=93) rfl rfl (by refine wo ?_;refine pops_nil ?_;exact⟨upd_self _ _ _,rfl⟩)) ?_
    refine pAny_quiet 2 rfl (by decide+kernel) rfl (fun L'=>q_of_pops (N:=93) rfl rfl (by refine wo ?_;refine pops_nil ?_;exact⟨upd_self _ _ _,rfl⟩)) ?_
    refine pAny_quiet 3 rfl (by decide+kernel) rfl (fun L'=>q_of_pops (N:=93) rfl rfl (by refine wo ?_;refine pops_nil ?_;exact⟨upd_self _ _ _,rfl⟩)) ?_
    refine pAny_quiet 6 rfl (by decide+kernel) rfl (fun L'=>q_of_pops (N:=93) rfl rfl (by refine wo ?_;refine pops_nil ?_;exact⟨upd_self _ _ _,rfl⟩)) ?_
    refine pAny_quiet 7 rfl (by decide+kernel) rfl (fun L'=>q_of_pops (N:=93) rfl rfl (by refine s_cutL (i:=1) rfl rfl (by simp) ?_;refine pops_nil ?_;exact⟨upd_self _ _ _,rfl⟩)) ?_
    refine pAny_next (fuel:=3) [4] (by decide+kernel) (by simp) fun i hi=>?_
    simp only[List.mem_cons,List.not_mem_nil,or_false]at hi
    subst hi
    refine⟨_,rfl,?_⟩
    refine wo ?_
    refine pops_nil ?_
    refine pAny_next (fuel:=2) [5] (by decide+kernel) (by simp) fun i hi=>?_
    simp only[List.mem_cons,List.not_mem_nil,or_false]at hi
    subst hi
    refine⟨_,rfl,?_⟩
    refine s_append (l:=out) (m:= [y]) rfl rfl (by simp only[List.length_cons,List.length_nil];omega) (by simp only[List.length_cons,List.length_nil];omega) (fun t=> .here) fun v2=>?_
    refine pops_nil ?_
    refine pAny_next (fuel:=1) [8] (by decide+kernel) (by simp) fun i hi=>?_
    simp only[List.mem_cons,List.not_mem_nil,or_false]at hi
    subst hi
    refine⟨_,rfl,?_⟩
    refine wo ?_
    refine pops_nil ?_
    refine pAny_next (fuel:=0) [9] (by decide+kernel) (by simp) fun i hi=>?_
    simp only[List.mem_cons,List.not_mem_nil,or_false]at hi
    subst hi
    refine⟨_,rfl,?_⟩
    refine wo ?_
    refine pops_nil ?_
    refine pAny_end (by decide+kernel) ?_
    refine wf ?_
    refine⟨((x::a,t),(b,.ro),(out++ [y],v2)),⟨?_,?_,?_,?_⟩,?_,⟨rfl,rfl,rfl⟩,.refl _⟩
    all_goals dsimp only
    ·rw[hm,hm1]
     cases mrgS (x::a) b<;>simp
    ·simp only[List.length_append,List.length_cons,List.length_nil]at hlen ⊢;omega
    ·exact fun z hz=>hsa z (by first|exact hz|exact List.mem_cons_of_mem _ hz)
    ·exact fun z hz=>hsb z (by first|exact hz|exact List.mem_cons_of_mem _ hz)
    ·simp only[List.length_cons,List.length_nil];omega
   refine wn ?_
   refine pwp_drawQ (by decide+kernel) ?_
   refine pops_cutE [(25,.raw (.bool (false))),(0,.slice ((x::a).map eSto) t),(1,.slice ((y::b).map eSto) u),(6,.slice (out.map eSto) v)] (.tok v out.length 37::LF) ?_ ?_
   ·refine wf ?_
    refine⟨⟨holdsB (by rfl) ?_,rfl,rfl,rfl⟩,.refl _⟩
    first|rfl|(simp_all;done)|grind
   refine wn ?_
   refine pwp_drawQ (by decide+kernel) ?_
   refine pops_cutE [(54,.raw (.bool (false))),(0,.slice ((x::a).map eSto) t),(1,.slice ((y::b).map eSto) u),(6,.slice (out.map eSto) v)] (.tok v out.length 37::LF) ?_ ?_
   ·refine wf ?_
    refine⟨⟨holdsB (by rfl) ?_,rfl,rfl,rfl⟩,.refl _⟩
    first|rfl|(simp_all;done)|grind
   by_cases h3:y.patch=x.patch
   ·have hm1:mrgS (x::a) (y::b)=(mrgS a b).map (x:: ·):=by rw[mrgS,if_neg h1,if_neg h2,if_pos h3.symm]
    refine wn ?_
    refine pwp_drawQ (by decide+kernel) ?_
    refine pops_cutE [(78,.raw (.bool (false))),(0,.slice ((x::a).map eSto) t),(1,.slice ((y::b).map eSto) u),(6,.slice (out.map eSto) v)] (.tok v out.length 37::LF) ?_ ?_
    ·refine wf ?_
     refine⟨⟨holdsB (by rfl) ?_,rfl,rfl,rfl⟩,.refl _⟩
     first|rfl|(simp_all;done)|grind
    refine wn ?_
    refine pwp_drawA [4,5] (by decide+kernel) ?_
    refine pAny_quiet 0 rfl (by decide+kernel) rfl (fun L'=>q_of_pops (N:=93) rfl rfl (by refine wo ?_;refine pops_nil ?_;exact⟨upd_self _ _ _,rfl⟩)) ?_
    refine pAny_quiet 1 rfl (by decide+kernel) rfl (fun L'=>q_of_pops (N:=93) rfl rfl (by refine wo ?_;refine pops_nil ?_;exact⟨upd_self _ _ _,rfl⟩)) ?_
    refine pAny_quiet 2 rfl (by decide+kernel) rfl (fun L'=>q_of_pops (N:=93) rfl rfl (by refine wo ?_;refine pops_nil ?_;exact⟨upd_self _ _ _,rfl⟩)) ?_
    refine pAny_quiet 3 rfl (by decide+kernel) rfl (fun L'=>q_of_pops (N:=93) rfl rfl (by refine wo ?_;refine pops_nil ?_;exact⟨upd_self _ _ _,rfl⟩)) ?_
    refine pAny_quiet 6 rfl (by decide+kernel) rfl (fun L'=>q_of_pops (N:=93) rfl rfl (by refine wo ?_;refine pops_nil ?_;exact⟨upd_self _ _ _,rfl⟩)) ?_
    refine pAny_quiet 7 rfl (by decide+kernel) rfl (fun L'=>q_of_pops (N:=93) rfl rfl (by refine s_cutL (i:=1) rfl rfl (by simp) ?_;refine pops_nil ?_;exact⟨upd_self _ _ _,rfl⟩)) ?_
    refine pAny_quiet 8 rfl (by decide+kernel) rfl (fun L'=>q_of_pops (N:=93) rfl rfl (by refine wo ?_;refine pops_nil ?_;exact⟨upd_self _ _ _,rfl⟩)) ?_
    refine pAny_quiet 9 rfl (by decide+kernel) rfl (fun L'=>q_of_pops (N:=93) rfl rfl (by refine s_cutL (i:=1) rfl rfl (by simp) ?_;refine pops_nil ?_;exact⟨upd_self _ _ _,rfl⟩)) ?_
    refine pAny_next (fuel:=4) [4] (by decide+kernel) (by simp) fun i hi=>?_
    simp only[List.mem_cons,List.not_mem_nil,or_false]at hi
    subst hi
    refine⟨_,rfl,?_⟩
    refine wo ?_
    refine pops_nil ?_
    refine pAny_next (fuel:=3) [5] (by decide+kernel) (by simp) fun i hi=>?_
    simp only[List.mem_cons,List.not_mem_nil,or_false]at hi
    subst hi
    refine⟨_,rfl,?_⟩
    refine s_append (l:=out) (m:= [x]) rfl rfl (by simp only[List.length_cons,List.length_nil];omega) (by simp only[List.length_cons,List.length_nil];omega) (fun t=> .here) fun v2=>?_
    refine pops_nil ?_
    refine pAny_next (fuel:=2) [10] (by decide+kernel) (by simp) fun i hi=>?_
    simp only[List.mem_cons,List.not_mem_nil,or_false]at hi
    subst hi
    refine⟨_,rfl,?_⟩
    refine wo ?_
    refine pops_nil ?_
    refine pAny_next (fuel:=1) [11] (by decide+kernel) (by simp) fun i hi=>?_
    simp only[List.mem_cons,List.not_mem_nil,or_false]at hi
    subst hi
    refine⟨_,rfl,?_⟩
    refine wo ?_
    refine pops_nil ?_
    refine pAny_next (fuel:=0) [12] (by decide+kernel) (by simp) fun i hi=>?_
    simp only[List.mem_cons,List.not_mem_nil,or_false]at hi
    subst hi
    refine⟨_,rfl,?_⟩
    refine wo ?_
    refine pops_nil ?_
    refine pAny_end (by decide+kernel) ?_
    refine wf ?_
    refine⟨((a,.ro),(b,.ro),(out++ [x],v2)),⟨?_,?_,?_,?_⟩,?_,⟨rfl,rfl,rfl⟩,.refl _⟩
    all_goals dsimp only
    ·rw[hm,hm1]
     cases mrgS a b<;>simp
    ·simp only[List.length_append,List.length_cons,List.length_nil]at hlen ⊢;omega
    ·exact fun z hz=>hsa z (by first|exact hz|exact List.mem_cons_of_mem _ hz)
    ·exact fun z hz=>hsb z (by first|exact hz|exact List.mem_cons_of_mem _ hz)
    ·simp only[List.length_cons,List.length_nil];omega
   ·have hm1:mrgS (x::a) (y::b)=none:=by rw[mrgS,if_neg h1,if_neg h2,if_neg fun h=>h3 h.symm]
    have e:rUnion a0 b0=([],14):=by
     rw[hmu,hm1]at hm
     rw[rUnion,hm];rfl
    rw[show(rUnion a0 b0).1= [] by rw[e],show(rUnion a0 b0).2=14 by rw[e],List.map_nil]
    refine wn ?_
    refine pwp_drawQ (by decide+kernel) ?_
    refine pops_cutE [(78,.raw (.bool (true))),(0,.slice ((x::a).map eSto) t),(1,.slice ((y::b).map eSto) u),(6,.slice (out.map eSto) v)] (.tok v out.length 37::LF) ?_ ?_
    ·refine wf ?_
     refine⟨⟨holdsB (by rfl) ?_,rfl,rfl,rfl⟩,.refl _⟩
     first|rfl|(simp_all;done)|grind
    refine wf ?_
    exact end2 (.tuple2 (.ro _ _) (.refl _))⟩
end Go.Proofs
namespace Go.Proofs
open Go Go.Q
attribute [local irreducible] pwp pops pAny PCalls OpN
set_option maxHeartbeats 2000000 in
theorem union17_fn (a b:List Sto) (t u:Tag) (hl:a.length+b.length≤400):FnC Tryz.prog 26 [.slice (a.map eSto) t,.slice (b.map eSto) u] (.tuple [.slice ((rUnion a b).1.map eSto) .ro,.raw (.int .i64 (rUnion a b).2)]):=⟨by
 refine fn_of Tryz.func26 Tryz.ntmps26 rfl (rs:= [.tmp 4,.tmp 5]) rfl rfl fun hb LF=>?_
 refine wf ?_
 refine s_append0 (by rfl) (by rfl) (by omega) (by omega) fun v=>?_
 refine wf ?_
 refine pwp_loopS (σ:=Nat × List Sto × Tag) (fun k=>k.1≤b.length∧uniG a a b=uniG a k.2.1 (b.drop k.1)∧k.2.1.length≤a.length+k.1) (fun k=>b.length - k.1) (fun k=> [(0,.slice (a.map eSto) t),(1,.slice (b.map eSto) u),(6,.slice (k.2.1.map eSto) k.2.2),(7,.raw (.int .i64 k.1))]) (fun _=>LF) (0,a,v) ⟨by simp,by simp,by simp⟩ ⟨rfl,rfl,rfl,rfl⟩ (.cons _ (.refl _)) ?_
 rintro⟨i,out,w⟩ ⟨hi,he,ho⟩
 dsimp only at hi he ho ⊢
 refine wf ?_
 refine pwp_condD (fun hc=>?_) (fun hc=>?_)
 ·have hlt:i < b.length:=by omega
  rw[List.drop_eq_getElem_cons hlt,uniG]at he
  have c1:=fun t=>Get_ct a b[i].id t
  have i1:Small (out.length≤1000):=⟨by omega⟩
  cases hg:getS a b[i].id with
  |some p=>
   rw[hg]at c1 he
   simp only at he
   refine wz fun b8=>?_
   refine pwp_freezeD 8 ?_
   refine wf ?_
   refine pwp_condN (fun h=>?_) (fun h=>?_)
   ·rw[if_neg (show ¬p=b[i].patch from h)]at he
    have e:rUnion a b=([],14):=by rw[rUnion,he]
    rw[show(rUnion a b).1= [] by rw[e],show(rUnion a b).2=14 by rw[e],List.map_nil]
    refine wf ?_
    exact end2 (.tuple2 (.ro _ _) (.refl _))
   ·have h':p=b[i].patch:=by simpa using h
    rw[if_pos h']at he
    refine wf ?_
    exact⟨(i+1,out,w),⟨by dsimp only;omega,he,by dsimp only;omega⟩,by dsimp only;omega,⟨rfl,rfl,rfl,rfl⟩,.refl _⟩
  |none=>
   rw[hg]at c1 he
   simp only at he
   refine wz fun b8=>?_
   refine pwp_freezeD 8 ?_
   refine wf ?_
   refine⟨(i+1,putS out b[i],.ro),⟨by dsimp only;omega,he,by dsimp only;rw[putS_len];omega⟩,by dsimp only;omega,⟨rfl,rfl,rfl,rfl⟩,.refl _⟩
 ·rw[List.drop_eq_nil_of_le (by omega),uniG]at he
  refine wf ?_
  refine pwp_condD (fun h=>?_) (fun h=>?_)
  ·omega
  ·have e:rUnion a b=(out,0):=by
    rw[rUnion,he];simp only;rw[if_neg (by omega)]
   refine wf ?_
   rw[e]
   exact end2 (.tuple2 (.ro _ _) (.refl _))⟩
theorem fine_len {s:List Sto} (h:rFine s=true):s.length≤8:=by
 unfold rFine rGreatS at h
 simp only[Bool.and_eq_true,Bool.not_eq_true',Bool.or_eq_false_iff,decide_eq_false_iff_not]at h
 omega
end Go.Proofs
namespace Go.Proofs
open Go Go.Q
attribute [local irreducible] pwp pops PCalls OpN
end Go.Proofs
namespace Go.Q
open Go
section
variable {P:Program} {N:Nat} {all:Array Oper} {K:Env→List Res→Prop} {fl:List Bool} {os:List Oper} {ρ:Env} {L:List Res} {d:Nat} {ty:TypeId} {pos:String} {af:Array Edge}
theorem s_ixArr {T n E sz by_:Nat} [hT:TArr P T n E] [hE:TSz P E sz by_] {x y:Operand} {cs r:List PV} {kk:IntKind} (i:Nat) (hx:ρ.ev x= .pt cs 0) (hy:ρ.ev y= .raw (.int kk (i:Int))) (hi:i < n) (hr:(cs.drop (i*sz)).take r.length=r∧i*sz+r.length≤cs.length)
  (k:pops P N all K fl.tail os (upd ρ d (.pt r 0)) L) (hd:Nat.blt d N=true:=by rfl):pops P N all K fl (⟨some d,.indexAddr T x y,ty,pos,af,none⟩::os) ρ L:=
 step_q hd (qop_of_run fun a w g ha hI=>by
  have h1:=ha x (by simp[Op.operands])
  rw[hx]at h1
  have h2:=evRaw ha (x:=y) (by simp[Op.operands]) hy
  generalize hv:a.eval x=v at h1
  obtain⟨e1,e2⟩:=hr
  have h3:(0:Int)≤(i:Int)∧(i:Int) < (n:Int):=by omega
  cases h1 with
  |pt ff hH hv'=>
   rename_i b o
   refine⟨.pointer (some ⟨b,o+i*sz+0,none⟩),?_,.pt (fun j=>ff (i*sz+j)) (fun j hj=>?_) (fun j hj=>?_)⟩
   ·simp[execOp,Instr.indexAt,hv,h2,asIntOf,run_und hT.out,Instr.sureAddr,h3,TSz.run hE,add_plain];intro h4;omega
   ·rw[Nat.add_assoc];exact hH (i*sz+j) (by omega)
   ·have e:r[j]=cs[i*sz+j]'(by omega):=by
     have:=List.getElem_of_eq e1.symm hj
     rw[this,List.getElem_take,List.getElem_drop]
    rw[e];exact hv' (i*sz+j) (by omega)) k
end
end Go.Q
namespace Go.Proofs
open Go Go.Q
attribute [local irreducible] pwp pops pAny PCalls OpN
end Go.Proofs
namespace Go.Q
open Go
def kStr (s:Str):PV:= .str s
theorem str_inv {g:Gh} {v:Value} {s:Str} (h:VR g v (.str s)):v= .string ⟨s.toArray⟩:=by cases h;rfl
theorem str_beq (a b:Str):((⟨a.toArray⟩:ByteArray)==⟨b.toArray⟩)=decide (a=b):=by
 show(a.toArray==b.toArray)=decide (a=b)
 rw[Bool.eq_iff_iff,beq_iff_eq,decide_eq_true_eq]
 simp
theorem find_str {k:Str}: ∀ (es:List MapEntry) (l:List Str) (n:Nat),es.length=l.length→(∀ i (h:i < es.length) (h':i < l.length),es[i].key= .string ⟨l[i].toArray⟩)→
  Instr.findNow .string (.string ⟨k.toArray⟩) es n=some ((kIdx k l).bind fun i=>(es[i]?).map fun e=>(n+i,e.val))
 | [],[],n,_,_=>by simp[Instr.findNow,kIdx]
 | [],_::_,_,h,_=>by simp at h
 |_::_,[],_,h,_=>by simp at h
 |e::es,a::l,n,h,hk=>by
  have h0:=hk 0 (by simp) (by simp)
  simp only[List.getElem_cons_zero]at h0
  unfold Instr.findNow
  by_cases e1:k=a
  ·subst e1
   simp[h0,Instr.sameNow,kIdx,str_beq]
  ·have d1:((⟨k.toArray⟩:ByteArray)==⟨a.toArray⟩)=false:=by rw[str_beq];simp[e1]
   simp only[h0,Instr.sameNow,d1]
   rw[find_str es l (n+1) (by simpa using h) (fun i h1 h2=>by have:=hk (i+1) (by simpa using h1) (by simpa using h2);simpa using this)]
   simp only[kIdx,e1,if_false]
   rw[find_shift]
   congr 1
   cases kIdx k l with
   |none=>rfl
   |some j=>simp only[Option.bind_some];congr 1;funext e;rw[Nat.add_assoc,Nat.add_comm 1]
theorem keyOk_str {P:Program} {K:Nat} [hT:TStr P K]:KeyOk P K kStr where
 check:=fun b g v k w hv=>by
  rw[str_inv hv,show(10000:Nat)=9999+1 from rfl,Instr.checkKey]
  simp[run_und hT.out]
 find:=fun g v k es l w hv hl hk=>by
  rw[str_inv hv,MapKept.run_findKey (d:= .string) (by have:=hT.out;exact this) (find_str es l 0 hl (fun i h h'=>str_inv (hk i h h')))]
  simp
 same:=fun g u v k hu hv=>by
  rw[str_inv hu,str_inv hv];simp[Instr.sameBits,str_beq]
instance {P:Program} {K:Nat} [TStr P K]:TKey P K kStr:=⟨keyOk_str⟩
section
variable {P:Program} {N:Nat} {all:Array Oper} {K:Env→List Res→Prop} {fl:List Bool} {os:List Oper} {ρ:Env} {L:List Res} {d:Nat} {ty:TypeId} {pos:String} {af:Array Edge}
theorem s_eqNilK {T T' E:Nat} [hT:TSl P T E] {x:Operand} {o:Option Addr} {n c:Nat} (hx:ρ.ev x= .raw (.slice o n c)) (k:pops P N all K fl.tail os (upd ρ d (.raw (.bool o.isNone))) L) (hd:Nat.blt d N=true:=by rfl) (hfl:fl.headD true=true:=by rfl):
  pops P N all K fl (⟨some d,.binOp .eql T x (.const (.slice none 0 0)) T',ty,pos,af,none⟩::os) ρ L:=
 pops_n rfl (dlt hd) hfl (fun a w g ha hi=>by
  have e:=evRaw ha (x:=x) (by simp[Op.operands]) hx
  have hrun:(execOp a.eval ⟨some d,.binOp .eql T x (.const (.slice none 0 0)) T',ty,pos,af,none⟩).run P w= .ok (.value (.bool o.isNone)) w:=by
   have h: ∀ d:Nat,(Op.equalIn (d+1) T (.slice o n c) (.slice none 0 0)).run P w= .ok o.isNone w:=fun d=>by
    cases o<;>simp[Op.equalIn,run_underlying hT.out]
   have hc:a.eval (.const (.slice none 0 0))= .slice none 0 0:=rfl
   simp only[execOp,e,hc]
   simp[eqGuard,binOp,Op.equal,Op.maxDepth,h 9999]
  refine Oper.wq_of_run hrun ?_
  exact⟨_,.raw (.bool o.isNone),g,L,rfl,.raw _,hi,.refl _ _ _,.refl _ _,k⟩)
end
end Go.Q
namespace Go.Proofs
open Go Go.Q
theorem Picked.keepL {a b u:List Sto} {l L:List Dig} (va:Valid a) (h:Picked a b l L u):keepS u L=keepS a L:=by
 refine asc_ext (List.Pairwise.sublist (ids_keep_sub u _) h.isU.asc) (List.Pairwise.sublist (ids_keep_sub a _) va.asc) fun x=>?_
 rw[mem_keepS,h.isU.mem]
 constructor
 ·rintro⟨hx|hx,hi⟩
  ·obtain⟨y,hy,e⟩:=List.mem_map.1 (h.closed.sub _ hi)
   have hk:y∈keepS a L:=mem_keepS.2 ⟨hy,e ▸ hi⟩
   rw[h.coh x hx y hk e.symm];exact hk
  ·exact hx
 ·exact fun hx=>⟨.inr hx,(mem_keepS.1 hx).2⟩
theorem Picked.added {a b u:List Sto} {l L:List Dig} (va:Valid a) (vb:Valid b) (h:Picked a b l L u) {d:Dig} (hd:d∈rMissing (keepS a L) b):(getS u d).isSome=true∧(getS b d).isSome=false∧d∈L:=by
 obtain⟨h1,h2⟩:=(mem_missing (h.closed.keep va)).1 hd
 refine⟨?_,?_,(mem_ids_keep.1 h1).2⟩
 ·rw[getS_isSome h.isU.asc,decide_eq_true_eq];exact h.isU.sub.2 (.inr h1)
 ·rw[getS_isSome vb.asc,decide_eq_false_iff_not];exact h2
theorem Picked.later {a b u:List Sto} {l L:List Dig} (va:Valid a) (h:Picked a b l L u) {i k:Nat} (hik:i < k) (hk:k < (rMissing (keepS a L) b).length):(rMissing (keepS a L) b)[k]∉rNeeds ((getS u ((rMissing (keepS a L) b)[i]'(by omega))).getD Pat.zero):=by
 have vk:=h.closed.keep va
 have hp:=List.pairwise_iff_getElem.1 (missing_pw (b:=b) vk.asc) i k (by omega) hk hik
 have hi:=((mem_missing vk).1 (List.getElem_mem (by omega:i < (rMissing (keepS a L) b).length))).1
 rw[ndS,←h.isU.symm.getL vk.asc hi]at hp
 exact hp
theorem nodup_take {l:List Dig} (h:l.Nodup) {i:Nat} (hi:i < l.length):l[i]∉l.take i:=fun hm=>by
 obtain⟨k,hk,e⟩:=List.mem_take_iff_getElem.1 hm
 have:=(List.getElem_inj h).1 e
 omega
end Go.Proofs
namespace Go.Q
open Go
theorem PCalls.frozen {P:Program} {f:FuncId} {args:List PV} {E sz:Nat} {xs:List (List PV)} (hm:xs.length≤maxN∧xs.length*sz≤maxN) (h:PCalls P f args [] (fun r L'=> ∃ v,r= .raw v∧RowB E sz v xs L')):Fn P f args (.slice xs .ro):=by
 intro vs w g LF hv hi
 refine(h vs w g LF hv hi).mono ?_
 rintro e w' ⟨v,x,g',L',h1,h2,h3,h4,h5,v0,rfl,hrow⟩
 obtain⟨g2,k1,k2,k3,k4⟩:=RowB.freeze h3 hrow hm
 refine⟨v,_,g2,[],h1,?_,k1,h4.trans h5 k2,h5.trans h4.size k3,rfl,rfl⟩
 rw[h2.raw_inv];exact k4
end Go.Q
namespace Go.Proofs
open Go Go.Q
attribute [local irreducible] pwp pops pAny PCalls OpN
theorem hml_ {α:Type} (f:α→List PV) (sz:Nat) (hsz:sz≤1000) (m:List α) (h:m.length≤1000000):(m.map f).length≤maxN∧(m.map f).length*sz≤maxN:=by
 have h1:maxN=140737488355328:=rfl
 rw[List.length_map]
 have:=Nat.mul_le_mul h hsz
 omega
instance pickHas_ct (s:List Sto) (t:Tag) (d:Dig):FnC Tryz.prog 80 [.slice (s.map eSto) t,.agg (eDig d)] (.raw (.bool (getS s d).isSome)):=⟨by
 refine fn_of Tryz.func80 Tryz.ntmps80 rfl (rs:= [.tmp 4]) rfl rfl fun hb LF=>?_
 refine wz fun b5=>?_
 refine pwp_freezeD 5 ?_
 refine wf ?_
 exact end1 (.refl _)⟩
instance missing1_ct (s:List Sto) (t:Tag) (d:Dig):FnC Tryz.prog 79 [.agg (eDig d),.pt [.slice (s.map eSto) t] 0] (.raw (.bool (getS s d).isSome)):=⟨by
 refine fn_of Tryz.func79 Tryz.ntmps79 rfl (rs:= [.tmp 3]) rfl rfl fun hb LF=>?_
 refine wf ?_
 exact end1 (.refl _)⟩
instance pick1_ct (m:List Dig) (u:Tag) (d:Dig):FnC Tryz.prog 76 [.agg (eDig d),.pt [.slice (m.map eDig) u] 0] (.raw (.bool (!decide (d∈m)))):=⟨by
 refine fn_of Tryz.func76 Tryz.ntmps76 rfl (rs:= [.tmp 3]) rfl rfl fun hb LF=>?_
 refine wf ?_
 exact end1 (.refl _)⟩
instance common1_ct (s:List Sto) (t:Tag) (x:Sto):FnC Tryz.prog 85 [.agg (eSto x),.pt [.slice (s.map eSto) t] 0] (.raw (.bool (!(getS s x.id).isSome))):=⟨by
 refine fn_of Tryz.func85 Tryz.ntmps85 rfl (rs:= [.tmp 3]) rfl rfl fun hb LF=>?_
 refine wf ?_
 exact end1 (.refl _)⟩
theorem missing_fn (a b:List Sto) (t u:Tag) (va:Valid a) (hb:Asc (ids b)):PCalls Tryz.prog 38 [.slice (a.map eSto) t,.slice (b.map eSto) u] [] (fun r L'=> ∃ v,r= .raw v∧RowB 29 32 v ((rMissing a b).map eDig) L'):=by
 refine pcalls_bd Tryz.func38 rfl Tryz.ntmps38 (rs:= [.tmp 4]) rfl rfl fun hbd LF=>?_
 rw[List.nil_append]
 have h40:=va.close.1.1
 have hol:(rOrder a).length=a.length:=va.ranked.order
 have ef:((rOrder a).filter fun d=>!(getS b d).isSome)=rMissing a b:=by
  refine List.filter_congr fun d _=>?_
  rw[getS_isSome hb];by_cases h:d∈ids b<;>simp[h]
 refine wf ?_
 refine s_callR (xs:= [.tmp 5]) [] LF (f:=15) (cs:= []) (le_func _) rfl rfl (.refl _) _ (orderD_fn a t va.close.1 va.asc) fun r R1 ⟨v1,e1,hv1⟩=>?_
 subst e1
 refine wf ?_
 refine s_callR (xs:= [.tmp 6,.tmp 7]) R1 LF (f:=20) (cs:= []) (le_func _) rfl rfl (.refl _) _ (deleteD_fn 79 [.pt [.slice (b.map eSto) .ro] 0] (fun d=>(getS b d).isSome) (rOrder a) v1 R1 hv1 (by omega)) fun r R2 ⟨v2,e2,hv2⟩=>?_
 subst e2
 refine wf ?_
 exact⟨trivial,_,_,.cons (.tmp 4) .nil,.refl _,v2,rfl,by rw[←ef];exact hv2⟩
theorem missingF_fn (a b:List Sto) (t u:Tag) (va:Valid a) (hb:Asc (ids b)):FnC Tryz.prog 38 [.slice (a.map eSto) t,.slice (b.map eSto) u] (.slice ((rMissing a b).map eDig) .ro):=⟨PCalls.frozen (hml_ eDig 32 (by decide) _ (by
 have h1:=va.close.1.1
 have h2:(rOrder a).length=a.length:=va.ranked.order
 have h3:(rMissing a b).length≤(rOrder a).length:=List.length_filter_le _ _
 omega)) (missing_fn a b t u va hb)⟩
set_option maxHeartbeats 2000000 in
theorem pickP_fn (a b:List Sto) (t u:Tag) (l:List Dig) (y:Tag) (va:Valid a) (vb:Valid b) (hl:l.length≤400) (hab:a.length+b.length≤40):FnC Tryz.prog 36 [.slice (a.map eSto) t,.slice (b.map eSto) u,.slice (l.map eDig) y] (.tuple [.slice ((rTake a b l).1.map eSto) .ro,.slice ((rTake a b l).2.1.map eDig) .ro,.raw (.int .i64 (rTake a b l).2.2)]):=⟨by
 refine fn_of Tryz.func36 Tryz.ntmps36 rfl (rs:= [.tmp 6,.tmp 7,.tmp 8]) rfl rfl fun hbd LF=>?_
 have i1:Small (Valid a):=⟨va⟩
 have i2:Small (l.length≤400):=⟨hl⟩
 have i3:Small (a.length≤1000000):=⟨by omega⟩
 have k1:=fun t u=>ClosureP_ct a l t u
 by_cases hA:allIn (ids a) l=true
 ·obtain⟨L,eL,hL⟩:=va.closed (allIn_iff.1 hA)
  rw[eL]at k1
  dsimp only at k1
  have vk:=hL.keep va
  have hkl:(keepS a L).length≤a.length:=List.length_filter_le _ _
  have un:=fun t u=>unionP_fn b (keepS a L) t u vb vk (by omega)
  have k2:=fun t u=>KeepP_ct a L t u
  have hol:(rOrder a).length=a.length:=va.ranked.order
  have hml:(rMissing a b).length≤(rOrder a).length:=List.length_filter_le _ _
  refine wz fun b9=>?_
  refine pwp_freezeD 9 ?_
  by_cases hc:Coh b (keepS a L)
  ·obtain⟨w,e1,i⟩:=rUnion_ok vb.asc vk.asc (by omega) hc
   rw[e1]at un
   dsimp only at un
   have et:=take_ok eL e1
   rw[show(rTake a b l).1=w by rw[et],show(rTake a b l).2.1=rMissing (keepS a L) b by rw[et],show(rTake a b l).2.2=0 by rw[et],missing_keep va (hL.needs va)]
   refine wf ?_
   refine s_callR (xs:= [.tmp 32,.tmp 33]) [] LF (f:=38) (cs:= []) (le_func _) rfl rfl (.refl _) _ (missing_fn a b t u va vb.asc) fun r R1 ⟨v1,e2,hv1⟩=>?_
   subst e2
   refine wf ?_
   refine s_callR (xs:= [.tmp 34,.tmp 35]) R1 LF (f:=20) (cs:= []) (le_func _) rfl rfl (.refl _) _ (deleteD_fn 76 [.pt [.slice (L.map eDig) .ro] 0] (fun d=>!decide (d∈L)) (rMissing a b) v1 R1 hv1 (by omega)) fun r R2 ⟨v2,e3,hv2⟩=>?_
   subst e3
   have ef:((rMissing a b).filter fun d=>!!decide (d∈L))=(rMissing a b).filter fun d=>decide (d∈L):=List.filter_congr fun d _=>by rw[Bool.not_not]
   rw[ef]at hv2
   refine wo ?_
   refine pops_nil ?_
   refine pwp_freezeB 12 hv2 (hml_ eDig 32 (by decide) _ (Nat.le_trans (List.length_filter_le _ _) (by omega))) (.refl _) rfl ?_
   refine wf ?_
   exact end3 (.tuple3 (.ro _ _) (.ro _ _) (.refl _))
  ·rw[rUnion_bad vb.asc hc]at un
   dsimp only at un
   have et:=take_bad eL vb.asc hc
   rw[show(rTake a b l).1= [] by rw[et],show(rTake a b l).2.1= [] by rw[et],show(rTake a b l).2.2=14 by rw[et],List.map_nil,List.map_nil]
   refine wf ?_
   exact end3 (.tuple3 (.ro _ _) (.ro _ _) (.refl _))
 ·rw[closure_bad hA]at k1
  dsimp only at k1
  have et:=take_out (b:=b) hA
  rw[show(rTake a b l).1= [] by rw[et],show(rTake a b l).2.1= [] by rw[et],show(rTake a b l).2.2=7 by rw[et],List.map_nil,List.map_nil]
  refine wz fun b9=>?_
  refine pwp_freezeD 9 ?_
  refine wf ?_
  exact end3 (.tuple3 (.ro _ _) (.ro _ _) (.refl _))⟩
theorem commonP_fn (a b:List Sto) (t u:Tag) (hb:Asc (ids b)) (hl:a.length≤1000):FnC Tryz.prog 40 [.slice (a.map eSto) t,.slice (b.map eSto) u] (.slice ((keepS a (ids b)).map eSto) .ro):=⟨by
 refine fn_of Tryz.func40 Tryz.ntmps40 rfl (rs:= [.tmp 4]) rfl rfl fun hbd LF=>?_
 have ef:(a.filter fun x=>!!(getS b x.id).isSome)=keepS a (ids b):=by
  refine List.filter_congr fun x _=>?_
  rw[Bool.not_not,getS_isSome hb]
 refine wf ?_
 refine s_callR (xs:= [.tmp 5]) [] LF (f:=84) (cs:= []) (le_func _) rfl rfl (.refl _) _ (cloneS_fn a t (by omega)) fun r R1 ⟨v1,e1,hv1⟩=>?_
 subst e1
 refine wf ?_
 refine s_callR (xs:= [.tmp 6,.tmp 7]) R1 LF (f:=83) (cs:= []) (le_func _) rfl rfl (.refl _) _ (deleteS_fn 85 [.pt [.slice (b.map eSto) .ro] 0] (fun x=>!(getS b x.id).isSome) a v1 R1 hv1 (by omega)) fun r R2 ⟨v2,e2,hv2⟩=>?_
 subst e2
 rw[ef]at hv2
 refine wo ?_
 refine pops_nil ?_
 refine pwp_freezeB 4 hv2 (hml_ eSto 37 (by decide) _ (Nat.le_trans (List.length_filter_le _ _) (by omega))) (.refl _) rfl ?_
 refine wf ?_
 exact end1 (.refl _)⟩
end Go.Proofs
namespace Go.Q
open Go
section
variable {P:Program} {N:Nat} {all:Array Oper} {K:Env→List Res→Prop} {fl:List Bool} {os:List Oper} {ρ:Env} {L:List Res} {d:Nat} {ty:TypeId} {pos:String} {af:Array Edge}
theorem s_indexK {T:TypeId} [hT:TStr P T] {x y:Operand} {A:ByteArray} {kk:IntKind} {n:Nat} {b:UInt8} (hx:ρ.ev x= .raw (.string A)) (hy:ρ.ev y= .raw (.int kk (n:Int))) (hb:A.data.toList[n]? =some b) (k:pops P N all K fl.tail os (upd ρ d (.raw (.int .u8 (b.toNat:Int)))) L) (hd:Nat.blt d N=true:=by rfl):
  pops P N all K fl (⟨some d,.index T x y,ty,pos,af,none⟩::os) ρ L:=
 have hn:n < A.size:=by
  have:=(List.getElem?_eq_some_iff.1 hb).1
  simpa using this
 step_q hd (qop_of_run fun a w g ha hi=>⟨_,by
  have h1:=evRaw ha (x:=x) (by simp[Op.operands]) hx
  have h2:=evRaw ha (x:=y) (by simp[Op.operands]) hy
  show(do pure (Next.value (←Instr.index T (a.eval x) (a.eval y))):Sem Next).run P w=_
  rw[h1,h2,Sem.run_bind,run_index_string (h:=hT.out),dif_pos ⟨by omega,by simpa using hn⟩]
  rfl,by
  have e:A[(n:Int).toNat]'(by simpa using hn)=b:=by
   simp only[Int.toNat_natCast]
   show A.data[n]'hn=b
   have:=(List.getElem?_eq_some_iff.1 hb).2
   simpa using this
  rw[e];exact .raw _⟩) k
theorem pwp_condCF {Q:PPost} {x y:Code} (h:pwp P N y Q ρ L):pwp P N (.cond (.const (.bool false)) x y) Q ρ L:=fun ro base a w g hs=>wpIn_cond_false rfl (h ro base a w g hs)
end
end Go.Q
namespace Go.Proofs
open Go Go.Q
attribute [local irreducible] pwp pops pAny PCalls OpN
def lenB:Nat→Int
 |0=>0|1=>1|2=>2|3=>2|4=>3|5=>3|6=>3|7=>3|_=>4
set_option maxHeartbeats 2000000 in
theorem len64_fn (n:Nat) (h:n≤12):FnC Tryz.prog 142 [.raw (.int .u64 n)] (.raw (.int .i64 (lenB n))):=⟨by
 match n,h with
 |0,_=>
  refine fn_of Tryz.func142 Tryz.ntmps142 rfl (rs:= [.tmp 2]) rfl rfl fun hb LF=>?_
  refine wf ?_
  refine s_indexK (n:=0) (b:=0) rfl rfl (by decide+kernel) ?_
  refine wo ?_
  refine s_convI (k₀:= .u8) (n:=(0:Int)) rfl rfl ?_
  refine wf ?_
  refine end1 (.of_eq ?_)
  rfl
 |1,_=>
  refine fn_of Tryz.func142 Tryz.ntmps142 rfl (rs:= [.tmp 2]) rfl rfl fun hb LF=>?_
  refine wf ?_
  refine s_indexK (n:=1) (b:=1) rfl rfl (by decide+kernel) ?_
  refine wo ?_
  refine s_convI (k₀:= .u8) (n:=(1:Int)) rfl rfl ?_
  refine wf ?_
  refine end1 (.of_eq ?_)
  rfl
 |2,_=>
  refine fn_of Tryz.func142 Tryz.ntmps142 rfl (rs:= [.tmp 2]) rfl rfl fun hb LF=>?_
  refine wf ?_
  refine s_indexK (n:=2) (b:=2) rfl rfl (by decide+kernel) ?_
  refine wo ?_
  refine s_convI (k₀:= .u8) (n:=(2:Int)) rfl rfl ?_
  refine wf ?_
  refine end1 (.of_eq ?_)
  rfl
 |3,_=>
  refine fn_of Tryz.func142 Tryz.ntmps142 rfl (rs:= [.tmp 2]) rfl rfl fun hb LF=>?_
  refine wf ?_
  refine s_indexK (n:=3) (b:=2) rfl rfl (by decide+kernel) ?_
  refine wo ?_
  refine s_convI (k₀:= .u8) (n:=(2:Int)) rfl rfl ?_
  refine wf ?_
  refine end1 (.of_eq ?_)
  rfl
 |4,_=>
  refine fn_of Tryz.func142 Tryz.ntmps142 rfl (rs:= [.tmp 2]) rfl rfl fun hb LF=>?_
  refine wf ?_
  refine s_indexK (n:=4) (b:=3) rfl rfl (by decide+kernel) ?_
  refine wo ?_
  refine s_convI (k₀:= .u8) (n:=(3:Int)) rfl rfl ?_
  refine wf ?_
  refine end1 (.of_eq ?_)
  rfl
 |5,_=>
  refine fn_of Tryz.func142 Tryz.ntmps142 rfl (rs:= [.tmp 2]) rfl rfl fun hb LF=>?_
  refine wf ?_
  refine s_indexK (n:=5) (b:=3) rfl rfl (by decide+kernel) ?_
  refine wo ?_
  refine s_convI (k₀:= .u8) (n:=(3:Int)) rfl rfl ?_
  refine wf ?_
  refine end1 (.of_eq ?_)
  rfl
 |6,_=>
  refine fn_of Tryz.func142 Tryz.ntmps142 rfl (rs:= [.tmp 2]) rfl rfl fun hb LF=>?_
  refine wf ?_
  refine s_indexK (n:=6) (b:=3) rfl rfl (by decide+kernel) ?_
  refine wo ?_
  refine s_convI (k₀:= .u8) (n:=(3:Int)) rfl rfl ?_
  refine wf ?_
  refine end1 (.of_eq ?_)
  rfl
 |7,_=>
  refine fn_of Tryz.func142 Tryz.ntmps142 rfl (rs:= [.tmp 2]) rfl rfl fun hb LF=>?_
  refine wf ?_
  refine s_indexK (n:=7) (b:=3) rfl rfl (by decide+kernel) ?_
  refine wo ?_
  refine s_convI (k₀:= .u8) (n:=(3:Int)) rfl rfl ?_
  refine wf ?_
  refine end1 (.of_eq ?_)
  rfl
 |8,_=>
  refine fn_of Tryz.func142 Tryz.ntmps142 rfl (rs:= [.tmp 2]) rfl rfl fun hb LF=>?_
  refine wf ?_
  refine s_indexK (n:=8) (b:=4) rfl rfl (by decide+kernel) ?_
  refine wo ?_
  refine s_convI (k₀:= .u8) (n:=(4:Int)) rfl rfl ?_
  refine wf ?_
  refine end1 (.of_eq ?_)
  rfl
 |9,_=>
  refine fn_of Tryz.func142 Tryz.ntmps142 rfl (rs:= [.tmp 2]) rfl rfl fun hb LF=>?_
  refine wf ?_
  refine s_indexK (n:=9) (b:=4) rfl rfl (by decide+kernel) ?_
  refine wo ?_
  refine s_convI (k₀:= .u8) (n:=(4:Int)) rfl rfl ?_
  refine wf ?_
  refine end1 (.of_eq ?_)
  rfl
 |10,_=>
  refine fn_of Tryz.func142 Tryz.ntmps142 rfl (rs:= [.tmp 2]) rfl rfl fun hb LF=>?_
  refine wf ?_
  refine s_indexK (n:=10) (b:=4) rfl rfl (by decide+kernel) ?_
  refine wo ?_
  refine s_convI (k₀:= .u8) (n:=(4:Int)) rfl rfl ?_
  refine wf ?_
  refine end1 (.of_eq ?_)
  rfl
 |11,_=>
  refine fn_of Tryz.func142 Tryz.ntmps142 rfl (rs:= [.tmp 2]) rfl rfl fun hb LF=>?_
  refine wf ?_
  refine s_indexK (n:=11) (b:=4) rfl rfl (by decide+kernel) ?_
  refine wo ?_
  refine s_convI (k₀:= .u8) (n:=(4:Int)) rfl rfl ?_
  refine wf ?_
  refine end1 (.of_eq ?_)
  rfl
 |12,_=>
  refine fn_of Tryz.func142 Tryz.ntmps142 rfl (rs:= [.tmp 2]) rfl rfl fun hb LF=>?_
  refine wf ?_
  refine s_indexK (n:=12) (b:=4) rfl rfl (by decide+kernel) ?_
  refine wo ?_
  refine s_convI (k₀:= .u8) (n:=(4:Int)) rfl rfl ?_
  refine wf ?_
  refine end1 (.of_eq ?_)
  rfl
 |n+13,h=>omega⟩
theorem len_fn (n:Nat) (h:n≤12):FnC Tryz.prog 108 [.raw (.int .u64 n)] (.raw (.int .i64 (lenB n))):=⟨by
 refine fn_of Tryz.func108 Tryz.ntmps108 rfl (rs:= [.tmp 2]) rfl rfl fun hb LF=>?_
 have c1:=len64_fn n h
 refine wf ?_
 refine pwp_condCF ?_
 refine wf ?_
 exact end1 (.refl _)⟩
end Go.Proofs
namespace Go.Proofs
open Go Go.Q
attribute [local irreducible] pwp pops pAny PCalls OpN
def eSlc (x:List Dig × Tag):List PV:= [.slice (x.1.map eDig) x.2]
instance :Len eSlc 1:=⟨fun _=>rfl⟩
set_option maxHeartbeats 2000000 in
theorem sortFD_ins (F:Nat) (cs:List PV) (c:Dig→Dig→Int) [hF:TFun Tryz.prog F] (l:List (Dig)) (t:Tag) (hp: ∀ i j (hi:i < l.length) (hj:j < l.length),FnC Tryz.prog F (.agg (eDig l[i]):: .agg (eDig l[j])::cs) (.raw (.int .i64 (c l[i] l[j])))) (hs: ∀ i (h:i+1 < l.length),0≤c l[i+1] l[i]):
  PCalls Tryz.prog 133 [.slice (l.map eDig) t,.raw (.int .i64 0),.raw (.int .i64 (l.length:Int)),.clo F cs] [] (fun r L'=>L'= []):=by
 refine pcalls_bd Tryz.func133 rfl Tryz.ntmps133 (rs:= []) rfl rfl fun hb LF=>?_
 have hlen:l.length≤140737488355328:=(hb (.slice (l.map eDig) t) (by simp)).slice_map
 rw[List.nil_append]
 refine wf ?_
 refine pwp_loopS (σ:=Nat) (fun k=>1≤k∧k≤l.length+1) (fun k=>l.length+1 - k) (fun k=> [(0,.slice (l.map eDig) t),(1,.raw (.int .i64 0)),(2,.raw (.int .i64 l.length)),(3,.clo F cs),(8,.raw (.int .i64 k))]) (fun _=>LF) 1 ⟨by omega,by omega⟩ ⟨rfl,rfl,rfl,rfl,rfl⟩ (.refl _) ?_
 rintro k ⟨hk1,hk⟩
 refine wf ?_
 refine pwp_condD (fun hc=>?_) (fun hc=>?_)
 ·have hlt:k < l.length:=by omega
  have c1:=hp k ((k:Int) - 1).toNat hlt (by omega)
  have hsk:0≤c l[k] (l[((k:Int) - 1).toNat]'(by omega)):=by
   have h:=hs (k - 1) (by omega)
   have e1:l[k - 1+1]'(by omega)=l[k]:=by congr 1;omega
   have e2:l[((k:Int) - 1).toNat]'(by omega)=l[k - 1]'(by omega):=by congr 1;omega
   rw[e2,←e1];exact h
  generalize c l[k] (l[((k:Int) - 1).toNat]'(by omega))=cc at c1 hsk
  have g1:decide (0 < (k:Int))=true:=decide_eq_true (by omega)
  refine wf ?_
  refine pwp_loopS (σ:=Unit) (fun _=>True) (fun _=>0) (fun _=> [(0,.slice (l.map eDig) t),(1,.raw (.int .i64 0)),(2,.raw (.int .i64 l.length)),(3,.clo F cs),(8,.raw (.int .i64 k)),(9,.raw (.int .i64 k))]) (fun _=>LF) () trivial ⟨rfl,rfl,rfl,rfl,rfl,rfl⟩ (.refl _) ?_
  rintro _ _
  refine wf ?_
  refine pwp_condD (fun h=>?_) (fun _=>?_)
  ·omega
  refine wf ?_
  exact⟨k+1,⟨by omega,by omega⟩,by dsimp only;omega,⟨rfl,rfl,rfl,rfl,rfl⟩,.refl _⟩
 ·refine wf ?_
  exact⟨trivial,_,[],.nil,.refl _,rfl⟩
theorem sortFD_pdq (F:Nat) (cs:List PV) (c:Dig→Dig→Int) [hF:TFun Tryz.prog F] (l:List (Dig)) (t:Tag) (n:Int) (hl:l.length≤12) (hp: ∀ i j (hi:i < l.length) (hj:j < l.length),FnC Tryz.prog F (.agg (eDig l[i]):: .agg (eDig l[j])::cs) (.raw (.int .i64 (c l[i] l[j])))) (hs: ∀ i (h:i+1 < l.length),0≤c l[i+1] l[i]):
  PCalls Tryz.prog 107 [.slice (l.map eDig) t,.raw (.int .i64 0),.raw (.int .i64 (l.length:Int)),.raw (.int .i64 n),.clo F cs] [] (fun r L'=>L'= []):=by
 refine pcalls_bd Tryz.func107 rfl Tryz.ntmps107 (rs:= []) rfl rfl fun hb LF=>?_
 rw[List.nil_append]
 refine wf ?_
 refine pwp_loopS (σ:=Unit) (fun _=>True) (fun _=>0) (fun _=> [(0,.slice (l.map eDig) t),(1,.raw (.int .i64 0)),(2,.raw (.int .i64 l.length)),(4,.clo F cs)]) (fun _=>LF) () trivial ⟨rfl,rfl,rfl,rfl⟩ (.refl _) ?_
 rintro _ _
 refine wf ?_
 refine pwp_condD (fun h=>?_) (fun h=>?_)
 ·refine wf ?_
  refine s_callR (xs:= [.tmp 26,.tmp 27,.tmp 28,.tmp 29]) [] LF (f:=133) (cs:= []) (le_func _) rfl rfl (.refl _) _ (sortFD_ins F cs c l t hp hs) fun r L' e=>?_
  subst e
  refine wf ?_
  exact⟨trivial,_,[],.nil,.refl _,rfl⟩
 ·omega
theorem sortFD_fn (F:Nat) (cs:List PV) (c:Dig→Dig→Int) [hF:TFun Tryz.prog F] (l:List (Dig)) (t:Tag) (hl:l.length≤12) (hp: ∀ i j (hi:i < l.length) (hj:j < l.length),FnC Tryz.prog F (.agg (eDig l[i]):: .agg (eDig l[j])::cs) (.raw (.int .i64 (c l[i] l[j])))) (hs: ∀ i (h:i+1 < l.length),0≤c l[i+1] l[i]):
  PCalls Tryz.prog 59 [.slice (l.map eDig) t,.clo F cs] [] (fun r L'=>L'= []):=by
 refine pcalls_bd Tryz.func59 rfl Tryz.ntmps59 (rs:= []) rfl rfl fun hb LF=>?_
 rw[List.nil_append]
 have c1:=len_fn l.length hl
 refine wf ?_
 refine wf ?_
 refine s_callR (xs:= [.tmp 7,.const (.int .i64 0),.tmp 8,.tmp 11,.tmp 12]) [] LF (f:=107) (cs:= []) (le_func _) rfl rfl (.refl _) _ (sortFD_pdq F cs c l t _ hl hp hs) fun r L' e=>?_
 subst e
 refine wf ?_
 exact⟨trivial,_,[],.nil,.refl _,rfl⟩
set_option maxHeartbeats 2000000 in
theorem sortFL_ins (F:Nat) (cs:List PV) (c:List Dig × Tag→List Dig × Tag→Int) [hF:TFun Tryz.prog F] (l:List (List Dig × Tag)) (t:Tag) (hp: ∀ i j (hi:i < l.length) (hj:j < l.length),FnC Tryz.prog F (.slice (l[i].1.map eDig) l[i].2:: .slice (l[j].1.map eDig) l[j].2::cs) (.raw (.int .i64 (c l[i] l[j])))) (hs: ∀ i (h:i+1 < l.length),0≤c l[i+1] l[i]):
  PCalls Tryz.prog 155 [.slice (l.map eSlc) t,.raw (.int .i64 0),.raw (.int .i64 (l.length:Int)),.clo F cs] [] (fun r L'=>L'= []):=by
 refine pcalls_bd Tryz.func155 rfl Tryz.ntmps155 (rs:= []) rfl rfl fun hb LF=>?_
 have hlen:l.length≤140737488355328:=(hb (.slice (l.map eSlc) t) (by simp)).slice_map
 rw[List.nil_append]
 refine wf ?_
 refine pwp_loopS (σ:=Nat) (fun k=>1≤k∧k≤l.length+1) (fun k=>l.length+1 - k) (fun k=> [(0,.slice (l.map eSlc) t),(1,.raw (.int .i64 0)),(2,.raw (.int .i64 l.length)),(3,.clo F cs),(8,.raw (.int .i64 k))]) (fun _=>LF) 1 ⟨by omega,by omega⟩ ⟨rfl,rfl,rfl,rfl,rfl⟩ (.refl _) ?_
 rintro k ⟨hk1,hk⟩
 refine wf ?_
 refine pwp_condD (fun hc=>?_) (fun hc=>?_)
 ·have hlt:k < l.length:=by omega
  have c1:=hp k ((k:Int) - 1).toNat hlt (by omega)
  have hsk:0≤c l[k] (l[((k:Int) - 1).toNat]'(by omega)):=by
   have h:=hs (k - 1) (by omega)
   have e1:l[k - 1+1]'(by omega)=l[k]:=by congr 1;omega
   have e2:l[((k:Int) - 1).toNat]'(by omega)=l[k - 1]'(by omega):=by congr 1;omega
   rw[e2,←e1];exact h
  generalize c l[k] (l[((k:Int) - 1).toNat]'(by omega))=cc at c1 hsk
  have g1:decide (0 < (k:Int))=true:=decide_eq_true (by omega)
  refine wf ?_
  refine pwp_loopS (σ:=Unit) (fun _=>True) (fun _=>0) (fun _=> [(0,.slice (l.map eSlc) t),(1,.raw (.int .i64 0)),(2,.raw (.int .i64 l.length)),(3,.clo F cs),(8,.raw (.int .i64 k)),(9,.raw (.int .i64 k))]) (fun _=>LF) () trivial ⟨rfl,rfl,rfl,rfl,rfl,rfl⟩ (.refl _) ?_
  rintro _ _
  refine wf ?_
  refine pwp_condD (fun h=>?_) (fun _=>?_)
  ·omega
  refine wf ?_
  exact⟨k+1,⟨by omega,by omega⟩,by dsimp only;omega,⟨rfl,rfl,rfl,rfl,rfl⟩,.refl _⟩
 ·refine wf ?_
  exact⟨trivial,_,[],.nil,.refl _,rfl⟩
theorem sortFL_pdq (F:Nat) (cs:List PV) (c:List Dig × Tag→List Dig × Tag→Int) [hF:TFun Tryz.prog F] (l:List (List Dig × Tag)) (t:Tag) (n:Int) (hl:l.length≤12) (hp: ∀ i j (hi:i < l.length) (hj:j < l.length),FnC Tryz.prog F (.slice (l[i].1.map eDig) l[i].2:: .slice (l[j].1.map eDig) l[j].2::cs) (.raw (.int .i64 (c l[i] l[j])))) (hs: ∀ i (h:i+1 < l.length),0≤c l[i+1] l[i]):
  PCalls Tryz.prog 116 [.slice (l.map eSlc) t,.raw (.int .i64 0),.raw (.int .i64 (l.length:Int)),.raw (.int .i64 n),.clo F cs] [] (fun r L'=>L'= []):=by
 refine pcalls_bd Tryz.func116 rfl Tryz.ntmps116 (rs:= []) rfl rfl fun hb LF=>?_
 rw[List.nil_append]
 refine wf ?_
 refine pwp_loopS (σ:=Unit) (fun _=>True) (fun _=>0) (fun _=> [(0,.slice (l.map eSlc) t),(1,.raw (.int .i64 0)),(2,.raw (.int .i64 l.length)),(4,.clo F cs)]) (fun _=>LF) () trivial ⟨rfl,rfl,rfl,rfl⟩ (.refl _) ?_
 rintro _ _
 refine wf ?_
 refine pwp_condD (fun h=>?_) (fun h=>?_)
 ·refine wf ?_
  refine s_callR (xs:= [.tmp 26,.tmp 27,.tmp 28,.tmp 29]) [] LF (f:=155) (cs:= []) (le_func _) rfl rfl (.refl _) _ (sortFL_ins F cs c l t hp hs) fun r L' e=>?_
  subst e
  refine wf ?_
  exact⟨trivial,_,[],.nil,.refl _,rfl⟩
 ·omega
theorem sortFL_fn (F:Nat) (cs:List PV) (c:List Dig × Tag→List Dig × Tag→Int) [hF:TFun Tryz.prog F] (l:List (List Dig × Tag)) (t:Tag) (hl:l.length≤12) (hp: ∀ i j (hi:i < l.length) (hj:j < l.length),FnC Tryz.prog F (.slice (l[i].1.map eDig) l[i].2:: .slice (l[j].1.map eDig) l[j].2::cs) (.raw (.int .i64 (c l[i] l[j])))) (hs: ∀ i (h:i+1 < l.length),0≤c l[i+1] l[i]):
  PCalls Tryz.prog 73 [.slice (l.map eSlc) t,.clo F cs] [] (fun r L'=>L'= []):=by
 refine pcalls_bd Tryz.func73 rfl Tryz.ntmps73 (rs:= []) rfl rfl fun hb LF=>?_
 rw[List.nil_append]
 have c1:=len_fn l.length hl
 refine wf ?_
 refine wf ?_
 refine s_callR (xs:= [.tmp 7,.const (.int .i64 0),.tmp 8,.tmp 11,.tmp 12]) [] LF (f:=116) (cs:= []) (le_func _) rfl rfl (.refl _) _ (sortFL_pdq F cs c l t _ hl hp hs) fun r L' e=>?_
 subst e
 refine wf ?_
 exact⟨trivial,_,[],.nil,.refl _,rfl⟩
end Go.Proofs
namespace Go.Q
open Go
instance (s:Str):IsKey' (.str s) kStr s:=⟨.refl _⟩
end Go.Q
namespace Go.Proofs
open Go Go.Q
attribute [local irreducible] pwp pops pAny PCalls OpN
def eG (l:List Dig):List PV:= [.slice (l.map eDig) .ro]
instance :Len eG 1:=⟨fun _=>rfl⟩
instance (l:List Dig):Flat (eG l):=by unfold eG;infer_instance
instance :FlatF eG:=⟨fun c=>(inferInstance:Flat (eG c)).out⟩
instance (l:List Dig) (t:Tag):EncC (.slice (l.map eDig) t) eG l:=⟨.ro _ _⟩
def roL (l:List Dig):List Dig × Tag:=(l,.ro)
theorem map_roL (out:List (List Dig)):(out.map roL).map eSlc=out.map eG:=by rw[List.map_map];rfl
section
variable {κ:Type} [DecidableEq κ]
def toksK (m:List (κ × (List Dig × Tag))):List Res:=m.map fun e=>tokE e.2
def SplitK (k:κ) (m:List (κ × (List Dig × Tag))) (R:List Res):Prop:=(mGet k m=none∧R=toksK m)∨ ∃ v,mGet k m=some v∧(toksK m).Perm (tokE v::R)
theorem toksK_split (k:κ): ∀ m:List (κ × (List Dig × Tag)),∃ R,SplitK k m R∧ ∀ v,(toksK (mSet k v m)).Perm (tokE v::R)
 | []=>⟨[],.inl ⟨rfl,rfl⟩,fun v=> .refl _⟩
 |(a,y)::l=>by
  by_cases e:k=a
  ·exact⟨toksK l,.inr ⟨y,by simp[mGet,e],.refl _⟩,fun v=>by simp[mSet,e,toksK]⟩
  ·obtain⟨R,h1,h2⟩:=toksK_split k l
   refine⟨tokE y::R,?_,fun v=>?_⟩
   ·rcases h1 with ⟨h,rfl⟩|⟨v,h,hp⟩
    ·exact .inl ⟨by simp[mGet,e,h],rfl⟩
    ·exact .inr ⟨v,by simp[mGet,e,h],(List.Perm.cons (tokE y) hp).trans (.swap _ _ _)⟩
   ·have e2:mSet k v ((a,y)::l)=(a,y)::mSet k v l:=by simp[mSet,e]
    rw[e2]
    exact(List.Perm.cons (tokE y) (h2 v)).trans (.swap _ _ _)
theorem pwp_toksK {P:Program} {N:Nat} {c:Code} {Q:PPost} {ρ:Env} {A LF R:List Res} {m:List (κ × (List Dig × Tag))} {k:κ} (h:SplitK k m R) (hk:pwp P N c Q ρ (A++tokE ((mGet k m).getD ([],.nil))::(R++LF))):pwp P N c Q ρ (A++(toksK m++LF)):=by
 rcases h with ⟨h,rfl⟩|⟨v,h,hp⟩
 ·rw[h]at hk
  refine pwp_tok 32 ?_
  exact pwp_perm List.perm_middle.symm hk
 ·rw[h]at hk
  exact pwp_perm (List.Perm.append_left A (hp.append_right LF)) hk
def vOpt:Option (List Dig × Tag)→PV
 |none=> .raw (.slice none 0 0)
 |some x=>vTg x
def optM (m:List (κ × (List Dig × Tag))):List (κ × Option (List Dig × Tag)):=m.map fun e=>(e.1,some e.2)
omit [DecidableEq κ] in
theorem eMap_opt (ek:κ→PV) (m:List (κ × (List Dig × Tag))):eMap ek vOpt (optM m)=eMap ek vTg m:=by simp[eMap,optM,vOpt]
theorem mGet_opt (k:κ): ∀ m:List (κ × (List Dig × Tag)),mGet k (optM m)=(mGet k m).map some
 | []=>rfl
 |(a,y)::l=>by
  have ih:=mGet_opt k l
  by_cases e:k=a
  ·simp[mGet,optM,e]
  ·simp only[mGet,e,if_false,optM,List.map_cons]
   exact ih
instance :TMap Tryz.prog 109 9 24:=⟨by kernel_rfl⟩
instance zv_opt:ZV Tryz.prog 24 vOpt none:=zvof (v:= .slice none 0 0) (by kernel_rfl) fun _=> .raw _
section
variable {P:Program} {N:Nat} {all:Array Oper} {K:Env→List Res→Prop} {fl:List Bool} {os:List Oper} {ρ:Env} {L:List Res} {d:Nat} {ty:TypeId} {pos:String} {af:Array Edge}
theorem s_lookT {ek:κ→PV} {T KT:Nat} {x y:Operand} {b:Nat} {m:List (κ × (List Dig × Tag))} {ay:PV} {k0:κ} (hx:ρ.ev x= .raw (.map (some b))) (hm:Res.map b (eMap ek vTg m)∈L) (hy:ρ.ev y=ay) [hT:TMap Tryz.prog T KT 24] [hK:TKey Tryz.prog KT ek] [hk:IsKey' ay ek k0]
  (k:pops Tryz.prog N all K fl.tail os (upd ρ d (vOpt (mGet k0 m))) L) (hd:Nat.blt d N=true:=by rfl):pops Tryz.prog N all K fl (⟨some d,.lookup T x y false,ty,pos,af,none⟩::os) ρ L:=by
 refine s_lookM (ev:=vOpt) (l:=optM m) (k0:=k0) (a0:=none) hx (by rw[eMap_opt];exact hm) hy ?_ hd
 rw[mGet_opt]
 have e:((mGet k0 m).map some).getD none=mGet k0 m:=by cases mGet k0 m<;>rfl
 rw[e];exact k
end
end
end Go.Proofs
namespace Go.Proofs
open Go Go.Q
section
variable {β:Type} [DecidableEq β] (K:Sto→β)
def frK (s:List Sto) (i:Nat):Bool:=(List.range i).all fun k=>decide (K (s.getD k Sto.zero)≠K (s.getD i Sto.zero))
def ordK (s:List Sto) (n:Nat):List β:=((List.range n).filter (frK K s)).map fun i=>K (s.getD i Sto.zero)
def grK (s:List Sto) (n:Nat) (key:β):List Dig:=ids ((s.take n).filter fun y=>decide (K y=key))
theorem ordK_succ (s:List Sto) (n:Nat):ordK K s (n+1)=ordK K s n++if frK K s n=true then [K (s.getD n Sto.zero)]else []:=by
 unfold ordK
 rw[List.range_succ,List.filter_append,List.map_append]
 by_cases h:frK K s n=true<;>simp[h]
theorem grK_succ {s:List Sto} {n:Nat} (h:n < s.length) (key:β):grK K s (n+1) key=grK K s n key++if K s[n]=key then [s[n].id]else []:=by
 unfold grK
 rw[List.take_succ_eq_append_getElem h,List.filter_append,ids,List.map_append]
 by_cases e:K s[n]=key<;>simp[e,ids]
theorem frK_iff {s:List Sto} {n:Nat} (h:n < s.length):frK K s n=true↔grK K s n (K s[n])= []:=by
 have e:s.getD n Sto.zero=s[n]:=by simp[List.getD,h]
 rw[frK,e,grK,ids,List.map_eq_nil_iff,List.filter_eq_nil_iff,List.all_eq_true]
 constructor
 ·intro h2 x hx
  obtain⟨k,hk,rfl⟩:=List.mem_iff_getElem.1 hx
  rw[List.length_take]at hk
  have:=h2 k (List.mem_range.2 (by omega))
  have e2:s.getD k Sto.zero=s[k]'(by omega):=by simp[List.getD,show k < s.length by omega]
  rw[e2]at this
  simpa using this
 ·intro h2 k hk
  have hk:=List.mem_range.1 hk
  have e2:s.getD k Sto.zero=s[k]'(by omega):=by simp[List.getD,show k < s.length by omega]
  have:=h2 (s[k]'(by omega)) (List.mem_take_iff_getElem.2 ⟨k,by omega,rfl⟩)
  rw[e2]
  simpa using this
def groupsK (s:List Sto):List (List Dig):=((ordK K s s.length).map (grK K s s.length)).filter fun l=>decide (1 < l.length)
theorem mem_grK {s:List Sto} {key:β} {d:Dig}:d∈grK K s s.length key↔ ∃ y∈s,y.id=d∧K y=key:=by
 unfold grK
 rw[List.take_length]
 constructor
 ·intro h
  obtain⟨y,hy,e⟩:=List.mem_map.1 h
  obtain⟨h1,h2⟩:=List.mem_filter.1 hy
  exact⟨y,h1,e,of_decide_eq_true h2⟩
 ·rintro⟨y,hy,e,h2⟩
  exact List.mem_map.2 ⟨y,List.mem_filter.2 ⟨hy,decide_eq_true h2⟩,e⟩
theorem grK_asc {s:List Sto} (ha:Asc (ids s)) (n:Nat) (key:β):Asc (grK K s n key):=by
 refine List.Pairwise.sublist ?_ ha
 exact((List.filter_sublist).trans (List.take_sublist n s)).map _
theorem ordK_nodup (s:List Sto) (n:Nat):(ordK K s n).Nodup:=by
 induction n with
 |zero=>exact .nil
 |succ n ih=>
  rw[ordK_succ]
  by_cases h:frK K s n=true
  ·rw[if_pos h,List.nodup_append]
   refine⟨ih,by simp,fun a ha b hb e=>?_⟩
   rw[List.mem_singleton.1 hb]at e
   obtain⟨k,hk,e2⟩:=List.mem_map.1 ha
   have hk:=List.mem_range.1 (List.mem_filter.1 hk).1
   have:=List.all_eq_true.1 h k (List.mem_range.2 hk)
   rw[e2,e]at this
   simp at this
  ·rw[if_neg h,List.append_nil];exact ih
theorem ordK_mem {s:List Sto}: ∀ (n:Nat),n≤s.length→ ∀ y∈s.take n,K y∈ordK K s n
 |0,_,y,hy=>by simp at hy
 |n+1,h,y,hy=>by
  have hlt:n < s.length:=h
  have e0:s.getD n Sto.zero=s[n]:=by simp[List.getD,hlt]
  rw[ordK_succ]
  rw[List.take_succ_eq_append_getElem hlt]at hy
  rcases List.mem_append.1 hy with hy|hy
  ·exact List.mem_append.2 (.inl (ordK_mem n (by omega) y hy))
  ·rw[List.mem_singleton.1 hy]
   by_cases hf:frK K s n=true
   ·rw[if_pos hf,e0];exact List.mem_append.2 (.inr (by simp))
   ·have hn:grK K s n (K s[n])≠ []:=fun h'=>hf ((frK_iff K hlt).2 h')
    obtain⟨d,hd⟩:=List.exists_mem_of_ne_nil _ hn
    obtain⟨z,hz,_⟩:=List.mem_map.1 hd
    obtain⟨h1,h2⟩:=List.mem_filter.1 hz
    rw[←of_decide_eq_true h2]
    exact List.mem_append.2 (.inl (ordK_mem n (by omega) z h1))
theorem grK_head {s:List Sto} {i:Nat} (hi:i < s.length) (hf:frK K s i=true):(grK K s s.length (K s[i])).head? =some s[i].id:=by
 have h0:=(frK_iff K hi).1 hf
 have e: ∀ n,i < n→n≤s.length→ ∃ r,grK K s n (K s[i])=s[i].id::r:=fun n=>by
  induction n with
  |zero=>intro h;omega
  |succ n ih=>
   intro h1 h2
   rw[grK_succ K h2]
   by_cases e:i=n
   ·subst e
    rw[h0,if_pos rfl]
    exact⟨[],rfl⟩
   ·obtain⟨r,hr⟩:=ih (by omega) (by omega)
    exact⟨_,by rw[hr];rfl⟩
 obtain⟨r,hr⟩:=e s.length hi (Nat.le_refl _)
 rw[hr];rfl
theorem groupsK_asc {s:List Sto} (ha:Asc (ids s)):(groupsK K s).Pairwise fun a b=>Dig.lt (a.headD Dig.zero) (b.headD Dig.zero):=by
 unfold groupsK ordK
 refine List.Pairwise.filter _ ?_
 rw[List.map_map,List.pairwise_map]
 have h:=(List.pairwise_lt_range (n:=s.length)).filter (frK K s)
 refine List.Pairwise.imp_of_mem (fun {i j} hi hj hij=>?_) h
 obtain⟨i1,i2⟩:=List.mem_filter.1 hi
 obtain⟨j1,j2⟩:=List.mem_filter.1 hj
 have i1:=List.mem_range.1 i1
 have j1:=List.mem_range.1 j1
 have ei:s.getD i Sto.zero=s[i]:=by simp[List.getD,i1]
 have ej:s.getD j Sto.zero=s[j]:=by simp[List.getD,j1]
 simp only[Function.comp,ei,ej]
 rw[List.headD_eq_head?_getD,List.headD_eq_head?_getD,grK_head K i1 i2,grK_head K j1 j2]
 have:=List.pairwise_iff_getElem.1 ha i j (by simpa [ids]using i1) (by simpa [ids]using j1) hij
 simpa [ids]using this
end
theorem groupsK_congr {β γ:Type} [DecidableEq β] [DecidableEq γ] {K:Sto→β} {M:Sto→γ} {s:List Sto} (h: ∀ x∈s,∀ y∈s,K x=K y↔M x=M y):groupsK K s=groupsK M s:=by
 have hg: ∀ i,i < s.length→s.getD i Sto.zero∈s:=fun i hi=>by simp[List.getD,hi]
 have hf: ∀ i∈List.range s.length,frK K s i=frK M s i:=fun i hi=>by
  have hi:=List.mem_range.1 hi
  unfold frK
  rw[Bool.eq_iff_iff,List.all_eq_true,List.all_eq_true]
  constructor
  ·intro h2 k hk
   have:=h2 k hk
   have hk:=List.mem_range.1 hk
   rw[decide_eq_true_eq]at this ⊢
   exact fun e=>this ((h _ (hg k (by omega)) _ (hg i hi)).2 e)
  ·intro h2 k hk
   have:=h2 k hk
   have hk:=List.mem_range.1 hk
   rw[decide_eq_true_eq]at this ⊢
   exact fun e=>this ((h _ (hg k (by omega)) _ (hg i hi)).1 e)
 unfold groupsK ordK
 rw[List.map_map,List.map_map,List.filter_congr hf]
 congr 1
 refine List.map_congr_left fun i hi=>?_
 have hi:=List.mem_range.1 (List.mem_filter.1 hi).1
 simp only[Function.comp]
 unfold grK
 rw[List.take_length]
 congr 1
 refine List.filter_congr fun y hy=>?_
 exact decide_eq_decide.2 (h y hy _ (hg i hi))
def rTwins (s:List Sto):List (List Dig):=groupsK (fun x=>x.patch.changes) s
end Go.Proofs
namespace Go.Proofs
open Go Go.Q
def keyP (p:Pat):Pat:=⟨[97],[],0,[],p.changes⟩
theorem rDec_pos (n:Nat):1≤(rDec n).length:=by
 by_cases h:n < 10
 ·rw[rDec_small h];simp
 ·rw[rDec_big h];simp
theorem len_atomX (d:Nat) (s:Str):(encX (d+1) (sAtom s)).length=(rDec s.length).length+1+s.length:=by
 show(rDec s.length++58::s).length=_
 rw[List.length_append,List.length_cons];omega
theorem len_enc (p:Pat):(rEnc p).length=2+((encX 7 (sAtom [113,117,105,108,116,49])).length+(encX 7 (sAtom p.author)).length+(encX 7 (sAtom p.message)).length+(encX 7 (sNum p.time)).length+(encX 7 (sList (p.deps.map sDig))).length+(encX 7 (sList (p.changes.map sChg))).length):=by
 rw[rEnc,sPat,ln_list 7]
 simp only[List.map_cons,List.map_nil,List.sum_cons,List.sum_nil];omega
theorem head_facts {p:Pat} (h:(rCheckP p).2=0):rName p.author=true∧(0≤p.time∧p.time≤1099511627776)∧p.changes≠ []∧(p.changes.length:Int)≤400∧(rChanges p.changes []).2=0:=by
 unfold rCheckP at h
 by_cases h1:rName p.author=false
 ·rw[if_pos h1]at h;exact absurd h (by decide)
 rw[if_neg h1]at h
 by_cases h2:1000 < (p.message.length:Int)
 ·rw[if_pos h2]at h;exact absurd h (by decide)
 rw[if_neg h2]at h
 by_cases h3:p.time < 0∨1099511627776 < p.time
 ·rw[if_pos h3]at h;exact absurd h (by decide)
 rw[if_neg h3]at h
 by_cases h4:rDeps p.deps≠0
 ·rw[if_pos h4]at h;exact absurd h h4
 rw[if_neg h4]at h
 by_cases h5:(p.changes.length:Int)=0
 ·rw[if_pos h5]at h;exact absurd h (by decide)
 rw[if_neg h5]at h
 by_cases h6:400 < (p.changes.length:Int)
 ·rw[if_pos h6]at h;exact absurd h (by decide)
 rw[if_neg h6]at h
 exact⟨by simpa using h1,by omega,fun e=>h5 (by rw[e];rfl),by omega,h⟩
theorem name_pos {s:Str} (h:rName s=true):1≤s.length:=by
 cases s with
 |nil=>exact absurd h (by decide+kernel)
 |cons x s=>simp
theorem len_list_pos (d:Nat) (l:List Sx):2≤(encX (d+1) (sList l)).length:=by rw[ln_list];omega
theorem keyP_great {p:Pat} (g:rBig p=false) (h:(rCheckP p).2=0):rBig (keyP p)=false:=by
 have h1:=name_pos (head_facts h).1
 unfold rBig at g ⊢
 simp only[Bool.or_eq_false_iff,decide_eq_false_iff_not]at g ⊢
 obtain⟨⟨⟨⟨g1,g2⟩,g3⟩,g4⟩,g5⟩:=g
 refine⟨⟨⟨⟨g1,?_⟩,by simp[keyP]⟩,g4⟩,g5⟩
 unfold rTot at g2 ⊢
 simp only[keyP,List.length_cons,List.length_nil]
 omega
theorem keyP_check {p:Pat} (h:(rCheckP p).2=0):(rCheckP (keyP p)).2=0:=by
 obtain⟨_,_,h3,h4,h5⟩:=head_facts h
 have a1: ¬rName (keyP p).author=false:=by show ¬rName [97]=false;decide+kernel
 have a2: ¬1000 < ((keyP p).message.length:Int):=by simp[keyP]
 have a3: ¬((keyP p).time < 0∨1099511627776 < (keyP p).time):=by simp[keyP]
 have a4: ¬rDeps (keyP p).deps≠0:=by
  have:rDeps (keyP p).deps=rDeps []:=rfl
  rw[this];decide+kernel
 have a5: ¬((keyP p).changes.length:Int)=0:=by
  have:(keyP p).changes=p.changes:=rfl
  rw[this]
  have:=List.length_pos_iff.2 h3
  omega
 have a6: ¬400 < ((keyP p).changes.length:Int):=by
  have:(keyP p).changes=p.changes:=rfl
  rw[this];omega
 rw[rCheckP,if_neg a1,if_neg a2,if_neg a3,if_neg a4,if_neg a5,if_neg a6]
 exact h5
theorem keyP_id {p:Pat} (h:(rId p).2=0):(rId (keyP p)).2=0:=by
 have hid:=h
 have hc:=(rId_ok h).1
 have hk:=keyP_check hc
 have hl:(rEnc p).length≤65536:=by
  have:=rEncodeP_len p
  rwa [(rId_ok h).2]at this
 have hkl:(rEnc (keyP p)).length≤(rEnc p).length:=by
  obtain⟨h1,h2,_⟩:=head_facts hc
  have h1:=name_pos h1
  rw[len_enc,len_enc p]
  have e1:(encX 7 (sAtom p.author)).length=(rDec p.author.length).length+1+p.author.length:=len_atomX 6 p.author
  have e2:(encX 7 (sAtom p.message)).length=(rDec p.message.length).length+1+p.message.length:=len_atomX 6 p.message
  have e3:sNum p.time=sAtom (rDecI p.time):=by rw[sNum,rInt,if_neg (by omega)]
  have e4:(encX 7 (sAtom (rDecI p.time))).length=(rDec (rDecI p.time).length).length+1+(rDecI p.time).length:=len_atomX 6 (rDecI p.time)
  have e5:1≤(rDecI p.time).length:=by
   rw[rDecI,if_neg (by omega)];exact rDec_pos _
  have e6:2≤(encX 7 (sList (p.deps.map sDig))).length:=len_list_pos 6 (p.deps.map sDig)
  have r1:=rDec_pos p.author.length
  have r2:=rDec_pos p.message.length
  have r3:=rDec_pos (rDecI p.time).length
  have k1:(encX 7 (sAtom (keyP p).author)).length=3:=by show(encX 7 (sAtom [97])).length=3;decide+kernel
  have k2:(encX 7 (sAtom (keyP p).message)).length=2:=by show(encX 7 (sAtom [])).length=2;decide+kernel
  have k3:(encX 7 (sNum (keyP p).time)).length=3:=by show(encX 7 (sNum 0)).length=3;decide+kernel
  have k4:(encX 7 (sList ((keyP p).deps.map sDig))).length=2:=by show(encX 7 (sList [])).length=2;decide+kernel
  have k5:(encX 7 (sList ((keyP p).changes.map sChg))).length=(encX 7 (sList (p.changes.map sChg))).length:=rfl
  rw[e3]
  omega
 have he: ¬(rEncodeP (keyP p)).2≠0:=by
  rw[rEncodeP,if_neg (by simpa using hk),rEncode,if_neg (by omega)]
  simp
 rw[rId,if_neg he]
theorem key_eq {p q:Pat} (gp:rBig p=false) (gq:rBig q=false) (hp:(rId p).2=0) (hq:(rId q).2=0):(rEncodeP (keyP p)).1=(rEncodeP (keyP q)).1↔p.changes=q.changes:=by
 have h:=encode_eq (keyP_great gq (rId_ok hq).1) (keyP_great gp (rId_ok hp).1) (keyP_id hq) (keyP_id hp)
 rw[decide_eq_decide]at h
 rw[h]
 constructor
 ·intro e
  have:=congrArg Pat.changes e
  exact this.symm
 ·intro e
  unfold keyP;rw[e]
theorem twins_eq {s:List Sto} (v:Valid s):groupsK (fun x=>(rEncodeP (keyP x.patch)).1) s=rTwins s:=
 groupsK_congr fun x hx y hy=>key_eq (v.close.1.2 x hx) (v.close.1.2 y hy) (v.id x hx).1 (v.id y hy).1
end Go.Proofs
namespace Go.Proofs
open Go Go.Q
section
variable {β:Type} [DecidableEq β] (K:Sto→β)
theorem mem_groups {s:List Sto} {l:List Dig}:l∈groupsK K s↔(∃ key∈ordK K s s.length,l=grK K s s.length key)∧1 < l.length:=by
 unfold groupsK
 rw[List.mem_filter,List.mem_map,decide_eq_true_eq]
 constructor
 ·rintro⟨⟨key,hk,rfl⟩,h⟩;exact⟨⟨key,hk,rfl⟩,h⟩
 ·rintro⟨⟨key,hk,rfl⟩,h⟩;exact⟨⟨key,hk,rfl⟩,h⟩
theorem groups_pw {s:List Sto} (ha:Asc (ids s)):(groupsK K s).Pairwise fun a b=> ∀ d∈a,d∉b:=by
 unfold groupsK
 refine List.Pairwise.filter _ ?_
 rw[List.pairwise_map]
 refine(ordK_nodup K s s.length).imp fun {k1 k2} hne d h1 h2=>?_
 obtain⟨y,hy,e1,e2⟩:=(mem_grK K).1 h1
 obtain⟨z,hz,e3,e4⟩:=(mem_grK K).1 h2
 have:=sto_unique ha hy hz (e1.trans e3.symm)
 subst this
 exact hne (e2.symm.trans e4)
theorem groups_together {s:List Sto} (ha:Asc (ids s)) {x y:Sto} (hx:x∈s) (hy:y∈s) (hne:x.id≠y.id) (hk:K x=K y): ∃ l∈groupsK K s,x.id∈l∧y.id∈l:=by
 have h1:x.id∈grK K s s.length (K x):=(mem_grK K).2 ⟨x,hx,rfl,rfl⟩
 have h2:y.id∈grK K s s.length (K x):=(mem_grK K).2 ⟨y,hy,rfl,hk.symm⟩
 refine⟨grK K s s.length (K x),(mem_groups K).2 ⟨⟨K x,ordK_mem K s.length (Nat.le_refl _) x (by rw[List.take_length];exact hx),rfl⟩,?_⟩,h1,h2⟩
 have:=nodup_len (l:= [x.id,y.id]) (m:=grK K s s.length (K x)) (by simp[hne]) fun d hd=>by
  simp only[List.mem_cons,List.not_mem_nil,or_false]at hd
  rcases hd with rfl|rfl
  ·exact h1
  ·exact h2
 simp only[List.length_cons,List.length_nil]at this
 omega
end
theorem twin_same {s:List Sto} {l:List Dig} (h:l∈rTwins s):1 < l.length∧ ∃ ch,∀ d∈l,∃ y∈s,y.id=d∧y.patch.changes=ch:=by
 obtain⟨⟨key,_,rfl⟩,h2⟩:=(mem_groups _).1 h
 exact⟨h2,key,fun d hd=>(mem_grK _).1 hd⟩
theorem twin_nodup {s:List Sto} (ha:Asc (ids s)) {l:List Dig} (h:l∈rTwins s):Asc l:=by
 obtain⟨⟨key,_,rfl⟩,_⟩:=(mem_groups _).1 h
 exact grK_asc _ ha _ _
end Go.Proofs
namespace Go.Proofs
open Go Go.Q
structure TwInv (K:Sto→Str) (s:List Sto) (k:Nat) (T:List (Str × (List Dig × Tag))):Prop where
 val: ∀ key,((mGet key T).map (·.1)).getD []=grK K s k key
 ne: ∀ key v,mGet key T=some v→v.1≠ []
theorem TwInv.start (K:Sto→Str) (s:List Sto):TwInv K s 0 []:=⟨fun key=>by simp[mGet,grK,ids],fun key v h=>by simp[mGet]at h⟩
theorem TwInv.none {K:Sto→Str} {s:List Sto} {k:Nat} {T:List (Str × (List Dig × Tag))} (h:TwInv K s k T) {key:Str} (e:mGet key T=none):grK K s k key= []:=by
 rw[←h.val key,e];rfl
theorem TwInv.some {K:Sto→Str} {s:List Sto} {k:Nat} {T:List (Str × (List Dig × Tag))} (h:TwInv K s k T) {key:Str} {v:List Dig × Tag} (e:mGet key T=some v):grK K s k key=v.1∧v.1≠ []:=by
 refine⟨?_,h.ne _ _ e⟩
 rw[←h.val key,e];rfl
theorem TwInv.step {K:Sto→Str} {s:List Sto} {k:Nat} {T:List (Str × (List Dig × Tag))} (h:TwInv K s k T) (hk:k < s.length) (t:Tag):
  TwInv K s (k+1) (mSet (K s[k]) (((mGet (K s[k]) T).getD ([],.nil)).1++ [s[k].id],t) T):=by
 refine⟨fun key=>?_,fun key v e=>?_⟩
 ·rw[mGet_mSet,grK_succ K hk]
  by_cases e:key=K s[k]
  ·subst e
   rw[if_pos rfl,if_pos rfl,←h.val]
   cases mGet (K s[k]) T<;>rfl
  ·rw[if_neg e,if_neg fun e'=>e e'.symm,List.append_nil]
   exact h.val key
 ·rw[mGet_mSet]at e
  by_cases e2:key=K s[k]
  ·rw[if_pos e2]at e
   injection e with e
   rw[←e];simp
  ·rw[if_neg e2]at e
   exact h.ne _ _ e
theorem grK_len (K:Sto→Str) (s:List Sto) (k:Nat) (key:Str):(grK K s k key).length≤s.length:=by
 unfold grK
 rw[ids_len]
 refine Nat.le_trans (List.length_filter_le _ _) ?_
 rw[List.length_take];omega
theorem ordK_len (K:Sto→Str) (s:List Sto) (n:Nat):(ordK K s n).length≤n:=by
 unfold ordK
 rw[List.length_map]
 refine Nat.le_trans (List.length_filter_le _ _) ?_
 rw[List.length_range];exact Nat.le_refl _
theorem ordK_ne {K:Sto→Str} {s:List Sto} {key:Str} (h:key∈ordK K s s.length):grK K s s.length key≠ []:=by
 unfold ordK at h
 obtain⟨i,hi,rfl⟩:=List.mem_map.1 h
 obtain⟨h1,h2⟩:=List.mem_filter.1 hi
 have h1:=List.mem_range.1 h1
 have e:s.getD i Sto.zero=s[i]:=by simp[List.getD,h1]
 rw[e]
 intro e2
 have:=grK_head K h1 h2
 rw[e2]at this
 simp at this
def grpJ (K:Sto→Str) (s:List Sto) (j:Nat):List (List Dig):=(((ordK K s s.length).take j).map (grK K s s.length)).filter fun l=>decide (1 < l.length)
theorem grpJ_succ {K:Sto→Str} {s:List Sto} {j:Nat} (h:j < (ordK K s s.length).length):grpJ K s (j+1)=grpJ K s j++if 1 < (grK K s s.length (ordK K s s.length)[j]).length then [grK K s s.length (ordK K s s.length)[j]]else []:=by
 unfold grpJ
 rw[List.take_succ_eq_append_getElem h,List.map_append,List.filter_append]
 congr 1
 simp only[List.map_cons,List.map_nil]
 by_cases h1:1 < (grK K s s.length (ordK K s s.length)[j]).length<;>simp[h1]
theorem grpJ_all (K:Sto→Str) (s:List Sto):grpJ K s (ordK K s s.length).length=groupsK K s:=by
 unfold grpJ groupsK
 rw[List.take_length]
theorem groups_ne {K:Sto→Str} {s:List Sto} {l:List Dig} (h:l∈groupsK K s):l≠ []:=by
 have:=((mem_groups K).1 h).2
 rintro rfl
 simp at this
theorem groups_len (K:Sto→Str) (s:List Sto):(groupsK K s).length≤s.length:=by
 unfold groupsK
 refine Nat.le_trans (List.length_filter_le _ _) ?_
 rw[List.length_map]
 exact ordK_len K s s.length
def cmpL (a b:List Dig × Tag):Int:=cmpD (a.1.headD Dig.zero) (b.1.headD Dig.zero)
theorem groups_sorted {K:Sto→Str} {s:List Sto} (ha:Asc (ids s)) {out:List (List Dig × Tag)} (e:out.map (·.1)=groupsK K s) (i:Nat) (h:i+1 < out.length):0≤cmpL out[i+1] out[i]:=by
 have hl:out.length=(groupsK K s).length:=by rw[←e,List.length_map]
 have hp:=List.pairwise_iff_getElem.1 (groupsK_asc K ha) i (i+1) (by omega) (by omega) (by omega)
 have e1:(groupsK K s)[i]'(by omega)=out[i].1:=by simp only[←e,List.getElem_map]
 have e2:(groupsK K s)[i+1]'(by omega)=out[i+1].1:=by simp only[←e,List.getElem_map]
 rw[e1,e2]at hp
 unfold cmpL
 have:=Dig.lt_asymm hp
 unfold Dig.lt at this
 omega
theorem asc_sorted {l:List Dig} (h:Asc l) (i:Nat) (hi:i+1 < l.length):0≤cmpD l[i+1] l[i]:=by
 have hp:=List.pairwise_iff_getElem.1 h i (i+1) (by omega) hi (by omega)
 have:=Dig.lt_asymm hp
 unfold Dig.lt at this
 omega
end Go.Proofs
namespace Go.Proofs
open Go Go.Q
attribute [local irreducible] pwp pops pAny PCalls OpN
theorem twins1_fn (a b:List Dig) (t u:Tag) (ha:a≠ []) (hb:b≠ []):FnC Tryz.prog 74 [.slice (a.map eDig) t,.slice (b.map eDig) u] (.raw (.int .i64 (cmpD (a.headD Dig.zero) (b.headD Dig.zero)))):=⟨by
 refine fn_of Tryz.func74 Tryz.ntmps74 rfl (rs:= [.tmp 4]) rfl rfl fun hbd LF=>?_
 have la:=List.length_pos_iff.2 ha
 have lb:=List.length_pos_iff.2 hb
 refine wf ?_
 refine end1 (.of_eq ?_)
 cases a with
 |nil=>exact absurd rfl ha
 |cons x a=>
  cases b with
  |nil=>exact absurd rfl hb
  |cons y b=>rfl⟩
def keyE (x:Sto):Str:=(rEncodeP (keyP x.patch)).1
set_option maxHeartbeats 4000000 in
theorem twinsP_fn (s:List Sto) (t:Tag) (v:Valid s) (hl:s.length≤12):FnC Tryz.prog 33 [.slice (s.map eSto) t] (.slice ((rTwins s).map eG) .ro):=⟨by
 refine fn_of Tryz.func33 Tryz.ntmps33 rfl (rs:= [.tmp 2]) rfl rfl fun hb LF=>?_
 have hgr: ∀ x∈s,rBig (keyP x.patch)=false:=fun x hx=>keyP_great (v.close.1.2 x hx) (rId_ok (v.id x hx).1).1
 have hkl: ∀ x:Sto,(keyE x).length≤65536:=fun x=>rEncodeP_len _
 refine wf ?_
 refine s_makeMap fun m=>?_
 refine wf ?_
 refine pwp_tok 1 ?_
 refine pwp_perm (.swap _ _ _) ?_
 refine pwp_loopS (σ:=Nat × List (Str × (List Dig × Tag)) × Tag) (fun k=>k.1≤s.length∧TwInv keyE s k.1 k.2.1) (fun k=>s.length - k.1) (fun k=> [(3,.raw (.map (some m))),(4,.slice ((ordK keyE s k.1).map eS) k.2.2),(14,.slice (s.map eSto) t),(15,.raw (.int .i64 s.length)),(16,.raw (.int .i64 k.1))]) (fun k=> .map m (eMap kStr vTg k.2.1):: .tok k.2.2 (ordK keyE s k.1).length 1::(toksK k.2.1++LF)) (0,[],.nil) ⟨by simp,.start _ _⟩ ⟨rfl,rfl,rfl,rfl,rfl⟩ (.refl _) ?_
 rintro⟨k,T,ot⟩ ⟨hk,hT⟩
 dsimp only at hk hT ⊢
 refine wf ?_
 refine pwp_condD (fun hc=>?_) (fun hc=>?_)
 ·have hlt:k < s.length:=by omega
  have i1:Small (rBig (keyP s[k].patch)=false):=⟨hgr _ (List.getElem_mem hlt)⟩
  have hstep:=fun t'=>hT.step hlt t'
  have hol:=ordK_len keyE s k
  have hfr:=frK_iff keyE hlt
  have hos:=ordK_succ keyE s k
  have hgl:=grK_len keyE s k (keyE s[k])
  have hkx:=hkl s[k]
  rw[show s.getD k Sto.zero=s[k] by simp[List.getD,hlt]]at hos
  obtain⟨R,hR1,hR2⟩:=toksK_split (keyE s[k]) T
  refine pwp_toksK (A:= [.map m (eMap kStr vTg T),.tok ot (ordK keyE s k).length 1]) hR1 ?_
  have hv:=hT.val (keyE s[k])
  have hnone:=hT.none (key:=keyE s[k])
  have hsome:=fun v=>hT.some (key:=keyE s[k]) (v:=v)
  have ct:FnC Tryz.prog 72 [.agg (ePat (keyP s[k].patch))] (.tuple [.str (keyE s[k]),.raw (.int .i64 (rEncodeP (keyP s[k].patch)).2)]):=EncodePP_ct _
  refine wz fun b6=>?_
  refine pwp_freezeD 6 ?_
  generalize hky:keyE s[k]=key at*
  generalize hv0:(mGet key T).getD ([],Tag.nil)=v0 at hstep ⊢
  obtain⟨l0,t0⟩:=v0
  dsimp only at hstep
  have hl0:l0.length≤12:=by
   have:l0=((mGet key T).map (·.1)).getD []:=by
    cases hm:mGet key T with
    |none=>rw[hm]at hv0;exact(Prod.mk.inj hv0).1.symm
    |some w=>rw[hm]at hv0;show l0=w.1;exact(congrArg Prod.fst hv0).symm
   rw[this,hv];omega
  refine wf ?_
  refine s_callR (xs:= [.tmp 24]) [] (.map m (eMap kStr vTg T):: .tok ot (ordK keyE s k).length 1:: .tok t0 l0.length 32::(R++LF)) (f:=72) (cs:= []) (le_func _) rfl rfl (.refl _) _ (PCalls.args (bs:= [.agg (ePat (keyP s[k].patch))]) rfl (fun i g1 g2=>by
   match i,g1,g2 with
   |0,_,_=>exact .of_eq rfl
   |m+1,g1,_=>exact absurd g1 (by simp)) ct.out) fun r L' ⟨e1,e2⟩=>?_
  subst e1;rw[e2,List.nil_append]
  refine wf ?_
  refine s_lookT (m:=T) (ay:= .str key) (k0:=key) rfl List.mem_cons_self rfl ?_
  cases hm:mGet key T with
  |none=>
   have hf:frK keyE s k=true:=hfr.2 (hnone hm)
   rw[hf,if_pos rfl]at hos
   refine wo ?_
   refine s_eqNilK (o:=none) (n:=0) (c:=0) rfl ?_
   refine wfa fun ot'=>?_
   refine s_lookM (κ:=Str) (ek:=kStr) (ev:=vTg) (l:=T) (ay:= .str key) (k0:=key) rfl List.mem_cons_self rfl ?_
   rw[hv0]
   refine wf ?_
   refine s_append (f:=eDig) (l:=l0) (m:= [s[k].id]) (t:=t0) (L':=fun t'=> .map m (eMap kStr vTg T):: .tok ot' (ordK keyE s k++ [key]).length 1:: .tok t' (l0++ [s[k].id]).length 32::(R++LF)) rfl rfl (by simp only[List.length_cons,List.length_nil];omega) (by simp only[List.length_cons,List.length_nil];omega) (fun t'=> .there (.there .here)) fun t'=>?_
   refine wo ?_
   refine s_mapUpd (κ:=Str) (ek:=kStr) (ev:=vTg) (k0:=key) (x0:=(l0++ [s[k].id],t')) (L':= .tok ot' (ordK keyE s k++ [key]).length 1:: .tok t' (l0++ [s[k].id]).length 32::(R++LF)) rfl (.refl _) (.refl _) (.refl _) ?_
   refine pops_nil ?_
   have hT1:=hstep t'
   have hp1:=hR2 (l0++ [s[k].id],t')
   rw[←hos]
   generalize mSet key (l0++ [s[k].id],t') T=T1 at hT1 hp1 ⊢
   refine pwp_perm (L':= .map m (eMap kStr vTg T1):: .tok ot' (ordK keyE s (k+1)).length 1::(toksK T1++LF)) (.cons _ (.cons _ ((hp1.append_right LF).symm))) ?_
   refine wf ?_
   exact⟨(k+1,T1,ot'),⟨by dsimp only;omega,hT1⟩,by dsimp only;omega,⟨rfl,rfl,rfl,rfl,rfl⟩,.refl _⟩
  |some w=>
   have hw:=hsome w hm
   have hf: ¬frK keyE s k=true:=fun h=>by
    have h0:=hfr.1 h
    rw[hw.1]at h0;exact hw.2 h0
   rw[if_neg hf,List.append_nil]at hos
   refine wo ?_
   refine s_eqNil (xs:=w.1.map eDig) (t:=w.2) rfl fun b hbn=>?_
   obtain rfl:b=false:=by
    cases b with
    |false=>rfl
    |true=>exact absurd (by simpa using hbn rfl) hw.2
   refine wf ?_
   refine s_lookM (κ:=Str) (ek:=kStr) (ev:=vTg) (l:=T) (ay:= .str key) (k0:=key) rfl List.mem_cons_self rfl ?_
   rw[hv0]
   refine wf ?_
   refine s_append (f:=eDig) (l:=l0) (m:= [s[k].id]) (t:=t0) (L':=fun t'=> .map m (eMap kStr vTg T):: .tok ot (ordK keyE s k).length 1:: .tok t' (l0++ [s[k].id]).length 32::(R++LF)) rfl rfl (by simp only[List.length_cons,List.length_nil];omega) (by simp only[List.length_cons,List.length_nil];omega) (fun t'=> .there (.there .here)) fun t'=>?_
   refine wo ?_
   refine s_mapUpd (κ:=Str) (ek:=kStr) (ev:=vTg) (k0:=key) (x0:=(l0++ [s[k].id],t')) (L':= .tok ot (ordK keyE s k).length 1:: .tok t' (l0++ [s[k].id]).length 32::(R++LF)) rfl (.refl _) (.refl _) (.refl _) ?_
   refine pops_nil ?_
   have hT1:=hstep t'
   have hp1:=hR2 (l0++ [s[k].id],t')
   rw[←hos]
   generalize mSet key (l0++ [s[k].id],t') T=T1 at hT1 hp1 ⊢
   refine pwp_perm (L':= .map m (eMap kStr vTg T1):: .tok ot (ordK keyE s (k+1)).length 1::(toksK T1++LF)) (.cons _ (.cons _ ((hp1.append_right LF).symm))) ?_
   refine wf ?_
   exact⟨(k+1,T1,ot),⟨by dsimp only;omega,hT1⟩,by dsimp only;omega,⟨rfl,rfl,rfl,rfl,rfl⟩,.refl _⟩
 have hkk:k=s.length:=by omega
 subst hkk
 have hol:=ordK_len keyE s s.length
 have hgall:=grpJ_all keyE s
 have hne:=fun key=>ordK_ne (K:=keyE) (s:=s) (key:=key)
 have hgs:=fun j=>grpJ_succ (K:=keyE) (s:=s) (j:=j)
 have hasc:=fun key=>asc_sorted (grK_asc keyE v.asc s.length key)
 have hgl:=grK_len keyE s s.length
 have hg0:grpJ keyE s 0= []:=by simp[grpJ]
 have hjl: ∀ j,(grpJ keyE s j).length≤j:=fun j=>by
  unfold grpJ
  refine Nat.le_trans (List.length_filter_le _ _) ?_
  rw[List.length_map,List.length_take];omega
 generalize ordK keyE s s.length=O at*
 refine wf ?_
 refine pwp_tok 1 ?_
 refine pwp_perm (.swap _ _ _) ?_
 refine pwp_loopS (σ:=Nat × Tag) (fun k=>k.1≤O.length) (fun k=>O.length - k.1) (fun k=> [(3,.raw (.map (some m))),(9,.slice ((grpJ keyE s k.1).map eG) k.2),(46,.slice (O.map eS) ot),(47,.raw (.int .i64 O.length)),(48,.raw (.int .i64 k.1))]) (fun k=> .map m (eMap kStr vTg T):: .tok k.2 (grpJ keyE s k.1).length 1::LF) (0,.nil) (by simp) ⟨rfl,by rw[hg0];rfl,rfl,rfl,rfl⟩ (by rw[hg0];exact .cons_cons _ (.cons_cons _ (.cons _ (List.sublist_append_right _ _)))) ?_
 rintro⟨j,wt⟩ hj
 dsimp only at hj ⊢
 refine wf ?_
 refine pwp_condD (fun hc=>?_) (fun hc=>?_)
 ·have hlt:j < O.length:=by omega
  have hgj:=hgs j hlt
  have hjl':=hjl j
  refine wf ?_
  refine s_lookM (κ:=Str) (ek:=kStr) (ev:=vTg) (l:=T) (ay:= .str O[j]) (k0:=O[j]) rfl List.mem_cons_self rfl ?_
  have hv:=hT.val O[j]
  have hgn:=hne O[j] (List.getElem_mem hlt)
  have hga:=hasc O[j]
  have hgll:=hgl O[j]
  obtain⟨w,hm⟩: ∃ w,mGet O[j] T=some w:=by
   cases hm:mGet O[j] T with
   |some w=>exact⟨w,rfl⟩
   |none=>rw[hm]at hv;exact absurd hv.symm hgn
  rw[hm]at hv ⊢
  change w.1=_ at hv
  rw[←hv]at hgj hga hgll hgn
  obtain⟨l,u⟩:=w
  dsimp only at hgj hga hgll hgn
  change pops _ _ _ _ _ _ (upd _ _ (.slice (l.map eDig) u)) _
  refine wf ?_
  refine pwp_condD (fun h=>?_) (fun h=>?_)
  ·have h1:1 < l.length:=by omega
   rw[if_pos h1]at hgj
   refine wf ?_
   refine s_callR (xs:= [.tmp 58,.func 60]) [] (.map m (eMap kStr vTg T):: .tok wt (grpJ keyE s j).length 1::LF) (f:=59) (cs:= []) (le_func _) rfl rfl (.refl _) _ (PCalls.args (bs:= [.slice (l.map eDig) u,.clo 60 []]) rfl (fun i g1 g2=>by
    match i,g1,g2 with
    |0,_,_=>exact .of_eq rfl
    |1,_,_=>exact le_func _
    |m+2,g1,_=>exact absurd g1 (by simp)) (sortFD_fn 60 [] cmpD l u (by omega) (fun i j _ _=>pCompare_ct _ _) hga)) fun r L' e1=>?_
   subst e1
   rw[List.nil_append]
   refine wfa fun wt'=>?_
   rw[←hgj]
   exact⟨(j+1,wt'),by dsimp only;omega,by dsimp only;omega,⟨rfl,rfl,rfl,rfl,rfl⟩,.refl _⟩
  ·rw[if_neg (by omega),List.append_nil]at hgj
   refine wf ?_
   rw[←hgj]
   exact⟨(j+1,wt),by dsimp only;omega,by dsimp only;omega,⟨rfl,rfl,rfl,rfl,rfl⟩,.refl _⟩
 ·have hjj:j=O.length:=by omega
  subst hjj
  rw[hgall]
  have hgr2:=groups_len keyE s
  have hgn:=fun l=>groups_ne (K:=keyE) (s:=s) (l:=l)
  have hso:=fun out=>groups_sorted (K:=keyE) v.asc (out:=out)
  have htw:groupsK keyE s=rTwins s:=twins_eq v
  rw[htw]at hgr2 hgn hso ⊢
  generalize rTwins s=G at*
  refine wf ?_
  refine s_callR (xs:= [.tmp 65,.func 74]) [] (.map m (eMap kStr vTg T):: .tok wt G.length 1::LF) (f:=73) (cs:= []) (le_func _) rfl rfl (.refl _) _ (PCalls.args (bs:= [.slice ((G.map roL).map eSlc) wt,.clo 74 []]) rfl (fun i g1 g2=>by
   match i,g1,g2 with
   |0,_,_=>exact .of_eq (by rw[map_roL];rfl)
   |1,_,_=>exact le_func _
   |m+2,g1,_=>exact absurd g1 (by simp)) (sortFL_fn 74 [] cmpL (G.map roL) wt (by rw[List.length_map];omega) (fun i j hi hj=>twins1_fn _ _ _ _ (hgn _ (by simp[roL])) (hgn _ (by simp[roL]))) (hso _ (by rw[List.map_map];simp[Function.comp_def,roL])))) fun r L' e1=>?_
  subst e1
  rw[List.nil_append]
  refine wf ?_
  exact end1 (.ro _ _)⟩
end Go.Proofs
namespace Go.Proofs
open Go Go.Q
attribute [local irreducible] pwp pops pAny PCalls OpN
set_option maxHeartbeats 1000000 in
theorem missing37_fn (a b:List Sto) (t u:Tag) (va:goodS a):FnC Tryz.prog 39 [.slice (a.map eSto) t,.slice (b.map eSto) u] (.slice ((rMissing a b).map eDig) .ro):=⟨by
 refine fn_of Tryz.func39 Tryz.ntmps39 rfl (rs:= [.tmp 4]) rfl rfl fun hbd LF=>?_
 have i1:Small (goodS a):=⟨va⟩
 have h40:=va.1
 have hol:(rOrder a).length≤a.length:=rOrder_len a
 have o1:=fun t=>Order_ct a t
 generalize hO:rOrder a=O at o1 hol
 have hM:rMissing a b=O.filter fun d=>decide (¬d∈ids b):=by rw[rMissing,hO]
 have i2:=fun t=>Ids_ct b t
 generalize ids b=B at i2 hM
 refine wf ?_
 refine pwp_tok 32 ?_
 refine pwp_loopS (σ:=Nat × List Dig × Tag) (fun k=>k.1≤O.length∧k.2.1=(O.take k.1).filter fun d=>decide (¬d∈B)) (fun k=>O.length - k.1) (fun k=> [(5,.slice (k.2.1.map eDig) k.2.2),(6,.slice (O.map eDig) .ro),(7,.slice (B.map eDig) .ro),(8,.raw (.int .i64 k.1))]) (fun k=> .tok k.2.2 k.2.1.length 32::LF) (0,[],.nil) ⟨by simp,rfl⟩ ⟨rfl,rfl,rfl,rfl⟩ (.refl _) ?_
 rintro⟨i,out,v⟩ ⟨hi,ho⟩
 dsimp only at hi ho ⊢
 refine wf ?_
 refine pwp_condD (fun hc=>?_) (fun hc=>?_)
 ·have hlt:i < O.length:=by omega
  have hol2:out.length≤i:=by rw[ho];exact Nat.le_trans (List.length_filter_le _ _) (by rw[List.length_take];omega)
  have e:=List.take_succ_eq_append_getElem hlt
  refine wf ?_
  refine pwp_condN (fun h=>?_) (fun h=>?_)
  ·have h':O[i]∉B:=by simpa using h
   refine wfa fun v2=>?_
   refine⟨(i+1,out++ [O[i]],v2),⟨by dsimp only;omega,by dsimp only;rw[e,List.filter_append,List.filter_cons_of_pos (by simpa using h'),List.filter_nil,ho]⟩,by dsimp only;omega,⟨rfl,rfl,rfl,rfl⟩,.refl _⟩
  ·have h':O[i]∈B:=by simpa using h
   refine wf ?_
   refine⟨(i+1,out,v),⟨by dsimp only;omega,by dsimp only;rw[e,List.filter_append,List.filter_cons_of_neg (by simpa using h'),List.filter_nil,List.append_nil,ho]⟩,by dsimp only;omega,⟨rfl,rfl,rfl,rfl⟩,.refl _⟩
 ·rw[List.take_of_length_le (by omega)]at ho
  refine wf ?_
  rw[hM,←ho]
  exact end1 (.ro _ _)⟩
set_option maxHeartbeats 1000000 in
theorem take37_fn (a b:List Sto) (t u:Tag) (l:List Dig) (y:Tag) (va:Valid a) (vb:Valid b) (hab:a.length+b.length≤40):FnC Tryz.prog 37 [.slice (a.map eSto) t,.slice (b.map eSto) u,.slice (l.map eDig) y] (.tuple [.slice ((rTake a b l).1.map eSto) .ro,.slice ((rTake a b l).2.1.map eDig) .ro,.raw (.int .i64 (rTake a b l).2.2)]):=⟨by
 refine fn_of Tryz.func37 Tryz.ntmps37 rfl (rs:= [.tmp 6,.tmp 7,.tmp 8]) rfl rfl fun hbd LF=>?_
 have i1:Small (closeS a):=⟨va.close⟩
 have i3:Small (a.length≤1000000):=⟨by omega⟩
 have k1:=fun t u=>Closure_ct a l t u
 by_cases hA:allIn (ids a) l=true
 ·obtain⟨L,eL,hL⟩:=va.closed (allIn_iff.1 hA)
  rw[eL]at k1
  dsimp only at k1
  have vk:=hL.keep va
  have hkl:(keepS a L).length≤a.length:=List.length_filter_le _ _
  have un:=fun t u=>union17_fn b (keepS a L) t u (by omega)
  have ms:=fun t u=>missing37_fn (keepS a L) b t u vk.close.1
  by_cases hc:Coh b (keepS a L)
  ·obtain⟨w,e1,i⟩:=rUnion_ok vb.asc vk.asc (by omega) hc
   rw[e1]at un
   dsimp only at un
   have et:=take_ok eL e1
   rw[show(rTake a b l).1=w by rw[et],show(rTake a b l).2.1=rMissing (keepS a L) b by rw[et],show(rTake a b l).2.2=0 by rw[et]]
   refine wf ?_
   exact end3 (.tuple3 (.ro _ _) (.ro _ _) (.refl _))
  ·rw[rUnion_bad vb.asc hc]at un
   dsimp only at un
   have et:=take_bad eL vb.asc hc
   rw[show(rTake a b l).1= [] by rw[et],show(rTake a b l).2.1= [] by rw[et],show(rTake a b l).2.2=14 by rw[et],List.map_nil,List.map_nil]
   refine wf ?_
   exact end3 (.tuple3 (.ro _ _) (.ro _ _) (.refl _))
 ·rw[closure_bad hA]at k1
  dsimp only at k1
  have et:=take_out (b:=b) hA
  rw[show(rTake a b l).1= [] by rw[et],show(rTake a b l).2.1= [] by rw[et],show(rTake a b l).2.2=7 by rw[et],List.map_nil,List.map_nil]
  refine wf ?_
  exact end3 (.tuple3 (.ro _ _) (.ro _ _) (.refl _))⟩
instance common37_ct (a b:List Sto) (t u:Tag) [hl:Small (a.length≤1000000)]:FnC Tryz.prog 41 [.slice (a.map eSto) t,.slice (b.map eSto) u] (.slice ((keepS a (ids b)).map eSto) .ro):=⟨by
 refine fn_of Tryz.func41 Tryz.ntmps41 rfl (rs:= [.tmp 4]) rfl rfl fun hbd LF=>?_
 refine wf ?_
 exact end1 (.refl _)⟩
def eSS (x:List Sto × Tag):List PV:= [.slice (x.1.map eSto) x.2]
instance :Len eSS 1:=⟨fun _=>rfl⟩
set_option maxHeartbeats 1000000 in
instance fine37_ct (l:List (List Sto × Tag)) (t:Tag):FnC Tryz.prog 31 [.slice (l.map eSS) t] (.raw (.bool (l.all fun x=>rFine x.1))):=⟨by
 refine fn_of Tryz.func31 Tryz.ntmps31 rfl (rs:= [.tmp 2]) rfl rfl fun hb LF=>?_
 have hlen:l.length≤140737488355328:=(hb (.slice (l.map eSS) t) (by simp)).slice_map
 refine wf ?_
 refine pwp_loopS (σ:=Nat) (fun k=>k≤l.length∧(l.take k).all (fun x=>rFine x.1)=true) (fun k=>l.length - k) (fun k=> [(5,.slice (l.map eSS) t),(6,.raw (.int .i64 l.length)),(7,.raw (.int .i64 k))]) (fun _=>LF) 0 ⟨by simp,by simp⟩ ⟨rfl,rfl,rfl⟩ (.refl _) ?_
 rintro k ⟨hk,hn⟩
 refine wf ?_
 refine pwp_condD (fun hc=>?_) (fun hc=>?_)
 ·have hlt:k < l.length:=by omega
  have e:=List.take_succ_eq_append_getElem hlt
  refine wf ?_
  refine pwp_condB (fun h=>?_) (fun h=>?_)
  ·have h':rFine l[k].1=false:=by simpa using h
   refine wf ?_
   refine end1 (.of_eq ?_)
   rw[show(l.all fun x=>rFine x.1)=false from List.all_eq_false.2 ⟨l[k],List.getElem_mem hlt,by simp[h']⟩]
  ·have h':rFine l[k].1=true:=by simpa using h
   refine wf ?_
   refine⟨k+1,⟨by omega,by rw[e,List.all_append,hn];simp[h']⟩,by dsimp only;omega,⟨rfl,rfl,rfl⟩,.refl _⟩
 ·refine wf ?_
  rw[List.take_of_length_le (by omega)]at hn
  rw[hn]
  exact end1 (.refl _)⟩
end Go.Proofs
