/- What the rest of the parser computes. -/
import Derived.Tactics
import Derived.Tactics2
import Derived.Defers
import Derived.Recover
import Derived.Laws.Pointers
import Derived.Test.YtcmphhedaefcgaaGreatDoorK4
set_option linter.unusedVariables false
set_option linter.unusedSimpArgs false
section
namespace Go.Proofs.YtcmphhedaefcgaaGreatDoor
open Av
attribute [local irreducible] awp AbX
attribute [local irreducible] awX opX
set_option maxRecDepth 100000
set_option maxHeartbeats 4000000
def eB (b:Bool):AV:=.bool b
theorem eB_eq (b:Bool):eB b=.bool b:=rfl
theorem q15:((((type_of% @eB_eq)∧(type_of% @eI64_eq))∧((type_of% @BhX)∧(type_of% @BdZ)))∧(((type_of% @eU_eq)∧(type_of% @pR_eq))∧((type_of% @AgZ)∧(type_of% @wkN_str)))):=⟨⟨⟨@eB_eq,@eI64_eq⟩,⟨@BhX,@BdZ⟩⟩,⟨⟨@eU_eq,@pR_eq⟩,⟨@AgZ,@wkN_str⟩⟩⟩
theorem p_truth (l:List Tok) (z:Int):Pd 90 [] l z eB (truthP l):=by
 refine BeX Tryz.func90 Tryz.call90 e_parse_parser_truth ?_
 generalize hR:outR eB z (truthP l)=R
 unfold truthP at hR
 simp +contextual -implicitDefEqProofs only [sm,c_parse_parser_truth,AgZ,seval]
 have hbm:=BnY [98,111,111,108] l z
 by_cases hb:isW [98,111,111,108] l=true
 · have hbr:mayR [98,111,111,108] l=l.tail:=by unfold mayR;rw [hb];rfl
   rw [hbr,hb] at hbm
   refine .inr (AaX [0] hbm (by decide) ?_ ?_ ?_ ?_ ?_ ?_)
   iterate 6 simp +contextual -implicitDefEqProofs only [q15,sm,seval]
   rw [hb,if_pos rfl] at hR
   simp only [AiZ] at hR
   subst hR
   simp +contextual -implicitDefEqProofs only [q15,sm,seval,AoQ]
   refine ⟨[],[0],by decide,rfl,?_⟩
   simp +contextual -implicitDefEqProofs only [q15,sm,seval]
 have hb:isW [98,111,111,108] l=false:=by simpa using hb
 rw [AnX hb,hb] at hbm
 refine .inr (AaX [0] hbm (by decide) ?_ ?_ ?_ ?_ ?_ ?_)
 iterate 6 simp +contextual -implicitDefEqProofs only [q15,sm,seval]
 rw [hb,if_neg (by simp)] at hR
 cases hq1:AeQ [[105,110,116]] l with
 |
  error er =>
  have hR2:R=.error er:=by rw [← hR,hq1];rfl
  subst hR2
  refine .inl (AbZ [0] ((AjY [[105,110,116]] l z (by decide)).thr hq1) (by decide) ?_ ?_ ?_ trivial)
  iterate 3 simp +contextual -implicitDefEqProofs only [q15,sm,seval]
 |
  ok x =>
  obtain ⟨_,l1⟩:=x
  rw [hq1] at hR
  simp only [AbY] at hR
  refine .inr (AaX [0] ((AjY [[105,110,116]] l z (by decide)).ctr hq1) (by decide) ?_ ?_ ?_ ?_ ?_ ?_)
  iterate 6 simp +contextual -implicitDefEqProofs only [q15,sm,seval]
  simp only [AiZ] at hR
  subst hR
  simp +contextual -implicitDefEqProofs only [q15,sm,seval,AoQ]
  refine ⟨[],[0],by decide,rfl,?_⟩
  simp +contextual -implicitDefEqProofs only [q15,sm,seval]
theorem p_goal (l:List Tok) (z:Int):Pd 59 [] l z eIt (goalP l):=by
 refine BeX Tryz.func59 Tryz.call59 e_parse_parser_goal ?_
 generalize hR:outR eIt z (goalP l)=R
 unfold goalP at hR
 simp +contextual -implicitDefEqProofs only [sm,c_parse_parser_goal,AgZ,seval]
 have h1m:=BnY [115,97,116,105,115,102,121] l z
 by_cases h1:isW [115,97,116,105,115,102,121] l=true
 · have h1r:mayR [115,97,116,105,115,102,121] l=l.tail:=by unfold mayR;rw [h1];rfl
   rw [h1r,h1] at h1m
   refine .inr (AaX [0] h1m (by decide) ?_ ?_ ?_ ?_ ?_ ?_)
   iterate 6 simp +contextual -implicitDefEqProofs only [q15,sm,seval]
   rw [h1,if_pos rfl] at hR
   simp only [AiZ] at hR
   subst hR
   simp +contextual -implicitDefEqProofs only [q15,sm,seval,AaZ,List.map_nil,AoQ]
   refine ⟨[],[0],by decide,rfl,?_⟩
   simp +contextual -implicitDefEqProofs only [q15,sm,seval,AaZ,List.map_nil]
 have h1:isW [115,97,116,105,115,102,121] l=false:=by simpa using h1
 rw [AnX h1,h1] at h1m
 refine .inr (AaX [0] h1m (by decide) ?_ ?_ ?_ ?_ ?_ ?_)
 iterate 6 simp +contextual -implicitDefEqProofs only [q15,sm,seval]
 rw [h1,if_neg (by simp)] at hR
 have h2m:=BnY [109,105,110,105,109,105,122,101] l z
 by_cases h2:isW [109,105,110,105,109,105,122,101] l=true
 · have h2r:mayR [109,105,110,105,109,105,122,101] l=l.tail:=by unfold mayR;rw [h2];rfl
   rw [h2r,h2] at h2m
   refine .inr (AaX [0] h2m (by decide) ?_ ?_ ?_ ?_ ?_ ?_)
   iterate 6 simp +contextual -implicitDefEqProofs only [q15,sm,seval]
   rw [h2,if_pos rfl] at hR
   cases hq1:BiQ l.tail with
   |
    error er =>
    have hR2:R=.error er:=by rw [← hR,hq1];rfl
    subst hR2
    refine .inl (AbZ [0] ((p_name l.tail z).thr hq1) (by decide) ?_ ?_ ?_ trivial)
    iterate 3 simp +contextual -implicitDefEqProofs only [q15,sm,seval]
   |
    ok x =>
    obtain ⟨n,l1⟩:=x
    rw [hq1] at hR
    simp only [AbY] at hR
    refine .inr (AaX [0] ((p_name l.tail z).ctr hq1) (by decide) ?_ ?_ ?_ ?_ ?_ ?_)
    iterate 6 simp +contextual -implicitDefEqProofs only [q15,sm,seval]
    simp only [AiZ] at hR
    subst hR
    simp +contextual -implicitDefEqProofs only [q15,sm,seval,AaZ,List.map_nil,AoQ]
    refine ⟨[],[0],by decide,rfl,?_⟩
    simp +contextual -implicitDefEqProofs only [q15,sm,seval,AaZ,List.map_nil]
 have h2:isW [109,105,110,105,109,105,122,101] l=false:=by simpa using h2
 rw [AnX h2,h2] at h2m
 refine .inr (AaX [0] h2m (by decide) ?_ ?_ ?_ ?_ ?_ ?_)
 iterate 6 simp +contextual -implicitDefEqProofs only [q15,sm,seval]
 rw [h2,if_neg (by simp)] at hR
 have h3m:=BnY [109,97,120,105,109,105,122,101] l z
 by_cases h3:isW [109,97,120,105,109,105,122,101] l=true
 · have h3r:mayR [109,97,120,105,109,105,122,101] l=l.tail:=by unfold mayR;rw [h3];rfl
   rw [h3r,h3] at h3m
   refine .inr (AaX [0] h3m (by decide) ?_ ?_ ?_ ?_ ?_ ?_)
   iterate 6 simp +contextual -implicitDefEqProofs only [q15,sm,seval]
   rw [h3,if_pos rfl] at hR
   cases hq1:BiQ l.tail with
   |
    error er =>
    have hR2:R=.error er:=by rw [← hR,hq1];rfl
    subst hR2
    refine .inl (AbZ [0] ((p_name l.tail z).thr hq1) (by decide) ?_ ?_ ?_ trivial)
    iterate 3 simp +contextual -implicitDefEqProofs only [q15,sm,seval]
   |
    ok x =>
    obtain ⟨n,l1⟩:=x
    rw [hq1] at hR
    simp only [AbY] at hR
    refine .inr (AaX [0] ((p_name l.tail z).ctr hq1) (by decide) ?_ ?_ ?_ ?_ ?_ ?_)
    iterate 6 simp +contextual -implicitDefEqProofs only [q15,sm,seval]
    simp only [AiZ] at hR
    subst hR
    simp +contextual -implicitDefEqProofs only [q15,sm,seval,AaZ,List.map_nil,AoQ]
    refine ⟨[],[0],by decide,rfl,?_⟩
    simp +contextual -implicitDefEqProofs only [q15,sm,seval,AaZ,List.map_nil]
 have h3:isW [109,97,120,105,109,105,122,101] l=false:=by simpa using h3
 rw [AnX h3,h3] at h3m
 refine .inr (AaX [0] h3m (by decide) ?_ ?_ ?_ ?_ ?_ ?_)
 iterate 6 simp +contextual -implicitDefEqProofs only [q15,sm,seval]
 rw [h3,if_neg (by simp)] at hR
 rw [BrX] at hR
 subst hR
 refine .inl (AbZ [0] (BnX l z) (by decide) ?_ ?_ ?_ trivial)
 iterate 3 simp +contextual -implicitDefEqProofs only [q15,sm,seval]
theorem p_par (l:List Tok) (z:Int):Pd 51 [] l z eIt (parP l):=by
 refine BeX Tryz.func51 Tryz.call51 e_parse_parser_par ?_
 generalize hR:outR eIt z (parP l)=R
 unfold parP at hR
 simp +contextual -implicitDefEqProofs only [sm,c_parse_parser_par,AgZ,seval]
 cases hq1:truthP l with
 |
  error er =>
  have hR2:R=.error er:=by rw [← hR,hq1];rfl
  subst hR2
  refine .inl (AbZ [0] ((p_truth l z).thr hq1) (by decide) ?_ ?_ ?_ trivial)
  iterate 3 simp +contextual -implicitDefEqProofs only [q15,sm,seval]
 |
  ok x =>
  obtain ⟨b,l1⟩:=x
  rw [hq1] at hR
  simp only [AbY] at hR
  refine .inr (AaX [0] ((p_truth l z).ctr hq1) (by decide) ?_ ?_ ?_ ?_ ?_ ?_)
  iterate 6 simp +contextual -implicitDefEqProofs only [q15,sm,seval]
  cases hq2:AeQ [[58]] l1 with
  |
   error er =>
   have hR2:R=.error er:=by rw [← hR,hq2];rfl
   subst hR2
   refine .inl (AbZ [0] ((AjY [[58]] l1 z (by decide)).thr hq2) (by decide) ?_ ?_ ?_ trivial)
   iterate 3 simp +contextual -implicitDefEqProofs only [q15,sm,seval]
  |
   ok x =>
   obtain ⟨_,l2⟩:=x
   rw [hq2] at hR
   simp only [AbY] at hR
   refine .inr (AaX [0] ((AjY [[58]] l1 z (by decide)).ctr hq2) (by decide) ?_ ?_ ?_ ?_ ?_ ?_)
   iterate 6 simp +contextual -implicitDefEqProofs only [q15,sm,seval]
   cases hq3:BiQ l2 with
   |
    error er =>
    have hR2:R=.error er:=by rw [← hR,hq3];rfl
    subst hR2
    refine .inl (AbZ [0] ((p_name l2 z).thr hq3) (by decide) ?_ ?_ ?_ trivial)
    iterate 3 simp +contextual -implicitDefEqProofs only [q15,sm,seval]
   |
    ok x =>
    obtain ⟨n,l3⟩:=x
    rw [hq3] at hR
    simp only [AbY] at hR
    refine .inr (AaX [0] ((p_name l2 z).ctr hq3) (by decide) ?_ ?_ ?_ ?_ ?_ ?_)
    iterate 6 simp +contextual -implicitDefEqProofs only [q15,sm,seval]
    cases hq4:AeQ [[61]] l3 with
    |
     error er =>
     have hR2:R=.error er:=by rw [← hR,hq4];rfl
     subst hR2
     refine .inl (AbZ [0] ((AjY [[61]] l3 z (by decide)).thr hq4) (by decide) ?_ ?_ ?_ trivial)
     iterate 3 simp +contextual -implicitDefEqProofs only [q15,sm,seval]
    |
     ok x =>
     obtain ⟨_,l4⟩:=x
     rw [hq4] at hR
     simp only [AbY] at hR
     refine .inr (AaX [0] ((AjY [[61]] l3 z (by decide)).ctr hq4) (by decide) ?_ ?_ ?_ ?_ ?_ ?_)
     iterate 6 simp +contextual -implicitDefEqProofs only [q15,sm,seval]
     cases ht:isW [116,114,117,101] l4
     · cases hf:isW [102,97,108,115,101] l4
       · cases b
         · by_cases hk:BeQ l4=2
           · have hit:=p_is [116,114,117,101] l4 z
             have hif:=p_is [102,97,108,115,101] l4 z
             have hkd:=p_kind l4 z
             rw [ht] at hit
             rw [hf] at hif
             rw [if_neg (by simp [ht,hf,hk])] at hR
             refine AfZ hit ?_ rfl ?_
             iterate 2 simp +contextual -implicitDefEqProofs only [q15,sm,seval,hk]
             refine AfZ hif ?_ rfl ?_
             iterate 2 simp +contextual -implicitDefEqProofs only [q15,sm,seval,hk]
             refine AfZ hkd ?_ rfl ?_
             iterate 2 simp +contextual -implicitDefEqProofs only [q15,sm,seval,hk]
             cases hq5:AjQ l4 with
             |
              error er =>
              have hR2:R=.error er:=by rw [← hR,hq5];rfl
              subst hR2
              refine .inl (AbZ [0] ((AyX l4 z).thr hq5) (by decide) ?_ ?_ ?_ trivial)
              iterate 3 simp +contextual -implicitDefEqProofs only [q15,sm,seval,AnY]
             |
              ok x =>
              obtain ⟨p,l5⟩:=x
              rw [hq5] at hR
              simp only [AbY] at hR
              refine .inr (AaX [0] ((AyX l4 z).ctr hq5) (by decide) ?_ ?_ ?_ ?_ ?_ ?_)
              iterate 6 simp +contextual -implicitDefEqProofs only [q15,sm,seval,AnY]
              simp only [AiZ] at hR
              subst hR
              simp +contextual -implicitDefEqProofs only [q15,sm,seval,AaZ,List.map_nil,List.map_cons,eEx_ex,AnY,AoQ]
              refine ⟨[],[0],by decide,rfl,?_⟩
              simp +contextual -implicitDefEqProofs only [q15,sm,seval,AaZ,List.map_nil,List.map_cons,eEx_ex,AnY]
           · have hit:=p_is [116,114,117,101] l4 z
             have hif:=p_is [102,97,108,115,101] l4 z
             have hkd:=p_kind l4 z
             rw [ht] at hit
             rw [hf] at hif
             rw [if_pos (by simp [ht,hf,hk])] at hR
             rw [BrX] at hR
             subst hR
             refine AfZ hit ?_ rfl ?_
             iterate 2 simp +contextual -implicitDefEqProofs only [q15,sm,seval,hk]
             refine AfZ hif ?_ rfl ?_
             iterate 2 simp +contextual -implicitDefEqProofs only [q15,sm,seval,hk]
             refine AfZ hkd ?_ rfl ?_
             iterate 2 simp +contextual -implicitDefEqProofs only [q15,sm,seval,hk]
             refine .inl (AbZ [0] (BnX l4 z) (by decide) ?_ ?_ ?_ trivial)
             iterate 3 simp +contextual -implicitDefEqProofs only [q15,sm,seval]
         · have hit:=p_is [116,114,117,101] l4 z
           have hif:=p_is [102,97,108,115,101] l4 z
           have hkd:=p_kind l4 z
           rw [ht] at hit
           rw [hf] at hif
           rw [if_pos (by simp [ht,hf])] at hR
           rw [BrX] at hR
           subst hR
           refine AfZ hit ?_ rfl ?_
           iterate 2 simp +contextual -implicitDefEqProofs only [q15,sm,seval]
           refine AfZ hif ?_ rfl ?_
           iterate 2 simp +contextual -implicitDefEqProofs only [q15,sm,seval]
           refine .inl (AbZ [0] (BnX l4 z) (by decide) ?_ ?_ ?_ trivial)
           iterate 3 simp +contextual -implicitDefEqProofs only [q15,sm,seval]
       · cases b
         · have hit:=p_is [116,114,117,101] l4 z
           have hif:=p_is [102,97,108,115,101] l4 z
           have hkd:=p_kind l4 z
           rw [ht] at hit
           rw [hf] at hif
           rw [if_pos (by simp [ht,hf])] at hR
           rw [BrX] at hR
           subst hR
           refine AfZ hit ?_ rfl ?_
           iterate 2 simp +contextual -implicitDefEqProofs only [q15,sm,seval]
           refine AfZ hif ?_ rfl ?_
           iterate 2 simp +contextual -implicitDefEqProofs only [q15,sm,seval]
           refine .inl (AbZ [0] (BnX l4 z) (by decide) ?_ ?_ ?_ trivial)
           iterate 3 simp +contextual -implicitDefEqProofs only [q15,sm,seval]
         · have hit:=p_is [116,114,117,101] l4 z
           have hif:=p_is [102,97,108,115,101] l4 z
           have hkd:=p_kind l4 z
           rw [ht] at hit
           rw [hf] at hif
           rw [if_neg (by simp [ht,hf])] at hR
           refine AfZ hit ?_ rfl ?_
           iterate 2 simp +contextual -implicitDefEqProofs only [q15,sm,seval]
           refine AfZ hif ?_ rfl ?_
           iterate 2 simp +contextual -implicitDefEqProofs only [q15,sm,seval]
           cases hq5:AjQ l4 with
           |
            error er =>
            have hR2:R=.error er:=by rw [← hR,hq5];rfl
            subst hR2
            refine .inl (AbZ [0] ((AyX l4 z).thr hq5) (by decide) ?_ ?_ ?_ trivial)
            iterate 3 simp +contextual -implicitDefEqProofs only [q15,sm,seval,AnY]
           |
            ok x =>
            obtain ⟨p,l5⟩:=x
            rw [hq5] at hR
            simp only [AbY] at hR
            refine .inr (AaX [0] ((AyX l4 z).ctr hq5) (by decide) ?_ ?_ ?_ ?_ ?_ ?_)
            iterate 6 simp +contextual -implicitDefEqProofs only [q15,sm,seval,AnY]
            simp only [AiZ] at hR
            subst hR
            simp +contextual -implicitDefEqProofs only [q15,sm,seval,AaZ,List.map_nil,List.map_cons,eEx_ex,AnY,AoQ]
            refine ⟨[],[0],by decide,rfl,?_⟩
            simp +contextual -implicitDefEqProofs only [q15,sm,seval,AaZ,List.map_nil,List.map_cons,eEx_ex,AnY]
     · cases b
       · have hit:=p_is [116,114,117,101] l4 z
         have hif:=p_is [102,97,108,115,101] l4 z
         have hkd:=p_kind l4 z
         rw [ht] at hit
         rw [if_pos (by simp [ht])] at hR
         rw [BrX] at hR
         subst hR
         refine AfZ hit ?_ rfl ?_
         iterate 2 simp +contextual -implicitDefEqProofs only [q15,sm,seval]
         refine .inl (AbZ [0] (BnX l4 z) (by decide) ?_ ?_ ?_ trivial)
         iterate 3 simp +contextual -implicitDefEqProofs only [q15,sm,seval]
       · have hit:=p_is [116,114,117,101] l4 z
         have hif:=p_is [102,97,108,115,101] l4 z
         have hkd:=p_kind l4 z
         rw [ht] at hit
         rw [if_neg (by simp [ht])] at hR
         refine AfZ hit ?_ rfl ?_
         iterate 2 simp +contextual -implicitDefEqProofs only [q15,sm,seval]
         cases hq5:AjQ l4 with
         |
          error er =>
          have hR2:R=.error er:=by rw [← hR,hq5];rfl
          subst hR2
          refine .inl (AbZ [0] ((AyX l4 z).thr hq5) (by decide) ?_ ?_ ?_ trivial)
          iterate 3 simp +contextual -implicitDefEqProofs only [q15,sm,seval,AnY]
         |
          ok x =>
          obtain ⟨p,l5⟩:=x
          rw [hq5] at hR
          simp only [AbY] at hR
          refine .inr (AaX [0] ((AyX l4 z).ctr hq5) (by decide) ?_ ?_ ?_ ?_ ?_ ?_)
          iterate 6 simp +contextual -implicitDefEqProofs only [q15,sm,seval,AnY]
          simp only [AiZ] at hR
          subst hR
          simp +contextual -implicitDefEqProofs only [q15,sm,seval,AaZ,List.map_nil,List.map_cons,eEx_ex,AnY,AoQ]
          refine ⟨[],[0],by decide,rfl,?_⟩
          simp +contextual -implicitDefEqProofs only [q15,sm,seval,AaZ,List.map_nil,List.map_cons,eEx_ex,AnY]
theorem dom_ctr {l l1:List Tok} {z:Int} {d:Dm} (h:domP l=.ok (d,l1)):Ctr Tryz.prog 94 [.ptr 2 0 0 0,.ptr 8 1 0 0] [some (2,[pS l z]),itB false .nils] (.tuple []) (domBx l1 z d):=by
 have:=p_dom l z
 rw [h] at this;exact this
theorem dom_thr {l:List Tok} {z:Int} {e:Int} (h:domP l=.error e):Thr Tryz.prog 94 [.ptr 2 0 0 0,.ptr 8 1 0 0] [some (2,[pS l z]),itB false .nils] (Flt e):=by
 have:=p_dom l z
 rw [h] at this;exact this
theorem isB_b:Dm.b.isB=true:=rfl
theorem isB_set (r:List Int):(Dm.set r).isB=false:=rfl
theorem isB_rng (lo hi:Int):(Dm.rng lo hi).isB=false:=rfl
theorem rows_b:Dm.b.rows=[]:=rfl
theorem rows_set (r:List Int):(Dm.set r).rows=r.map sg:=rfl
theorem rows_rng (lo hi:Int):(Dm.rng lo hi).rows=[(lo,hi)]:=rfl
theorem q16:((((type_of% @eEx_ex)∧(type_of% @AaZ))∧((type_of% @AnY)∧((type_of% @isB_b)∧(type_of% @isB_rng))))∧(((type_of% @isB_set)∧((type_of% @AhQ)∧(type_of% @q15)))∧((type_of% @rows_b)∧((type_of% @rows_rng)∧(type_of% @rows_set))))):=⟨⟨⟨@eEx_ex,@AaZ⟩,⟨@AnY,⟨@isB_b,@isB_rng⟩⟩⟩,⟨⟨@isB_set,⟨@AhQ,@q15⟩⟩,⟨@rows_b,⟨@rows_rng,@rows_set⟩⟩⟩⟩
theorem outP_def (l:List Tok):outP l=if isW [58,58] l=true then andP (AeQ [[111,117,116,112,117,116,95,118,97,114]] l.tail) fun _ l1=>.ok (true,l1) else .ok (false,l):=rfl
theorem initP_def (l:List Tok):initP l=if isW [61] l=true then andP (AjQ l.tail) fun p l1=>.ok ([p.ex],l1) else .ok ([],l):=rfl
theorem p_variable (l:List Tok) (z:Int):Pd 53 [] l z eIt (BgZ l):=by
 refine call_doesF Tryz.func53 Tryz.call53 e_parse_parser_variable ?_
 generalize hR:outR eIt z (BgZ l)=R
 unfold BgZ at hR
 simp +contextual -implicitDefEqProofs only [sm,BvX,AgZ,seval]
 cases hq1:domP l with
 |
  error er =>
  have hR2:R=.error er:=by rw [← hR,hq1];rfl
  subst hR2
  refine .inl (AbZ [0,2] (dom_thr (z:=z) hq1) (by decide) ?_ ?_ ?_ trivial)
  iterate 3 simp +contextual -implicitDefEqProofs only [q15,sm,seval,AhQ]
 |
  ok x =>
  obtain ⟨d,l1⟩:=x
  rw [hq1] at hR
  simp only [AbY] at hR
  have hdc:=dom_ctr (z:=z) hq1
  cases d with
  |
   b =>
   rw [domBx_b] at hdc
   refine .inr (AaX [0,2] hdc (by decide) ?_ ?_ ?_ ?_ ?_ ?_)
   iterate 6 simp +contextual -implicitDefEqProofs only [q15,sm,seval,AhQ,eRg]
   cases hq2:AeQ [[58]] l1 with
   |
    error er =>
    have hR2:R=.error er:=by rw [← hR,hq2];rfl
    subst hR2
    refine .inl (AbZ [0] ((AjY [[58]] l1 z (by decide)).thr hq2) (by decide) ?_ ?_ ?_ trivial)
    iterate 3 simp +contextual -implicitDefEqProofs only [q15,sm,seval,AhQ]
   |
    ok x =>
    obtain ⟨_,l2⟩:=x
    rw [hq2] at hR
    simp only [AbY] at hR
    refine .inr (AaX [0] ((AjY [[58]] l1 z (by decide)).ctr hq2) (by decide) ?_ ?_ ?_ ?_ ?_ ?_)
    iterate 6 simp +contextual -implicitDefEqProofs only [q15,sm,seval,AhQ]
    cases hq3:BiQ l2 with
    |
     error er =>
     have hR2:R=.error er:=by rw [← hR,hq3];rfl
     subst hR2
     refine .inl (AbZ [0] ((p_name l2 z).thr hq3) (by decide) ?_ ?_ ?_ trivial)
     iterate 3 simp +contextual -implicitDefEqProofs only [q15,sm,seval,AhQ]
    |
     ok x =>
     obtain ⟨n,l3⟩:=x
     rw [hq3] at hR
     simp only [AbY] at hR
     refine .inr (AaX [0] ((p_name l2 z).ctr hq3) (by decide) ?_ ?_ ?_ ?_ ?_ ?_)
     iterate 6 simp +contextual -implicitDefEqProofs only [q15,sm,seval,AhQ]
     rw [outP_def] at hR
     have hom:=BnY [58,58] l3 z
     by_cases ho:isW [58,58] l3=true
     · have hor:mayR [58,58] l3=l3.tail:=by unfold mayR;rw [ho];rfl
       rw [hor,ho] at hom
       refine .inr (AaX [0] hom (by decide) ?_ ?_ ?_ ?_ ?_ ?_)
       iterate 6 simp +contextual -implicitDefEqProofs only [q15,sm,seval,AhQ]
       rw [ho,if_pos rfl] at hR
       cases hq4:AeQ [[111,117,116,112,117,116,95,118,97,114]] l3.tail with
       |
        error er =>
        have hR2:R=.error er:=by rw [← hR,hq4];rfl
        subst hR2
        refine .inl (AbZ [0] ((AjY [[111,117,116,112,117,116,95,118,97,114]] l3.tail z (by decide)).thr hq4) (by decide) ?_ ?_ ?_ trivial)
        iterate 3 simp +contextual -implicitDefEqProofs only [q15,sm,seval,AhQ]
       |
        ok x =>
        obtain ⟨_,l4⟩:=x
        rw [hq4] at hR
        simp only [AbY] at hR
        refine .inr (AaX [0] ((AjY [[111,117,116,112,117,116,95,118,97,114]] l3.tail z (by decide)).ctr hq4) (by decide) ?_ ?_ ?_ ?_ ?_ ?_)
        iterate 6 simp +contextual -implicitDefEqProofs only [q15,sm,seval,AhQ]
        rw [initP_def] at hR
        have him:=BnY [61] l4 z
        by_cases hi:isW [61] l4=true
        · have hir:mayR [61] l4=l4.tail:=by unfold mayR;rw [hi];rfl
          rw [hir,hi] at him
          refine .inr (AaX [0] him (by decide) ?_ ?_ ?_ ?_ ?_ ?_)
          iterate 6 simp +contextual -implicitDefEqProofs only [q15,sm,seval,AhQ]
          rw [hi,if_pos rfl] at hR
          cases hq6:AjQ l4.tail with
          |
           error er =>
           have hR2:R=.error er:=by rw [← hR,hq6];rfl
           subst hR2
           refine .inl (AbZ [0] ((AyX l4.tail z).thr hq6) (by decide) ?_ ?_ ?_ trivial)
           iterate 3 simp +contextual -implicitDefEqProofs only [q15,sm,seval,AhQ,AnY]
          |
           ok x =>
           obtain ⟨p,l6⟩:=x
           rw [hq6] at hR
           simp only [AbY] at hR
           refine .inr (AaX [0] ((AyX l4.tail z).ctr hq6) (by decide) ?_ ?_ ?_ ?_ ?_ ?_)
           iterate 6 simp +contextual -implicitDefEqProofs only [q15,sm,seval,AhQ,AnY]
           simp only [AiZ] at hR
           subst hR
           simp +contextual -implicitDefEqProofs only [q16,sm,seval,List.map_nil,List.map_cons,eRg,BmQ,h_ret]
           refine ⟨[0],by decide,rfl,?_,?_⟩
           · simp +contextual -implicitDefEqProofs only [q16,sm,seval,List.map_nil,List.map_cons,eRg]
           · simp +contextual -implicitDefEqProofs only [q16,sm,seval,AfY,List.map_nil,List.map_cons,eRg]
        have hi:isW [61] l4=false:=by simpa using hi
        rw [AnX hi,hi] at him
        refine .inr (AaX [0] him (by decide) ?_ ?_ ?_ ?_ ?_ ?_)
        iterate 6 simp +contextual -implicitDefEqProofs only [q15,sm,seval,AhQ]
        rw [hi,if_neg (by simp),AbY] at hR
        simp only [AiZ] at hR
        subst hR
        simp +contextual -implicitDefEqProofs only [q16,sm,seval,List.map_nil,List.map_cons,eRg,BmQ,h_ret]
        refine ⟨[0],by decide,rfl,?_,?_⟩
        · simp +contextual -implicitDefEqProofs only [q16,sm,seval,List.map_nil,List.map_cons,eRg]
        · simp +contextual -implicitDefEqProofs only [q16,sm,seval,AfY,List.map_nil,List.map_cons,eRg]
     have ho:isW [58,58] l3=false:=by simpa using ho
     rw [AnX ho,ho] at hom
     refine .inr (AaX [0] hom (by decide) ?_ ?_ ?_ ?_ ?_ ?_)
     iterate 6 simp +contextual -implicitDefEqProofs only [q15,sm,seval,AhQ]
     rw [ho,if_neg (by simp),AbY] at hR
     rw [initP_def] at hR
     have him:=BnY [61] l3 z
     by_cases hi:isW [61] l3=true
     · have hir:mayR [61] l3=l3.tail:=by unfold mayR;rw [hi];rfl
       rw [hir,hi] at him
       refine .inr (AaX [0] him (by decide) ?_ ?_ ?_ ?_ ?_ ?_)
       iterate 6 simp +contextual -implicitDefEqProofs only [q15,sm,seval,AhQ]
       rw [hi,if_pos rfl] at hR
       cases hq6:AjQ l3.tail with
       |
        error er =>
        have hR2:R=.error er:=by rw [← hR,hq6];rfl
        subst hR2
        refine .inl (AbZ [0] ((AyX l3.tail z).thr hq6) (by decide) ?_ ?_ ?_ trivial)
        iterate 3 simp +contextual -implicitDefEqProofs only [q15,sm,seval,AhQ,AnY]
       |
        ok x =>
        obtain ⟨p,l6⟩:=x
        rw [hq6] at hR
        simp only [AbY] at hR
        refine .inr (AaX [0] ((AyX l3.tail z).ctr hq6) (by decide) ?_ ?_ ?_ ?_ ?_ ?_)
        iterate 6 simp +contextual -implicitDefEqProofs only [q15,sm,seval,AhQ,AnY]
        simp only [AiZ] at hR
        subst hR
        simp +contextual -implicitDefEqProofs only [q16,sm,seval,List.map_nil,List.map_cons,eRg,BmQ,h_ret]
        refine ⟨[0],by decide,rfl,?_,?_⟩
        · simp +contextual -implicitDefEqProofs only [q16,sm,seval,List.map_nil,List.map_cons,eRg]
        · simp +contextual -implicitDefEqProofs only [q16,sm,seval,AfY,List.map_nil,List.map_cons,eRg]
     have hi:isW [61] l3=false:=by simpa using hi
     rw [AnX hi,hi] at him
     refine .inr (AaX [0] him (by decide) ?_ ?_ ?_ ?_ ?_ ?_)
     iterate 6 simp +contextual -implicitDefEqProofs only [q15,sm,seval,AhQ]
     rw [hi,if_neg (by simp),AbY] at hR
     simp only [AiZ] at hR
     subst hR
     simp +contextual -implicitDefEqProofs only [q16,sm,seval,List.map_nil,List.map_cons,eRg,BmQ,h_ret]
     refine ⟨[0],by decide,rfl,?_,?_⟩
     · simp +contextual -implicitDefEqProofs only [q16,sm,seval,List.map_nil,List.map_cons,eRg]
     · simp +contextual -implicitDefEqProofs only [q16,sm,seval,AfY,List.map_nil,List.map_cons,eRg]
  |
   set r =>
   rw [domBx_set] at hdc
   have htk:((r.map sg).map eRg).take r.length=(r.map sg).map eRg:=List.take_of_length_le (by simp)
   refine .inr (AaX [0,2] hdc (by decide) ?_ ?_ ?_ ?_ ?_ ?_)
   iterate 6 simp +contextual -implicitDefEqProofs only [q15,sm,seval,AhQ]
   cases hq2:AeQ [[58]] l1 with
   |
    error er =>
    have hR2:R=.error er:=by rw [← hR,hq2];rfl
    subst hR2
    refine .inl (AbZ [0] ((AjY [[58]] l1 z (by decide)).thr hq2) (by decide) ?_ ?_ ?_ trivial)
    iterate 3 simp +contextual -implicitDefEqProofs only [q15,sm,seval,AhQ]
   |
    ok x =>
    obtain ⟨_,l2⟩:=x
    rw [hq2] at hR
    simp only [AbY] at hR
    refine .inr (AaX [0] ((AjY [[58]] l1 z (by decide)).ctr hq2) (by decide) ?_ ?_ ?_ ?_ ?_ ?_)
    iterate 6 simp +contextual -implicitDefEqProofs only [q15,sm,seval,AhQ]
    cases hq3:BiQ l2 with
    |
     error er =>
     have hR2:R=.error er:=by rw [← hR,hq3];rfl
     subst hR2
     refine .inl (AbZ [0] ((p_name l2 z).thr hq3) (by decide) ?_ ?_ ?_ trivial)
     iterate 3 simp +contextual -implicitDefEqProofs only [q15,sm,seval,AhQ]
    |
     ok x =>
     obtain ⟨n,l3⟩:=x
     rw [hq3] at hR
     simp only [AbY] at hR
     refine .inr (AaX [0] ((p_name l2 z).ctr hq3) (by decide) ?_ ?_ ?_ ?_ ?_ ?_)
     iterate 6 simp +contextual -implicitDefEqProofs only [q15,sm,seval,AhQ]
     rw [outP_def] at hR
     have hom:=BnY [58,58] l3 z
     by_cases ho:isW [58,58] l3=true
     · have hor:mayR [58,58] l3=l3.tail:=by unfold mayR;rw [ho];rfl
       rw [hor,ho] at hom
       refine .inr (AaX [0] hom (by decide) ?_ ?_ ?_ ?_ ?_ ?_)
       iterate 6 simp +contextual -implicitDefEqProofs only [q15,sm,seval,AhQ]
       rw [ho,if_pos rfl] at hR
       cases hq4:AeQ [[111,117,116,112,117,116,95,118,97,114]] l3.tail with
       |
        error er =>
        have hR2:R=.error er:=by rw [← hR,hq4];rfl
        subst hR2
        refine .inl (AbZ [0] ((AjY [[111,117,116,112,117,116,95,118,97,114]] l3.tail z (by decide)).thr hq4) (by decide) ?_ ?_ ?_ trivial)
        iterate 3 simp +contextual -implicitDefEqProofs only [q15,sm,seval,AhQ]
       |
        ok x =>
        obtain ⟨_,l4⟩:=x
        rw [hq4] at hR
        simp only [AbY] at hR
        refine .inr (AaX [0] ((AjY [[111,117,116,112,117,116,95,118,97,114]] l3.tail z (by decide)).ctr hq4) (by decide) ?_ ?_ ?_ ?_ ?_ ?_)
        iterate 6 simp +contextual -implicitDefEqProofs only [q15,sm,seval,AhQ]
        rw [initP_def] at hR
        have him:=BnY [61] l4 z
        by_cases hi:isW [61] l4=true
        · have hir:mayR [61] l4=l4.tail:=by unfold mayR;rw [hi];rfl
          rw [hir,hi] at him
          refine .inr (AaX [0] him (by decide) ?_ ?_ ?_ ?_ ?_ ?_)
          iterate 6 simp +contextual -implicitDefEqProofs only [q15,sm,seval,AhQ]
          rw [hi,if_pos rfl] at hR
          cases hq6:AjQ l4.tail with
          |
           error er =>
           have hR2:R=.error er:=by rw [← hR,hq6];rfl
           subst hR2
           refine .inl (AbZ [0] ((AyX l4.tail z).thr hq6) (by decide) ?_ ?_ ?_ trivial)
           iterate 3 simp +contextual -implicitDefEqProofs only [q15,sm,seval,AhQ,AnY]
          |
           ok x =>
           obtain ⟨p,l6⟩:=x
           rw [hq6] at hR
           simp only [AbY] at hR
           refine .inr (AaX [0] ((AyX l4.tail z).ctr hq6) (by decide) ?_ ?_ ?_ ?_ ?_ ?_)
           iterate 6 simp +contextual -implicitDefEqProofs only [q15,sm,seval,AhQ,AnY]
           simp only [AiZ] at hR
           subst hR
           simp +contextual -implicitDefEqProofs only [q16,sm,seval,List.map_nil,List.map_cons,BmQ,h_ret]
           refine ⟨[0],by decide,rfl,?_,?_⟩
           · simp +contextual -implicitDefEqProofs only [q16,sm,seval,List.map_nil,List.map_cons]
           · simp +contextual -implicitDefEqProofs only [q16,sm,seval,AfY,List.map_nil,List.map_cons,htk,AdQ]
        have hi:isW [61] l4=false:=by simpa using hi
        rw [AnX hi,hi] at him
        refine .inr (AaX [0] him (by decide) ?_ ?_ ?_ ?_ ?_ ?_)
        iterate 6 simp +contextual -implicitDefEqProofs only [q15,sm,seval,AhQ]
        rw [hi,if_neg (by simp),AbY] at hR
        simp only [AiZ] at hR
        subst hR
        simp +contextual -implicitDefEqProofs only [q16,sm,seval,List.map_nil,List.map_cons,BmQ,h_ret]
        refine ⟨[0],by decide,rfl,?_,?_⟩
        · simp +contextual -implicitDefEqProofs only [q16,sm,seval,List.map_nil,List.map_cons]
        · simp +contextual -implicitDefEqProofs only [q16,sm,seval,AfY,List.map_nil,List.map_cons,htk,AdQ]
     have ho:isW [58,58] l3=false:=by simpa using ho
     rw [AnX ho,ho] at hom
     refine .inr (AaX [0] hom (by decide) ?_ ?_ ?_ ?_ ?_ ?_)
     iterate 6 simp +contextual -implicitDefEqProofs only [q15,sm,seval,AhQ]
     rw [ho,if_neg (by simp),AbY] at hR
     rw [initP_def] at hR
     have him:=BnY [61] l3 z
     by_cases hi:isW [61] l3=true
     · have hir:mayR [61] l3=l3.tail:=by unfold mayR;rw [hi];rfl
       rw [hir,hi] at him
       refine .inr (AaX [0] him (by decide) ?_ ?_ ?_ ?_ ?_ ?_)
       iterate 6 simp +contextual -implicitDefEqProofs only [q15,sm,seval,AhQ]
       rw [hi,if_pos rfl] at hR
       cases hq6:AjQ l3.tail with
       |
        error er =>
        have hR2:R=.error er:=by rw [← hR,hq6];rfl
        subst hR2
        refine .inl (AbZ [0] ((AyX l3.tail z).thr hq6) (by decide) ?_ ?_ ?_ trivial)
        iterate 3 simp +contextual -implicitDefEqProofs only [q15,sm,seval,AhQ,AnY]
       |
        ok x =>
        obtain ⟨p,l6⟩:=x
        rw [hq6] at hR
        simp only [AbY] at hR
        refine .inr (AaX [0] ((AyX l3.tail z).ctr hq6) (by decide) ?_ ?_ ?_ ?_ ?_ ?_)
        iterate 6 simp +contextual -implicitDefEqProofs only [q15,sm,seval,AhQ,AnY]
        simp only [AiZ] at hR
        subst hR
        simp +contextual -implicitDefEqProofs only [q16,sm,seval,List.map_nil,List.map_cons,BmQ,h_ret]
        refine ⟨[0],by decide,rfl,?_,?_⟩
        · simp +contextual -implicitDefEqProofs only [q16,sm,seval,List.map_nil,List.map_cons]
        · simp +contextual -implicitDefEqProofs only [q16,sm,seval,AfY,List.map_nil,List.map_cons,htk,AdQ]
     have hi:isW [61] l3=false:=by simpa using hi
     rw [AnX hi,hi] at him
     refine .inr (AaX [0] him (by decide) ?_ ?_ ?_ ?_ ?_ ?_)
     iterate 6 simp +contextual -implicitDefEqProofs only [q15,sm,seval,AhQ]
     rw [hi,if_neg (by simp),AbY] at hR
     simp only [AiZ] at hR
     subst hR
     simp +contextual -implicitDefEqProofs only [q16,sm,seval,List.map_nil,List.map_cons,BmQ,h_ret]
     refine ⟨[0],by decide,rfl,?_,?_⟩
     · simp +contextual -implicitDefEqProofs only [q16,sm,seval,List.map_nil,List.map_cons]
     · simp +contextual -implicitDefEqProofs only [q16,sm,seval,AfY,List.map_nil,List.map_cons,htk,AdQ]
  |
   rng lo hi =>
   rw [domBx_rng] at hdc
   refine .inr (AaX [0,2] hdc (by decide) ?_ ?_ ?_ ?_ ?_ ?_)
   iterate 6 simp +contextual -implicitDefEqProofs only [q15,sm,seval,AhQ,eRg]
   cases hq2:AeQ [[58]] l1 with
   |
    error er =>
    have hR2:R=.error er:=by rw [← hR,hq2];rfl
    subst hR2
    refine .inl (AbZ [0] ((AjY [[58]] l1 z (by decide)).thr hq2) (by decide) ?_ ?_ ?_ trivial)
    iterate 3 simp +contextual -implicitDefEqProofs only [q15,sm,seval,AhQ]
   |
    ok x =>
    obtain ⟨_,l2⟩:=x
    rw [hq2] at hR
    simp only [AbY] at hR
    refine .inr (AaX [0] ((AjY [[58]] l1 z (by decide)).ctr hq2) (by decide) ?_ ?_ ?_ ?_ ?_ ?_)
    iterate 6 simp +contextual -implicitDefEqProofs only [q15,sm,seval,AhQ]
    cases hq3:BiQ l2 with
    |
     error er =>
     have hR2:R=.error er:=by rw [← hR,hq3];rfl
     subst hR2
     refine .inl (AbZ [0] ((p_name l2 z).thr hq3) (by decide) ?_ ?_ ?_ trivial)
     iterate 3 simp +contextual -implicitDefEqProofs only [q15,sm,seval,AhQ]
    |
     ok x =>
     obtain ⟨n,l3⟩:=x
     rw [hq3] at hR
     simp only [AbY] at hR
     refine .inr (AaX [0] ((p_name l2 z).ctr hq3) (by decide) ?_ ?_ ?_ ?_ ?_ ?_)
     iterate 6 simp +contextual -implicitDefEqProofs only [q15,sm,seval,AhQ]
     rw [outP_def] at hR
     have hom:=BnY [58,58] l3 z
     by_cases ho:isW [58,58] l3=true
     · have hor:mayR [58,58] l3=l3.tail:=by unfold mayR;rw [ho];rfl
       rw [hor,ho] at hom
       refine .inr (AaX [0] hom (by decide) ?_ ?_ ?_ ?_ ?_ ?_)
       iterate 6 simp +contextual -implicitDefEqProofs only [q15,sm,seval,AhQ]
       rw [ho,if_pos rfl] at hR
       cases hq4:AeQ [[111,117,116,112,117,116,95,118,97,114]] l3.tail with
       |
        error er =>
        have hR2:R=.error er:=by rw [← hR,hq4];rfl
        subst hR2
        refine .inl (AbZ [0] ((AjY [[111,117,116,112,117,116,95,118,97,114]] l3.tail z (by decide)).thr hq4) (by decide) ?_ ?_ ?_ trivial)
        iterate 3 simp +contextual -implicitDefEqProofs only [q15,sm,seval,AhQ]
       |
        ok x =>
        obtain ⟨_,l4⟩:=x
        rw [hq4] at hR
        simp only [AbY] at hR
        refine .inr (AaX [0] ((AjY [[111,117,116,112,117,116,95,118,97,114]] l3.tail z (by decide)).ctr hq4) (by decide) ?_ ?_ ?_ ?_ ?_ ?_)
        iterate 6 simp +contextual -implicitDefEqProofs only [q15,sm,seval,AhQ]
        rw [initP_def] at hR
        have him:=BnY [61] l4 z
        by_cases hi:isW [61] l4=true
        · have hir:mayR [61] l4=l4.tail:=by unfold mayR;rw [hi];rfl
          rw [hir,hi] at him
          refine .inr (AaX [0] him (by decide) ?_ ?_ ?_ ?_ ?_ ?_)
          iterate 6 simp +contextual -implicitDefEqProofs only [q15,sm,seval,AhQ]
          rw [hi,if_pos rfl] at hR
          cases hq6:AjQ l4.tail with
          |
           error er =>
           have hR2:R=.error er:=by rw [← hR,hq6];rfl
           subst hR2
           refine .inl (AbZ [0] ((AyX l4.tail z).thr hq6) (by decide) ?_ ?_ ?_ trivial)
           iterate 3 simp +contextual -implicitDefEqProofs only [q15,sm,seval,AhQ,AnY]
          |
           ok x =>
           obtain ⟨p,l6⟩:=x
           rw [hq6] at hR
           simp only [AbY] at hR
           refine .inr (AaX [0] ((AyX l4.tail z).ctr hq6) (by decide) ?_ ?_ ?_ ?_ ?_ ?_)
           iterate 6 simp +contextual -implicitDefEqProofs only [q15,sm,seval,AhQ,AnY]
           simp only [AiZ] at hR
           subst hR
           simp +contextual -implicitDefEqProofs only [q16,sm,seval,List.map_nil,List.map_cons,eRg,BmQ,h_ret]
           refine ⟨[0],by decide,rfl,?_,?_⟩
           · simp +contextual -implicitDefEqProofs only [q16,sm,seval,List.map_nil,List.map_cons,eRg]
           · simp +contextual -implicitDefEqProofs only [q16,sm,seval,AfY,List.map_nil,List.map_cons,eRg]
        have hi:isW [61] l4=false:=by simpa using hi
        rw [AnX hi,hi] at him
        refine .inr (AaX [0] him (by decide) ?_ ?_ ?_ ?_ ?_ ?_)
        iterate 6 simp +contextual -implicitDefEqProofs only [q15,sm,seval,AhQ]
        rw [hi,if_neg (by simp),AbY] at hR
        simp only [AiZ] at hR
        subst hR
        simp +contextual -implicitDefEqProofs only [q16,sm,seval,List.map_nil,List.map_cons,eRg,BmQ,h_ret]
        refine ⟨[0],by decide,rfl,?_,?_⟩
        · simp +contextual -implicitDefEqProofs only [q16,sm,seval,List.map_nil,List.map_cons,eRg]
        · simp +contextual -implicitDefEqProofs only [q16,sm,seval,AfY,List.map_nil,List.map_cons,eRg]
     have ho:isW [58,58] l3=false:=by simpa using ho
     rw [AnX ho,ho] at hom
     refine .inr (AaX [0] hom (by decide) ?_ ?_ ?_ ?_ ?_ ?_)
     iterate 6 simp +contextual -implicitDefEqProofs only [q15,sm,seval,AhQ]
     rw [ho,if_neg (by simp),AbY] at hR
     rw [initP_def] at hR
     have him:=BnY [61] l3 z
     by_cases hi:isW [61] l3=true
     · have hir:mayR [61] l3=l3.tail:=by unfold mayR;rw [hi];rfl
       rw [hir,hi] at him
       refine .inr (AaX [0] him (by decide) ?_ ?_ ?_ ?_ ?_ ?_)
       iterate 6 simp +contextual -implicitDefEqProofs only [q15,sm,seval,AhQ]
       rw [hi,if_pos rfl] at hR
       cases hq6:AjQ l3.tail with
       |
        error er =>
        have hR2:R=.error er:=by rw [← hR,hq6];rfl
        subst hR2
        refine .inl (AbZ [0] ((AyX l3.tail z).thr hq6) (by decide) ?_ ?_ ?_ trivial)
        iterate 3 simp +contextual -implicitDefEqProofs only [q15,sm,seval,AhQ,AnY]
       |
        ok x =>
        obtain ⟨p,l6⟩:=x
        rw [hq6] at hR
        simp only [AbY] at hR
        refine .inr (AaX [0] ((AyX l3.tail z).ctr hq6) (by decide) ?_ ?_ ?_ ?_ ?_ ?_)
        iterate 6 simp +contextual -implicitDefEqProofs only [q15,sm,seval,AhQ,AnY]
        simp only [AiZ] at hR
        subst hR
        simp +contextual -implicitDefEqProofs only [q16,sm,seval,List.map_nil,List.map_cons,eRg,BmQ,h_ret]
        refine ⟨[0],by decide,rfl,?_,?_⟩
        · simp +contextual -implicitDefEqProofs only [q16,sm,seval,List.map_nil,List.map_cons,eRg]
        · simp +contextual -implicitDefEqProofs only [q16,sm,seval,AfY,List.map_nil,List.map_cons,eRg]
     have hi:isW [61] l3=false:=by simpa using hi
     rw [AnX hi,hi] at him
     refine .inr (AaX [0] him (by decide) ?_ ?_ ?_ ?_ ?_ ?_)
     iterate 6 simp +contextual -implicitDefEqProofs only [q15,sm,seval,AhQ]
     rw [hi,if_neg (by simp),AbY] at hR
     simp only [AiZ] at hR
     subst hR
     simp +contextual -implicitDefEqProofs only [q16,sm,seval,List.map_nil,List.map_cons,eRg,BmQ,h_ret]
     refine ⟨[0],by decide,rfl,?_,?_⟩
     · simp +contextual -implicitDefEqProofs only [q16,sm,seval,List.map_nil,List.map_cons,eRg]
     · simp +contextual -implicitDefEqProofs only [q16,sm,seval,AfY,List.map_nil,List.map_cons,eRg]
end Go.Proofs.YtcmphhedaefcgaaGreatDoor
end
section
namespace Go.Proofs.YtcmphhedaefcgaaGreatDoor
open Av
attribute [local irreducible] awp AbX
attribute [local irreducible] awX opX
set_option maxRecDepth 100000
set_option maxHeartbeats 4000000
theorem q17:((((type_of% @eB_eq)∧((type_of% @eI64_eq)∧(type_of% @eL_Ex_eq)))∧((type_of% @eL_Pe_eq)∧((type_of% @BhX)∧(type_of% @BdZ))))∧(((type_of% @eU_eq)∧((type_of% @AeY)∧(type_of% @AxZ)))∧((type_of% @pR_eq)∧((type_of% @AgZ)∧(type_of% @wkN_str))))):=⟨⟨⟨@eB_eq,⟨@eI64_eq,@eL_Ex_eq⟩⟩,⟨@eL_Pe_eq,⟨@BhX,@BdZ⟩⟩⟩,⟨⟨@eU_eq,⟨@AeY,@AxZ⟩⟩,⟨@pR_eq,⟨@AgZ,@wkN_str⟩⟩⟩⟩
theorem outAP_def (v:Bool) (size:Int) (l:List Tok):outAP v size l=if (v && isW [58,58] l)=true then andP (AeQ [[111,117,116,112,117,116,95,97,114,114,97,121],[40],[91]] l.tail) fun _ l1=>andP (BmY 1 l1) fun _ l2=>andP (AeQ [[46,46]] l2) fun _ l3=>andP (BmY size l3) fun _ l4=>andP (AeQ [[93],[41]] l4) fun _ l5=>.ok (true,l5)
 else .ok (false,l):=rfl
theorem p_array (l:List Tok) (z:Int):Pd 54 [] l z eIt (arrayP l):=by
 refine BeX Tryz.func54 Tryz.call54 e_parse_parser_array ?_
 generalize hR:outR eIt z (arrayP l)=R
 unfold arrayP at hR
 simp +contextual -implicitDefEqProofs only [sm,c_parse_parser_array,AgZ,seval]
 cases hq1:AeQ [[91]] l with
 |
  error er =>
  have hR2:R=.error er:=by rw [← hR,hq1];rfl
  subst hR2
  refine .inl (AbZ [0] ((AjY [[91]] l z (by decide)).thr hq1) (by decide) ?_ ?_ ?_ trivial)
  iterate 3 simp +contextual -implicitDefEqProofs only [q17,sm,seval]
 |
  ok x =>
  obtain ⟨_,l1⟩:=x
  rw [hq1] at hR
  simp only [AbY] at hR
  refine .inr (AaX [0] ((AjY [[91]] l z (by decide)).ctr hq1) (by decide) ?_ ?_ ?_ ?_ ?_ ?_)
  iterate 6 simp +contextual -implicitDefEqProofs only [q17,sm,seval]
  cases hq2:BmY 1 l1 with
  |
   error er =>
   have hR2:R=.error er:=by rw [← hR,hq2];rfl
   subst hR2
   refine .inl (AbZ [0] ((p_exact 1 l1 z).thr hq2) (by decide) ?_ ?_ ?_ trivial)
   iterate 3 simp +contextual -implicitDefEqProofs only [q17,sm,seval]
  |
   ok x =>
   obtain ⟨_,l2⟩:=x
   rw [hq2] at hR
   simp only [AbY] at hR
   refine .inr (AaX [0] ((p_exact 1 l1 z).ctr hq2) (by decide) ?_ ?_ ?_ ?_ ?_ ?_)
   iterate 6 simp +contextual -implicitDefEqProofs only [q17,sm,seval]
   cases hq3:AeQ [[46,46]] l2 with
   |
    error er =>
    have hR2:R=.error er:=by rw [← hR,hq3];rfl
    subst hR2
    refine .inl (AbZ [0] ((AjY [[46,46]] l2 z (by decide)).thr hq3) (by decide) ?_ ?_ ?_ trivial)
    iterate 3 simp +contextual -implicitDefEqProofs only [q17,sm,seval]
   |
    ok x =>
    obtain ⟨_,l3⟩:=x
    rw [hq3] at hR
    simp only [AbY] at hR
    refine .inr (AaX [0] ((AjY [[46,46]] l2 z (by decide)).ctr hq3) (by decide) ?_ ?_ ?_ ?_ ?_ ?_)
    iterate 6 simp +contextual -implicitDefEqProofs only [q17,sm,seval]
    cases hq4:numP l3 with
    |
     error er =>
     have hR2:R=.error er:=by rw [← hR,hq4];rfl
     subst hR2
     refine .inl (AbZ [0] ((p_number l3 z).thr hq4) (by decide) ?_ ?_ ?_ trivial)
     iterate 3 simp +contextual -implicitDefEqProofs only [q17,sm,seval]
    |
     ok x =>
     obtain ⟨size,l4⟩:=x
     rw [hq4] at hR
     simp only [AbY] at hR
     refine .inr (AaX [0] ((p_number l3 z).ctr hq4) (by decide) ?_ ?_ ?_ ?_ ?_ ?_)
     iterate 6 simp +contextual -implicitDefEqProofs only [q17,sm,seval]
     cases hq5:AeQ [[93],[111,102]] l4 with
     |
      error er =>
      have hR2:R=.error er:=by rw [← hR,hq5];rfl
      subst hR2
      refine .inl (AbZ [0] ((AjY [[93],[111,102]] l4 z (by decide)).thr hq5) (by decide) ?_ ?_ ?_ trivial)
      iterate 3 simp +contextual -implicitDefEqProofs only [q17,sm,seval]
     |
      ok x =>
      obtain ⟨_,l5⟩:=x
      rw [hq5] at hR
      simp only [AbY] at hR
      refine .inr (AaX [0] ((AjY [[93],[111,102]] l4 z (by decide)).ctr hq5) (by decide) ?_ ?_ ?_ ?_ ?_ ?_)
      iterate 6 simp +contextual -implicitDefEqProofs only [q17,sm,seval]
      have hvm:=BnY [118,97,114] l5 z
      by_cases hv:isW [118,97,114] l5=true
      · have hvr:mayR [118,97,114] l5=l5.tail:=by unfold mayR;rw [hv];rfl
        rw [hvr,hv] at hvm
        refine .inr (AaX [0] hvm (by decide) ?_ ?_ ?_ ?_ ?_ ?_)
        iterate 6 simp +contextual -implicitDefEqProofs only [q17,sm,seval]
        rw [hv,hvr] at hR
        simp only [if_true] at hR
        cases hq6:truthP l5.tail with
        |
         error er =>
         have hR2:R=.error er:=by rw [← hR,hq6];rfl
         subst hR2
         refine .inl (AbZ [0] ((p_truth l5.tail z).thr hq6) (by decide) ?_ ?_ ?_ trivial)
         iterate 3 simp +contextual -implicitDefEqProofs only [q17,sm,seval]
        |
         ok x =>
         obtain ⟨b,l6⟩:=x
         rw [hq6] at hR
         simp only [AbY] at hR
         refine .inr (AaX [0] ((p_truth l5.tail z).ctr hq6) (by decide) ?_ ?_ ?_ ?_ ?_ ?_)
         iterate 6 simp +contextual -implicitDefEqProofs only [q17,sm,seval]
         cases hq7:AeQ [[58]] l6 with
         |
          error er =>
          have hR2:R=.error er:=by rw [← hR,hq7];rfl
          subst hR2
          refine .inl (AbZ [0] ((AjY [[58]] l6 z (by decide)).thr hq7) (by decide) ?_ ?_ ?_ trivial)
          iterate 3 simp +contextual -implicitDefEqProofs only [q17,sm,seval]
         |
          ok x =>
          obtain ⟨_,l7⟩:=x
          rw [hq7] at hR
          simp only [AbY] at hR
          refine .inr (AaX [0] ((AjY [[58]] l6 z (by decide)).ctr hq7) (by decide) ?_ ?_ ?_ ?_ ?_ ?_)
          iterate 6 simp +contextual -implicitDefEqProofs only [q17,sm,seval]
          cases hq8:BiQ l7 with
          |
           error er =>
           have hR2:R=.error er:=by rw [← hR,hq8];rfl
           subst hR2
           refine .inl (AbZ [0] ((p_name l7 z).thr hq8) (by decide) ?_ ?_ ?_ trivial)
           iterate 3 simp +contextual -implicitDefEqProofs only [q17,sm,seval]
          |
           ok x =>
           obtain ⟨n,l8⟩:=x
           rw [hq8] at hR
           simp only [AbY] at hR
           refine .inr (AaX [0] ((p_name l7 z).ctr hq8) (by decide) ?_ ?_ ?_ ?_ ?_ ?_)
           iterate 6 simp +contextual -implicitDefEqProofs only [q17,sm,seval]
           rw [outAP_def] at hR
           have hom:=BnY [58,58] l8 z
           by_cases ho:isW [58,58] l8=true
           · have hor:mayR [58,58] l8=l8.tail:=by unfold mayR;rw [ho];rfl
             rw [hor,ho] at hom
             refine (AaX [0] hom (by decide) ?_ ?_ ?_ ?_ ?_ ?_)
             iterate 6 simp +contextual -implicitDefEqProofs only [q17,sm,seval]
             rw [ho] at hR
             simp only [Bool.true_and,if_true] at hR
             cases hm1:AeQ [[111,117,116,112,117,116,95,97,114,114,97,121],[40],[91]] l8.tail with
             |
              error er =>
              have hR2:R=.error er:=by rw [← hR,hm1];rfl
              subst hR2
              refine .inl (AbZ [0] ((AjY [[111,117,116,112,117,116,95,97,114,114,97,121],[40],[91]] l8.tail z (by decide)).thr hm1) (by decide) ?_ ?_ ?_ trivial)
              iterate 3 simp +contextual -implicitDefEqProofs only [q17,sm,seval]
             |
              ok x =>
              obtain ⟨_,m1⟩:=x
              rw [hm1] at hR
              simp only [AbY] at hR
              refine .inr (AaX [0] ((AjY [[111,117,116,112,117,116,95,97,114,114,97,121],[40],[91]] l8.tail z (by decide)).ctr hm1) (by decide) ?_ ?_ ?_ ?_ ?_ ?_)
              iterate 6 simp +contextual -implicitDefEqProofs only [q17,sm,seval]
              cases hm2:BmY 1 m1 with
              |
               error er =>
               have hR2:R=.error er:=by rw [← hR,hm2];rfl
               subst hR2
               refine .inl (AbZ [0] ((p_exact 1 m1 z).thr hm2) (by decide) ?_ ?_ ?_ trivial)
               iterate 3 simp +contextual -implicitDefEqProofs only [q17,sm,seval]
              |
               ok x =>
               obtain ⟨_,m2⟩:=x
               rw [hm2] at hR
               simp only [AbY] at hR
               refine .inr (AaX [0] ((p_exact 1 m1 z).ctr hm2) (by decide) ?_ ?_ ?_ ?_ ?_ ?_)
               iterate 6 simp +contextual -implicitDefEqProofs only [q17,sm,seval]
               cases hm3:AeQ [[46,46]] m2 with
               |
                error er =>
                have hR2:R=.error er:=by rw [← hR,hm3];rfl
                subst hR2
                refine .inl (AbZ [0] ((AjY [[46,46]] m2 z (by decide)).thr hm3) (by decide) ?_ ?_ ?_ trivial)
                iterate 3 simp +contextual -implicitDefEqProofs only [q17,sm,seval]
               |
                ok x =>
                obtain ⟨_,m3⟩:=x
                rw [hm3] at hR
                simp only [AbY] at hR
                refine .inr (AaX [0] ((AjY [[46,46]] m2 z (by decide)).ctr hm3) (by decide) ?_ ?_ ?_ ?_ ?_ ?_)
                iterate 6 simp +contextual -implicitDefEqProofs only [q17,sm,seval]
                cases hm4:BmY size m3 with
                |
                 error er =>
                 have hR2:R=.error er:=by rw [← hR,hm4];rfl
                 subst hR2
                 refine .inl (AbZ [0] ((p_exact size m3 z).thr hm4) (by decide) ?_ ?_ ?_ trivial)
                 iterate 3 simp +contextual -implicitDefEqProofs only [q17,sm,seval]
                |
                 ok x =>
                 obtain ⟨_,m4⟩:=x
                 rw [hm4] at hR
                 simp only [AbY] at hR
                 refine .inr (AaX [0] ((p_exact size m3 z).ctr hm4) (by decide) ?_ ?_ ?_ ?_ ?_ ?_)
                 iterate 6 simp +contextual -implicitDefEqProofs only [q17,sm,seval]
                 cases hm5:AeQ [[93],[41]] m4 with
                 |
                  error er =>
                  have hR2:R=.error er:=by rw [← hR,hm5];rfl
                  subst hR2
                  refine .inl (AbZ [0] ((AjY [[93],[41]] m4 z (by decide)).thr hm5) (by decide) ?_ ?_ ?_ trivial)
                  iterate 3 simp +contextual -implicitDefEqProofs only [q17,sm,seval]
                 |
                  ok x =>
                  obtain ⟨_,l9⟩:=x
                  rw [hm5] at hR
                  simp only [AbY] at hR
                  refine .inr (AaX [0] ((AjY [[93],[41]] m4 z (by decide)).ctr hm5) (by decide) ?_ ?_ ?_ ?_ ?_ ?_)
                  iterate 6 simp +contextual -implicitDefEqProofs only [q17,sm,seval]
                  cases hq10:AeQ [[61],[91]] l9 with
                  |
                   error er =>
                   have hR2:R=.error er:=by rw [← hR,hq10];rfl
                   subst hR2
                   refine .inl (AbZ [0] ((AjY [[61],[91]] l9 z (by decide)).thr hq10) (by decide) ?_ ?_ ?_ trivial)
                   iterate 3 simp +contextual -implicitDefEqProofs only [q17,sm,seval]
                  |
                   ok x =>
                   obtain ⟨_,l10⟩:=x
                   rw [hq10] at hR
                   simp only [AbY] at hR
                   refine .inr (AaX [0] ((AjY [[61],[91]] l9 z (by decide)).ctr hq10) (by decide) ?_ ?_ ?_ ?_ ?_ ?_)
                   iterate 6 simp +contextual -implicitDefEqProofs only [q17,sm,seval]
                   cases hq11:BdY AjQ [93] l10 with
                   |
                    error er =>
                    have hR2:R=.error er:=by rw [← hR,hq11];rfl
                    subst hR2
                    refine .inl (AbZ [0] ((BrQ [93] l10 z).thr hq11) (by decide) ?_ ?_ ?_ trivial)
                    iterate 3 simp +contextual -implicitDefEqProofs only [q17,sm,seval]
                   |
                    ok x =>
                    obtain ⟨v,l11⟩:=x
                    rw [hq11] at hR
                    simp only [AbY] at hR
                    refine .inr (AaX [0] ((BrQ [93] l10 z).ctr hq11) (by decide) ?_ ?_ ?_ ?_ ?_ ?_)
                    iterate 6 simp +contextual -implicitDefEqProofs only [q17,sm,seval]
                    simp only [AiZ] at hR
                    subst hR
                    simp +contextual -implicitDefEqProofs only [q17,sm,seval,AaZ,List.map_nil,List.map_cons,eEx_ex,AnY,Pe_map,if_true,if_false,AoQ]
                    refine ⟨[],[0],by decide,rfl,?_⟩
                    simp +contextual -implicitDefEqProofs only [q17,sm,seval,AaZ,List.map_nil,List.map_cons,eEx_ex,AnY,Pe_map,if_true,if_false]
           have ho:isW [58,58] l8=false:=by simpa using ho
           rw [AnX ho,ho] at hom
           refine (AaX [0] hom (by decide) ?_ ?_ ?_ ?_ ?_ ?_)
           iterate 6 simp +contextual -implicitDefEqProofs only [q17,sm,seval]
           rw [ho] at hR
           simp only [Bool.and_false,Bool.false_eq_true,if_false,AbY] at hR
           cases hq10:AeQ [[61],[91]] l8 with
           |
            error er =>
            have hR2:R=.error er:=by rw [← hR,hq10];rfl
            subst hR2
            refine .inl (AbZ [0] ((AjY [[61],[91]] l8 z (by decide)).thr hq10) (by decide) ?_ ?_ ?_ trivial)
            iterate 3 simp +contextual -implicitDefEqProofs only [q17,sm,seval]
           |
            ok x =>
            obtain ⟨_,l10⟩:=x
            rw [hq10] at hR
            simp only [AbY] at hR
            refine .inr (AaX [0] ((AjY [[61],[91]] l8 z (by decide)).ctr hq10) (by decide) ?_ ?_ ?_ ?_ ?_ ?_)
            iterate 6 simp +contextual -implicitDefEqProofs only [q17,sm,seval]
            cases hq11:BdY AjQ [93] l10 with
            |
             error er =>
             have hR2:R=.error er:=by rw [← hR,hq11];rfl
             subst hR2
             refine .inl (AbZ [0] ((BrQ [93] l10 z).thr hq11) (by decide) ?_ ?_ ?_ trivial)
             iterate 3 simp +contextual -implicitDefEqProofs only [q17,sm,seval]
            |
             ok x =>
             obtain ⟨v,l11⟩:=x
             rw [hq11] at hR
             simp only [AbY] at hR
             refine .inr (AaX [0] ((BrQ [93] l10 z).ctr hq11) (by decide) ?_ ?_ ?_ ?_ ?_ ?_)
             iterate 6 simp +contextual -implicitDefEqProofs only [q17,sm,seval]
             simp only [AiZ] at hR
             subst hR
             simp +contextual -implicitDefEqProofs only [q17,sm,seval,AaZ,List.map_nil,List.map_cons,eEx_ex,AnY,Pe_map,if_true,if_false,AoQ]
             refine ⟨[],[0],by decide,rfl,?_⟩
             simp +contextual -implicitDefEqProofs only [q17,sm,seval,AaZ,List.map_nil,List.map_cons,eEx_ex,AnY,Pe_map,if_true,if_false]
      have hv:isW [118,97,114] l5=false:=by simpa using hv
      rw [AnX hv,hv] at hvm
      refine .inr (AaX [0] hvm (by decide) ?_ ?_ ?_ ?_ ?_ ?_)
      iterate 6 simp +contextual -implicitDefEqProofs only [q17,sm,seval]
      rw [hv,AnX hv] at hR
      simp only [Bool.false_eq_true,if_false] at hR
      cases hq6:truthP l5 with
      |
       error er =>
       have hR2:R=.error er:=by rw [← hR,hq6];rfl
       subst hR2
       refine .inl (AbZ [0] ((p_truth l5 z).thr hq6) (by decide) ?_ ?_ ?_ trivial)
       iterate 3 simp +contextual -implicitDefEqProofs only [q17,sm,seval]
      |
       ok x =>
       obtain ⟨b,l6⟩:=x
       rw [hq6] at hR
       simp only [AbY] at hR
       refine .inr (AaX [0] ((p_truth l5 z).ctr hq6) (by decide) ?_ ?_ ?_ ?_ ?_ ?_)
       iterate 6 simp +contextual -implicitDefEqProofs only [q17,sm,seval]
       cases hq7:AeQ [[58]] l6 with
       |
        error er =>
        have hR2:R=.error er:=by rw [← hR,hq7];rfl
        subst hR2
        refine .inl (AbZ [0] ((AjY [[58]] l6 z (by decide)).thr hq7) (by decide) ?_ ?_ ?_ trivial)
        iterate 3 simp +contextual -implicitDefEqProofs only [q17,sm,seval]
       |
        ok x =>
        obtain ⟨_,l7⟩:=x
        rw [hq7] at hR
        simp only [AbY] at hR
        refine .inr (AaX [0] ((AjY [[58]] l6 z (by decide)).ctr hq7) (by decide) ?_ ?_ ?_ ?_ ?_ ?_)
        iterate 6 simp +contextual -implicitDefEqProofs only [q17,sm,seval]
        cases hq8:BiQ l7 with
        |
         error er =>
         have hR2:R=.error er:=by rw [← hR,hq8];rfl
         subst hR2
         refine .inl (AbZ [0] ((p_name l7 z).thr hq8) (by decide) ?_ ?_ ?_ trivial)
         iterate 3 simp +contextual -implicitDefEqProofs only [q17,sm,seval]
        |
         ok x =>
         obtain ⟨n,l8⟩:=x
         rw [hq8] at hR
         simp only [AbY] at hR
         refine .inr (AaX [0] ((p_name l7 z).ctr hq8) (by decide) ?_ ?_ ?_ ?_ ?_ ?_)
         iterate 6 simp +contextual -implicitDefEqProofs only [q17,sm,seval]
         rw [outAP_def] at hR
         simp only [Bool.false_and,Bool.false_eq_true,if_false,AbY] at hR
         cases hq10:AeQ [[61],[91]] l8 with
         |
          error er =>
          have hR2:R=.error er:=by rw [← hR,hq10];rfl
          subst hR2
          refine .inl (AbZ [0] ((AjY [[61],[91]] l8 z (by decide)).thr hq10) (by decide) ?_ ?_ ?_ trivial)
          iterate 3 simp +contextual -implicitDefEqProofs only [q17,sm,seval]
         |
          ok x =>
          obtain ⟨_,l10⟩:=x
          rw [hq10] at hR
          simp only [AbY] at hR
          refine .inr (AaX [0] ((AjY [[61],[91]] l8 z (by decide)).ctr hq10) (by decide) ?_ ?_ ?_ ?_ ?_ ?_)
          iterate 6 simp +contextual -implicitDefEqProofs only [q17,sm,seval]
          cases hq11:BdY AjQ [93] l10 with
          |
           error er =>
           have hR2:R=.error er:=by rw [← hR,hq11];rfl
           subst hR2
           refine .inl (AbZ [0] ((BrQ [93] l10 z).thr hq11) (by decide) ?_ ?_ ?_ trivial)
           iterate 3 simp +contextual -implicitDefEqProofs only [q17,sm,seval]
          |
           ok x =>
           obtain ⟨v,l11⟩:=x
           rw [hq11] at hR
           simp only [AbY] at hR
           refine .inr (AaX [0] ((BrQ [93] l10 z).ctr hq11) (by decide) ?_ ?_ ?_ ?_ ?_ ?_)
           iterate 6 simp +contextual -implicitDefEqProofs only [q17,sm,seval]
           simp only [AiZ] at hR
           subst hR
           simp +contextual -implicitDefEqProofs only [q17,sm,seval,AaZ,List.map_nil,List.map_cons,eEx_ex,AnY,Pe_map,if_true,if_false,AoQ]
           refine ⟨[],[0],by decide,rfl,?_⟩
           simp +contextual -implicitDefEqProofs only [q17,sm,seval,AaZ,List.map_nil,List.map_cons,eEx_ex,AnY,Pe_map,if_true,if_false]
theorem p_item (l:List Tok) (z:Int):Pd 24 [] l z eIt (itemP l):=by
 refine BeX Tryz.func24 Tryz.call24 e_parse_parser_item ?_
 generalize hR:outR eIt z (itemP l)=R
 unfold itemP at hR
 simp +contextual -implicitDefEqProofs only [sm,c_parse_parser_item,AgZ,seval]
 have hii:=p_is [105,110,116] l z
 have hib:=p_is [98,111,111,108] l z
 by_cases ht:isW [105,110,116] l=true
 · rw [ht] at hii hR
   simp only [Bool.true_or,if_true] at hR
   refine AfZ hii ?_ rfl ?_
   iterate 2 simp +contextual -implicitDefEqProofs only [q17,sm,seval]
   cases hq9:parP l with
   |
    error er =>
    rw [hq9,BrX] at hR
    subst hR
    refine .inl (AbZ [0] ((p_par l z).thr hq9) (by decide) ?_ ?_ ?_ trivial)
    iterate 3 simp +contextual -implicitDefEqProofs only [q17,sm,seval]
   |
    ok x =>
    obtain ⟨x,l1⟩:=x
    rw [hq9] at hR
    refine .inr (AaX [0] ((p_par l z).ctr hq9) (by decide) ?_ ?_ ?_ ?_ ?_ ?_)
    iterate 3 simp +contextual -implicitDefEqProofs only [q17,sm,seval]
    · simp +contextual -implicitDefEqProofs only [q17,sm,seval,AaZ]
    · simp +contextual -implicitDefEqProofs only [q17,sm,seval]
    simp +contextual -implicitDefEqProofs only [q17,sm,seval,AaZ]
    simp only [AiZ] at hR
    subst hR
    simp +contextual -implicitDefEqProofs only [q17,sm,seval,AaZ,AoQ]
    refine ⟨[],[0],by decide,rfl,?_⟩
    simp +contextual -implicitDefEqProofs only [q17,sm,seval,AaZ]
 have ht:isW [105,110,116] l=false:=by simpa using ht
 rw [ht] at hii hR
 refine AfZ hii ?_ rfl ?_
 iterate 2 simp +contextual -implicitDefEqProofs only [q17,sm,seval]
 by_cases hf:isW [98,111,111,108] l=true
 · rw [hf] at hib hR
   simp only [Bool.or_true,if_true] at hR
   refine AfZ hib ?_ rfl ?_
   iterate 2 simp +contextual -implicitDefEqProofs only [q17,sm,seval]
   cases hq9:parP l with
   |
    error er =>
    rw [hq9,BrX] at hR
    subst hR
    refine .inl (AbZ [0] ((p_par l z).thr hq9) (by decide) ?_ ?_ ?_ trivial)
    iterate 3 simp +contextual -implicitDefEqProofs only [q17,sm,seval]
   |
    ok x =>
    obtain ⟨x,l1⟩:=x
    rw [hq9] at hR
    refine .inr (AaX [0] ((p_par l z).ctr hq9) (by decide) ?_ ?_ ?_ ?_ ?_ ?_)
    iterate 3 simp +contextual -implicitDefEqProofs only [q17,sm,seval]
    · simp +contextual -implicitDefEqProofs only [q17,sm,seval,AaZ]
    · simp +contextual -implicitDefEqProofs only [q17,sm,seval]
    simp +contextual -implicitDefEqProofs only [q17,sm,seval,AaZ]
    simp only [AiZ] at hR
    subst hR
    simp +contextual -implicitDefEqProofs only [q17,sm,seval,AaZ,AoQ]
    refine ⟨[],[0],by decide,rfl,?_⟩
    simp +contextual -implicitDefEqProofs only [q17,sm,seval,AaZ]
 have hf:isW [98,111,111,108] l=false:=by simpa using hf
 rw [hf] at hib hR
 simp only [Bool.or_false,Bool.false_eq_true,if_false] at hR
 refine AfZ hib ?_ rfl ?_
 iterate 2 simp +contextual -implicitDefEqProofs only [q17,sm,seval]
 have h1m:=BnY [118,97,114] l z
 by_cases h1:isW [118,97,114] l=true
 · have h1r:mayR [118,97,114] l=l.tail:=by unfold mayR;rw [h1];rfl
   rw [h1r,h1] at h1m
   refine .inr (AaX [0] h1m (by decide) ?_ ?_ ?_ ?_ ?_ ?_)
   iterate 6 simp +contextual -implicitDefEqProofs only [q17,sm,seval]
   rw [h1,if_pos rfl] at hR
   cases hq9:BgZ l.tail with
   |
    error er =>
    rw [hq9,BrX] at hR
    subst hR
    refine .inl (AbZ [0] ((p_variable l.tail z).thr hq9) (by decide) ?_ ?_ ?_ trivial)
    iterate 3 simp +contextual -implicitDefEqProofs only [q17,sm,seval]
   |
    ok x =>
    obtain ⟨x,l1⟩:=x
    rw [hq9] at hR
    refine .inr (AaX [0] ((p_variable l.tail z).ctr hq9) (by decide) ?_ ?_ ?_ ?_ ?_ ?_)
    iterate 3 simp +contextual -implicitDefEqProofs only [q17,sm,seval]
    · simp +contextual -implicitDefEqProofs only [q17,sm,seval,AaZ]
    · simp +contextual -implicitDefEqProofs only [q17,sm,seval]
    simp +contextual -implicitDefEqProofs only [q17,sm,seval,AaZ]
    simp only [AiZ] at hR
    subst hR
    simp +contextual -implicitDefEqProofs only [q17,sm,seval,AaZ,AoQ]
    refine ⟨[],[0],by decide,rfl,?_⟩
    simp +contextual -implicitDefEqProofs only [q17,sm,seval,AaZ]
 have h1:isW [118,97,114] l=false:=by simpa using h1
 rw [AnX h1,h1] at h1m
 refine .inr (AaX [0] h1m (by decide) ?_ ?_ ?_ ?_ ?_ ?_)
 iterate 6 simp +contextual -implicitDefEqProofs only [q17,sm,seval]
 rw [h1,if_neg (by simp)] at hR
 have h2m:=BnY [97,114,114,97,121] l z
 by_cases h2:isW [97,114,114,97,121] l=true
 · have h2r:mayR [97,114,114,97,121] l=l.tail:=by unfold mayR;rw [h2];rfl
   rw [h2r,h2] at h2m
   refine .inr (AaX [0] h2m (by decide) ?_ ?_ ?_ ?_ ?_ ?_)
   iterate 6 simp +contextual -implicitDefEqProofs only [q17,sm,seval]
   rw [h2,if_pos rfl] at hR
   cases hq9:arrayP l.tail with
   |
    error er =>
    rw [hq9,BrX] at hR
    subst hR
    refine .inl (AbZ [0] ((p_array l.tail z).thr hq9) (by decide) ?_ ?_ ?_ trivial)
    iterate 3 simp +contextual -implicitDefEqProofs only [q17,sm,seval]
   |
    ok x =>
    obtain ⟨x,l1⟩:=x
    rw [hq9] at hR
    refine .inr (AaX [0] ((p_array l.tail z).ctr hq9) (by decide) ?_ ?_ ?_ ?_ ?_ ?_)
    iterate 3 simp +contextual -implicitDefEqProofs only [q17,sm,seval]
    · simp +contextual -implicitDefEqProofs only [q17,sm,seval,AaZ]
    · simp +contextual -implicitDefEqProofs only [q17,sm,seval]
    simp +contextual -implicitDefEqProofs only [q17,sm,seval,AaZ]
    simp only [AiZ] at hR
    subst hR
    simp +contextual -implicitDefEqProofs only [q17,sm,seval,AaZ,AoQ]
    refine ⟨[],[0],by decide,rfl,?_⟩
    simp +contextual -implicitDefEqProofs only [q17,sm,seval,AaZ]
 have h2:isW [97,114,114,97,121] l=false:=by simpa using h2
 rw [AnX h2,h2] at h2m
 refine .inr (AaX [0] h2m (by decide) ?_ ?_ ?_ ?_ ?_ ?_)
 iterate 6 simp +contextual -implicitDefEqProofs only [q17,sm,seval]
 rw [h2,if_neg (by simp)] at hR
 have h3m:=BnY [99,111,110,115,116,114,97,105,110,116] l z
 by_cases h3:isW [99,111,110,115,116,114,97,105,110,116] l=true
 · have h3r:mayR [99,111,110,115,116,114,97,105,110,116] l=l.tail:=by unfold mayR;rw [h3];rfl
   rw [h3r,h3] at h3m
   refine .inr (AaX [0] h3m (by decide) ?_ ?_ ?_ ?_ ?_ ?_)
   iterate 6 simp +contextual -implicitDefEqProofs only [q17,sm,seval]
   rw [h3,if_pos rfl] at hR
   cases hm1:BiQ l.tail with
   |
    error er =>
    have hR2:R=.error er:=by rw [← hR,hm1];rfl
    subst hR2
    refine .inl (AbZ [0] ((p_name l.tail z).thr hm1) (by decide) ?_ ?_ ?_ trivial)
    iterate 3 simp +contextual -implicitDefEqProofs only [q17,sm,seval]
   |
    ok x =>
    obtain ⟨n,m1⟩:=x
    rw [hm1] at hR
    simp only [AbY] at hR
    refine .inr (AaX [0] ((p_name l.tail z).ctr hm1) (by decide) ?_ ?_ ?_ ?_ ?_ ?_)
    iterate 6 simp +contextual -implicitDefEqProofs only [q17,sm,seval]
    cases hm2:AeQ [[40]] m1 with
    |
     error er =>
     have hR2:R=.error er:=by rw [← hR,hm2];rfl
     subst hR2
     refine .inl (AbZ [0] ((AjY [[40]] m1 z (by decide)).thr hm2) (by decide) ?_ ?_ ?_ trivial)
     iterate 3 simp +contextual -implicitDefEqProofs only [q17,sm,seval]
    |
     ok x =>
     obtain ⟨_,m2⟩:=x
     rw [hm2] at hR
     simp only [AbY] at hR
     refine .inr (AaX [0] ((AjY [[40]] m1 z (by decide)).ctr hm2) (by decide) ?_ ?_ ?_ ?_ ?_ ?_)
     iterate 6 simp +contextual -implicitDefEqProofs only [q17,sm,seval]
     cases hm3:BdY exprP [41] m2 with
     |
      error er =>
      have hR2:R=.error er:=by rw [← hR,hm3];rfl
      subst hR2
      refine .inl (AbZ [0] ((p_exprs_Ex [41] m2 z).thr hm3) (by decide) ?_ ?_ ?_ trivial)
      iterate 3 simp +contextual -implicitDefEqProofs only [q17,sm,seval]
     |
      ok x =>
      obtain ⟨v,m3⟩:=x
      rw [hm3] at hR
      simp only [AbY] at hR
      refine .inr (AaX [0] ((p_exprs_Ex [41] m2 z).ctr hm3) (by decide) ?_ ?_ ?_ ?_ ?_ ?_)
      iterate 6 simp +contextual -implicitDefEqProofs only [q17,sm,seval]
      simp only [AiZ] at hR
      subst hR
      simp +contextual -implicitDefEqProofs only [q17,sm,seval,AaZ,List.map_nil,AoQ]
      refine ⟨[],[0],by decide,rfl,?_⟩
      simp +contextual -implicitDefEqProofs only [q17,sm,seval,AaZ,List.map_nil]
 have h3:isW [99,111,110,115,116,114,97,105,110,116] l=false:=by simpa using h3
 rw [AnX h3,h3] at h3m
 refine .inr (AaX [0] h3m (by decide) ?_ ?_ ?_ ?_ ?_ ?_)
 iterate 6 simp +contextual -implicitDefEqProofs only [q17,sm,seval]
 rw [h3,if_neg (by simp)] at hR
 have h4m:=BnY [115,111,108,118,101] l z
 by_cases h4:isW [115,111,108,118,101] l=true
 · have h4r:mayR [115,111,108,118,101] l=l.tail:=by unfold mayR;rw [h4];rfl
   rw [h4r,h4] at h4m
   refine .inr (AaX [0] h4m (by decide) ?_ ?_ ?_ ?_ ?_ ?_)
   iterate 6 simp +contextual -implicitDefEqProofs only [q17,sm,seval]
   rw [h4,if_pos rfl] at hR
   cases hq9:goalP l.tail with
   |
    error er =>
    rw [hq9,BrX] at hR
    subst hR
    refine .inl (AbZ [0] ((p_goal l.tail z).thr hq9) (by decide) ?_ ?_ ?_ trivial)
    iterate 3 simp +contextual -implicitDefEqProofs only [q17,sm,seval]
   |
    ok x =>
    obtain ⟨x,l1⟩:=x
    rw [hq9] at hR
    refine .inr (AaX [0] ((p_goal l.tail z).ctr hq9) (by decide) ?_ ?_ ?_ ?_ ?_ ?_)
    iterate 3 simp +contextual -implicitDefEqProofs only [q17,sm,seval]
    · simp +contextual -implicitDefEqProofs only [q17,sm,seval,AaZ]
    · simp +contextual -implicitDefEqProofs only [q17,sm,seval]
    simp +contextual -implicitDefEqProofs only [q17,sm,seval,AaZ]
    simp only [AiZ] at hR
    subst hR
    simp +contextual -implicitDefEqProofs only [q17,sm,seval,AaZ,AoQ]
    refine ⟨[],[0],by decide,rfl,?_⟩
    simp +contextual -implicitDefEqProofs only [q17,sm,seval,AaZ]
 have h4:isW [115,111,108,118,101] l=false:=by simpa using h4
 rw [AnX h4,h4] at h4m
 refine .inr (AaX [0] h4m (by decide) ?_ ?_ ?_ ?_ ?_ ?_)
 iterate 6 simp +contextual -implicitDefEqProofs only [q17,sm,seval]
 rw [h4,if_neg (by simp)] at hR
 rw [BrX] at hR
 subst hR
 refine .inl (AbZ [0] (BnX l z) (by decide) ?_ ?_ ?_ trivial)
 iterate 3 simp +contextual -implicitDefEqProofs only [q17,sm,seval]
end Go.Proofs.YtcmphhedaefcgaaGreatDoor
end
section
namespace Go.Proofs.YtcmphhedaefcgaaGreatDoor
open Av
attribute [local irreducible] awp AbX
attribute [local irreducible] awX opX
set_option maxRecDepth 100000
set_option maxHeartbeats 4000000
theorem catch_idle (v2 v3:Value) (w:World):CallsD Tryz.prog 22 #[v2,v3] .returning w fun e u' w'=>e=.returned (.tuple #[])∧u'=.returning∧w'=w:=by
 refine callsD_of_wpS Tryz.func22 rfl fun c₀ cs hu=>?_
 apply wpS_seq
 apply wpS_region
 simp [wpOpsS,go_sem,recoverD,hu,Tryz.ntmps22,Exit.thenS]
 apply wpS_seq
 apply wpS_region
 simp [wpOpsS,go_sem,recoverD,hu,Tryz.ntmps22,Exit.thenS]
 refine wpS_cond (t:=false) (by simp [Act.eval,Array.replicate]) ?_
 simp only [Bool.false_eq_true,if_false]
 refine wpS_of_wp (wp_skip ?_)
 cases c₀
 simp_all [bodyPostS,results,Tryz.results22]
section
variable {w0:World} {pr fz:Fz} {pl pls:Pl} {bx bs:Bx} {w:World} {P:Program}
def normQ (K:List AV→Bx→Prop):AwZ
 | .normal,l,bx=>K l bx
 | _,_,_=>False
theorem ApQ (K:List AV→Bx→Prop) (x:AV) (l:List AV) (bx:Bx):normQ K .normal (x::l) bx=K (x::l) bx:=rfl
theorem pre_of_take {pl pl':Pl} (h:pl'.take pl.length=pl.take pl.length):pl <+: pl':=by
 rw [List.take_length] at h
 rw [← h];exact List.take_prefix _ _
theorem owp_value {o:Oper} {a:Act} {v:Value} {next:Act→World→Prop} {Q:Exit→Act→World→Prop} (h:(execOp a.eval o).run P w=.ok (.value v) w) (hn:next (a.put o.dst v) w):o.wp P a w next Q:=by
 unfold Oper.wp
 rw [h,Oper.upon_value];exact hn
theorem getT_anys:∀ (l:List AV) (t:Nat),(∀ x∈l,x=.any)→getT l t=.any
 | [],_,_=>rfl
 | x::l,0,h=>h x List.mem_cons_self
 | x::l,t+1,h=>getT_anys l t (fun y hy=>h y (List.mem_cons_of_mem _ hy))
theorem wp_av {mt:FuncId→Nat} {c:Code} {ac:ACode} (hc:BsQ P mt c=some ac) {K:List AV→Bx→Prop} {l:List AV} {a:Act} (h:awp P bx.length ac (normQ K) l bx) (hT:RepT fz pl l a) (hS:Sim w0 pr fz pl bx w) {R:Exit→Act→World→Prop}
 (hR:∀ l' bx' a' w' fz' pl',K l' bx'→FzLe fz fz'→pl <+: pl'→RepT fz' pl' l' a'→Sim w0 pr fz' pl' bx' w'→a'.defers=a.defers→R .normal a' w'):c.wp P R a w:=by
 refine awp_sound c ac hc _ l bx fz pl a w h hT hS (by rw [hS.len];exact Nat.le_refl _) R ?_
 intro e l' bx' a' w' fz' pl' hq h1 h2 h3 h4 h5 h6
 cases e with
 | normal=>exact hR l' bx' a' w' fz' pl' hq h1 (pre_of_take (by rw [hS.len];exact h2)) h4 h5 h6
 | ret=>exact hq.elim
 | exit i=>exact hq.elim
theorem opers_tail {mt:FuncId→Nat} {ops:Array Oper} {Q:Exit→Act→World→Prop} (os:List Oper) (k:Nat) (az:List AOper) (hd:ops.toList.drop k=os) (hz:BhQ P mt ops os=some az)
 {K:List AV→Bx→Prop} {l:List AV} {bx:Bx} {fz:Fz} {pl:Pl} {a:Act} {w:World} (hK:AbX P az K l bx) (hT:RepT fz pl l a) (hS:Sim w0 pr fz pl bx w)
 (hQ:∀ l' bx' a' w' fz' pl',K l' bx'→FzLe fz fz'→pl <+: pl'→RepT fz' pl' l' a'→Sim w0 pr fz' pl' bx' w'→a'.defers=a.defers→Q .normal a' w'):wpOps P ops Q (List.range' k os.length) a w:=by
 have:=opers_pre (w0:=w0) (pr:=pr) (Q:=Q) os [] k az (by rw [hd,List.append_nil]) hz K l bx fz pl a w hK hT hS (by
  intro l' bx' a' w' fz' pl' h1 h2 h3 h4 h5 h6
  simp only [List.length_nil,List.range'_zero,wpOps]
  exact hQ l' bx' a' w' fz' pl' h1 h2 h3 h4 h5 h6)
 simpa using this
end
def kC:List AOper:=[⟨some 8,.mov (.tmp 10),none⟩,⟨some 11,.ext (.tmp 8) 0,none⟩,⟨some 12,.ext (.tmp 8) 1,none⟩,⟨some 3,.alloc (.agg [(.int .i64 0),(.int .i64 0)]),none⟩,⟨none,.store 2 (.tmp 3) (.tmp 11),none⟩,⟨some 4,.mov (.tmp 12),none⟩]
def kD:ACode:=.seq (.region (⟨some 13,.mov (.tmp 4),none⟩::[])) (.cond (.tmp 13) (.region (⟨some 14,.load true 2 (.tmp 3),none⟩::⟨none,.store 2 (.tmp 1) (.tmp 14),none⟩::[])) .skip)
theorem as_fault (t:TypeId) (v:Value) (w:World):(Instr.typeAssert (.iface 50 v) t 50 true).run Tryz.prog w=.ok (.tuple #[v,.bool true]) w:=by kernel_rfl
theorem rep_fault (fz:Fz) (n e:Int):RepF fz (.agg [.int .i64 n,.int .i64 e]) (.agg #[.int .i64 n,.int .i64 e]):=by
 refine .agg _ _ rfl ?_ ?_
 · intro i x hx
   match i,hx with
   | 0,hx=>simp at hx;subst hx;rfl
   | 1,hx=>simp at hx;subst hx;rfl
 · intro i v x hv hx
   match i,hv,hx with
   | 0,hv,hx=>simp at hv hx;subst hv;subst hx;exact .int _ _
   | 1,hv,hx=>simp at hv hx;subst hv;subst hx;exact .int _ _
theorem catch_up {w0:World} {pr fz:Fz} {pl:Pl} {w:World} (n e:Int) (hS:Sim w0 pr fz pl [some (1,[.any]),some (2,[.agg [.int .i64 0,.int .i64 0]])] w) {v2 v3:Value} (h2:Rep fz pl (.ptr 1 0 0 0) v2) (h3:Rep fz pl (.ptr 2 1 0 0) v3) :
 CallsD Tryz.prog 22 #[v2,v3] (.panicking [{ v:=.iface 50 (.agg #[.int .i64 n,.int .i64 e]),recovered:=false }]) w fun e' u' w'=>e'=.returned (.tuple #[])∧u'=.panicking [{ v:=.iface 50 (.agg #[.int .i64 n,.int .i64 e]),recovered:=true }] ∧
  ∃ fz' pl' y,FzLe fz fz'∧pl <+: pl'∧Sim w0 pr fz' pl' [some (1,[.nils]),some (2,[.agg [.int .i64 n,.int .i64 e]]),y] w':=by
 refine callsD_of_wpS Tryz.func22 rfl fun c₀ cs hu=>?_
 apply wpS_seq
 apply wpS_region
 simp [wpOpsS,go_sem,recoverD,hu,Tryz.ntmps22,Exit.thenS]
 apply wpS_seq
 apply wpS_region
 simp [wpOpsS,go_sem,recoverD,hu,Tryz.ntmps22,Exit.thenS]
 refine wpS_cond (t:=true) (by simp [Act.eval,Array.replicate]) ?_
 simp only [if_true]
 refine wpS_of_wp ?_
 generalize hV:Value.iface 50 (.agg #[.int .i64 n,.int .i64 e])=V
 have hVi:RepF fz .ifc V:=by rw [← hV];exact .ifc _ _
 have hT:RepT fz pl [.ptr 1 0 0 0,.ptr 2 1 0 0,.ifc,.any,.any,.ifc,.ifc,.bool true,.any,.any,.any,.any,.any,.any,.any] { tmps:=#[v2,v3,V,undef,undef,V,V,.bool true,undef,undef,undef,undef,undef,undef,undef],defers:=[] }:=by
  refine ⟨rfl,fun t=>?_⟩
  rcases t with _ | _ | _ | _ | _ | _ | _ | _ | t
  · exact h2
  · exact h3
  · exact .frz hVi
  · exact .frz (.any _)
  · exact .frz (.any _)
  · exact .frz hVi
  · exact .frz hVi
  · exact .frz (.bool _)
  · rw [show getT [AV.ptr 1 0 0 0,.ptr 2 1 0 0,.ifc,.any,.any,.ifc,.ifc,.bool true,.any,.any,.any,.any,.any,.any,.any] (t+8)=.any from getT_anys (List.replicate 7 .any) t (fun x hx=>List.eq_of_mem_replicate hx)]
    exact .frz (.any _)
 refine wp_seq (wp_region ?_)
 refine AyZ (i:=0) (r:=[]) (ho:=rfl) rfl ?_
 refine awpDo_soundB (mt:=kd_CParseA) (p:=.store 1 (.tmp 0) (.val .nils)) (K:=fun v bx=>bx=[some (1,[.nils]),some (2,[.agg [.int .i64 0,.int .i64 0]])]) rfl hT hS ?_ ?_
 · simp +contextual -implicitDefEqProofs only [sm,seval,ApQ]
 rintro v bx' cv w1 fz1 pl1 rfl f1 p1 r1 S1
 have T1:=hT.mono f1 p1
 show Code.wp _ _ _ ⟨#[v2,v3,V,undef,undef,V,V,.bool true,undef,undef,undef,undef,undef,undef,undef],[]⟩ w1
 refine wp_seq (wp_region ?_)
 refine AyZ (i:=0) (r:=1::List.range' 2 6) (ho:=rfl) rfl ?_
 refine owp_value (v:=V) rfl ?_
 show wpOps _ _ _ (1::List.range' 2 6) ⟨#[v2,v3,V,undef,undef,V,V,.bool true,undef,V,undef,undef,undef,undef,undef],[]⟩ w1
 refine AyZ (i:=1) (r:=List.range' 2 6) (ho:=rfl) rfl ?_
 refine owp_value (v:=.tuple #[.agg #[.int .i64 n,.int .i64 e],.bool true]) ?_ ?_
 · rw [← hV]
   simp [execOp,Act.eval,go_sem,as_fault]
 show wpOps _ _ _ (List.range' 2 6) ⟨#[v2,v3,V,undef,undef,V,V,.bool true,undef,V,.tuple #[.agg #[.int .i64 n,.int .i64 e],.bool true],undef,undef,undef,undef],[]⟩ w1
 have hVi1:RepF fz1 .ifc V:=by rw [← hV];exact .ifc _ _
 have hag:RepF fz1 (.tuple [.agg [.int .i64 n,.int .i64 e],.bool true]) (.tuple #[.agg #[.int .i64 n,.int .i64 e],.bool true]):=by
  refine .tuple _ _ rfl ?_
  intro i v x hv hx
  match i,hv,hx with
  | 0,hv,hx=>simp at hv hx;subst hv;subst hx;exact rep_fault _ _ _
  | 1,hv,hx=>simp at hv hx;subst hv;subst hx;exact .bool _
 have hT2:RepT fz1 pl1 [.ptr 1 0 0 0,.ptr 2 1 0 0,.ifc,.any,.any,.ifc,.ifc,.bool true,.any,.ifc,.tuple [.agg [.int .i64 n,.int .i64 e],.bool true],.any,.any,.any,.any] ⟨#[v2,v3,V,undef,undef,V,V,.bool true,undef,V,.tuple #[.agg #[.int .i64 n,.int .i64 e],.bool true],undef,undef,undef,undef],[]⟩:=by
  refine ⟨rfl,fun t=>?_⟩
  rcases t with _ | _ | _ | _ | _ | _ | _ | _ | _ | _ | _ | t
  · exact h2.mono f1 p1
  · exact h3.mono f1 p1
  · exact .frz hVi1
  · exact .frz (.any _)
  · exact .frz (.any _)
  · exact .frz hVi1
  · exact .frz hVi1
  · exact .frz (.bool _)
  · exact .frz (.any _)
  · exact .frz hVi1
  · exact .frz hag
  · rw [show getT [AV.ptr 1 0 0 0,.ptr 2 1 0 0,.ifc,.any,.any,.ifc,.ifc,.bool true,.any,.ifc,.tuple [.agg [.int .i64 n,.int .i64 e],.bool true],.any,.any,.any,.any] (t+11)=.any from getT_anys (List.replicate 4 .any) t (fun x hx=>List.eq_of_mem_replicate hx)]
    exact .frz (.any _)
 refine opers_tail (mt:=kd_CParseA) _ 2 kC rfl (by kernel_rfl) (K:=fun l bx=>l=[.ptr 1 0 0 0,.ptr 2 1 0 0,.ifc,.ptr 2 2 0 0,.bool true,.ifc,.ifc,.bool true,.tuple [.agg [.int .i64 n,.int .i64 e],.bool true],.ifc,.tuple [.agg [.int .i64 n,.int .i64 e],.bool true],.agg [.int .i64 n,.int .i64 e],.bool true,.any,.any]∧bx=[some (1,[.nils]),some (2,[.agg [.int .i64 0,.int .i64 0]]),some (2,[.agg [.int .i64 n,.int .i64 e]])]) ?_ hT2 S1 ?_
 · unfold kC
   simp +contextual -implicitDefEqProofs only [sm,seval]
 rintro l' bx' a' w2 fz2 pl2 ⟨rfl,rfl⟩ f2 p2 T2 S2 d2
 refine wp_av (mt:=kd_CParseA) (ac:=kD) (K:=fun l bx=>bx=[some (1,[.nils]),some (2,[.agg [.int .i64 n,.int .i64 e]]),some (2,[.agg [.int .i64 n,.int .i64 e]])]) (by kernel_rfl) ?_ T2 S2 ?_
 · simp +contextual -implicitDefEqProofs only [sm,kD,seval,ApQ]
 rintro l' bx' a' w3 fz3 pl3 rfl f3 p3 T3 S3 d3
 refine ⟨d3.trans d2,_,rfl,.tuple #[],by simp [results,Tryz.results22],rfl,rfl,fz3,(f1.trans f2).trans f3,pl3,(p1.trans p2).trans p3,_,S3⟩
end Go.Proofs.YtcmphhedaefcgaaGreatDoor
end
section
namespace Go.Proofs.YtcmphhedaefcgaaGreatDoor
open Av
attribute [local irreducible] awp AbX
attribute [local irreducible] awX opX
set_option maxRecDepth 100000
set_option maxHeartbeats 4000000
section
variable {w0:World} {pr fz:Fz} {pl pls:Pl} {bx bs:Bx} {w:World} {P:Program}
open Classical in
theorem loop_av {c:Code} {m:Nat} {β:Type} (J:β→Prop) (S:β→List AV) (B:β→Bx) (μ:β→Nat) (b0:β) (h0:J b0) {l:List AV} {a:Act} (hE:Emb m (S b0) (B b0) l bx) (hT:RepT fz pl l a) (hS:Sim w0 pr fz pl bx w) (hm:m≤pl.length) {R:Exit→Act→World→Prop}
 (hround:∀ b fz1 pl1 a1 w1,J b→FzLe fz fz1→pl1.take m=pl.take m→m≤pl1.length→RepT fz1 pl1 (S b) a1→Sim w0 pr fz1 pl1 (B b) w1→a1.defers=a.defers →
  c.wp P (Exit.then (fun a' w'=>∃ b' fz' pl',J b'∧μ b'<μ b∧FzLe fz1 fz'∧pl'.take m=pl.take m∧m≤pl'.length∧RepT fz' pl' (S b') a'∧Sim w0 pr fz' pl' (B b') w'∧a'.defers=a.defers) R) a1 w1):(Code.loop c).wp P R a w:=by
 let At:β→Act→World→Prop:=fun b a' w'=>J b∧∃ fz1 pl1,FzLe fz fz1∧pl1.take m=pl.take m∧m≤pl1.length∧RepT fz1 pl1 (S b) a'∧Sim w0 pr fz1 pl1 (B b) w'∧a'.defers=a.defers
 let I:Act→World→Prop:=fun a' w'=>∃ b,At b a' w'
 have hex:∀ a' w',I a' w'→∃ n,∃ b,At b a' w'∧μ b=n:=fun a' w' ⟨b,hb⟩=>⟨_,b,hb,rfl⟩
 let μ':Act→World→Nat:=fun a' w'=>if h:∃ n,∃ b,At b a' w'∧μ b=n then least h else 0
 obtain ⟨pl0,s1,s2,s3,s4⟩:=hE.sound hS hT hm
 refine wp_loop I μ' ⟨b0,h0,fz,pl0,.refl _,s3,s4,s2,s1,rfl⟩ ?_
 intro a1 w1 hI
 have hx:=hex a1 w1 hI
 have hspec:=least_spec hx
 obtain ⟨b,hAt,hb⟩:=hspec
 have hμ:μ' a1 w1=μ b:=by
  show (if h:∃ n,∃ b,At b a1 w1∧μ b=n then least h else 0)=μ b
  rw [dif_pos hx,hb]
 obtain ⟨hJb,fz1,pl1,q1,q2,q3,q4,q5,q6⟩:=hAt
 refine wp_mono (hround b fz1 pl1 a1 w1 hJb q1 q2 q3 q4 q5 q6) ?_
 intro e a' w' hq
 cases e with
 |
  normal =>
  obtain ⟨b',fz',pl',j1,j2,j3,j4,j5,j6,j7,j8⟩:=hq
  have hAt':At b' a' w':=⟨j1,fz',pl',q1.trans j3,j4,j5,j6,j7,j8⟩
  refine ⟨⟨b',hAt'⟩,?_⟩
  rw [hμ]
  have hx':=hex a' w' ⟨b',hAt'⟩
  show (if h:∃ n,∃ b,At b a' w'∧μ b=n then least h else 0)<μ b
  rw [dif_pos hx']
  exact Nat.lt_of_le_of_lt (least_min hx' ⟨b',hAt',rfl⟩) j2
 | _=>exact hq
end
theorem owp_defer {P:Program} {o:Oper} {a:Act} {w:World} {d:Deferred} {next:Act→World→Prop} {Q:Exit→Act→World→Prop} (h:(execOp a.eval o).run P w=.ok (.defer d) w) (hn:next ({ a with defers:=d::a.defers }.put o.dst undef) w):o.wp P a w next Q:=by
 unfold Oper.wp
 rw [h,Oper.upon_defer];exact hn
section
variable {w0:World} {pr fz:Fz} {pl pls:Pl} {bx bs:Bx} {w:World} {P:Program}
theorem sim_none (h:Sim w0 pr fz pl bx w) {pl1:Pl} (hl:pl1.length=1):Sim w0 pr fz pl1 [none] w:=by
 have no:∀ {k:Nat} {x},¬ AeZ [none] k=some x:=by
  intro k x hk
  rcases k with _ | k
  · cases hk
  · have:=AoY hk;simp at this
 exact ⟨h.lay,h.os,h.tape,h.output,h.size,h.frz,h.prt,h.dis,by rw [hl];rfl,fun k sz es hk=>absurd hk no,fun k k' x y b n n' hk _ _ _=>absurd hk no⟩
theorem sim_any1 (h:Sim w0 pr fz pl bx w) {k:Nat} {x:AV} (hk:AeZ bx k=some (1,[x])) (hx:x.cells.length=1):Sim w0 pr fz pl (ArZ bx k (some (1,[.any]))) w:=by
 have hlt:=AoY hk
 have key:∀ {j:Nat} {y},AeZ (ArZ bx k (some (1,[.any]))) j=some y→(j=k∧y=(1,[.any]))∨AeZ bx j=some y:=by
  intro j y hj
  by_cases hjk:k=j
  · subst hjk
    rw [AjZ hlt] at hj
    injection hj with hj
    exact .inl ⟨rfl,hj.symm⟩
  · rw [AiX hjk] at hj;exact .inr hj
 have some':∀ {j:Nat} {y},AeZ (ArZ bx k (some (1,[.any]))) j=some y→∃ y',AeZ bx j=some y':=by
  intro j y hj
  rcases key hj with ⟨rfl,_⟩ | hj
  · exact ⟨_,hk⟩
  · exact ⟨_,hj⟩
 refine ⟨h.lay,h.os,h.tape,h.output,h.size,h.frz,h.prt,h.dis,by rw [h.len,AmQ],?_,?_⟩
 · intro j sz es hj
   rcases key hj with ⟨rfl,he⟩ | hj
   · injection he with e1 e2
     subst e1;subst e2
     rcases h.box j 1 [x] hk with (⟨_,h1⟩ | ⟨b,o,M⟩) | ⟨b,n,arr,e,B⟩
     · cases h1
     · rcases M.nil with h1 | h1 | ⟨_,_,h1⟩
       · cases h1
       · injection h1 with h1;subst h1;cases hx
       · injection h1 with h1;subst h1;cases hx
     · refine .inr ⟨b,n,arr,e,{ B with elem:=?_,fits:=?_,one:=?_,rep:=fun i v c hv _=>?_ }⟩
       · intro y hy;simp at hy;subst hy;rfl
       · have:=B.fits;simp only [List.flatMap_cons,List.flatMap_nil,List.append_nil] at this;rw [hx] at this;exact this
       · intro i v c hv hc
         have hi:i=0:=by
          have:=(List.getElem?_eq_some_iff.1 hv).1
          simp only [List.flatMap_cons,List.flatMap_nil,List.append_nil] at this
          have h1:(AV.cells .any).length=1:=rfl
          omega
         subst hi
         obtain ⟨v0,hv0⟩:∃ v0,x.cells[0]? = some v0:=⟨x.cells[0],List.getElem?_eq_getElem (by omega)⟩
         exact B.one 0 v0 c (by simpa using hv0) hc
       · have:v=.any:=by
          have h1:([AV.any]:List AV)[i]? = some v:=hv
          have:=(List.getElem?_eq_some_iff.1 h1).1
          have hi:i=0:=by simpa using this
          subst hi;injection h1 with h1;exact h1.symm
         subst this
         exact .frz (.any _)
   · exact h.box j sz es hj
 · intro k1 k2 x1 y1 b n n' h1 h2 h3 h4
   obtain ⟨_,h1⟩:=some' h1
   obtain ⟨_,h2⟩:=some' h2
   exact h.inj k1 k2 _ _ b n n' h1 h2 h3 h4
def exitQ (id:Nat) (K:List AV→Bx→Prop):AwZ
 | .exit i,l,bx=>i=id∧K l bx
 | _,_,_=>False
theorem eq_exit (id i:Nat) (K:List AV→Bx→Prop) (x:AV) (l:List AV) (bx:Bx):exitQ id K (.exit i) (x::l) bx=(i=id∧K (x::l) bx):=rfl
theorem wp_avX {mt:FuncId→Nat} {c:Code} {ac:ACode} (hc:BsQ P mt c=some ac) {id:Nat} {K:List AV→Bx→Prop} {l:List AV} {a:Act} (h:awp P bx.length ac (exitQ id K) l bx) (hT:RepT fz pl l a) (hS:Sim w0 pr fz pl bx w) {R:Exit→Act→World→Prop}
 (hR:∀ l' bx' a' w' fz' pl',K l' bx'→FzLe fz fz'→pl <+: pl'→RepT fz' pl' l' a'→Sim w0 pr fz' pl' bx' w'→a'.defers=a.defers→R (.exit id) a' w'):c.wp P R a w:=by
 refine awp_sound c ac hc _ l bx fz pl a w h hT hS (by rw [hS.len];exact Nat.le_refl _) R ?_
 intro e l' bx' a' w' fz' pl' hq h1 h2 h3 h4 h5 h6
 cases e with
 | normal=>exact hq.elim
 | ret=>exact hq.elim
 | exit i=>obtain ⟨rfl,hq⟩:=hq;exact hR l' bx' a' w' fz' pl' hq h1 (pre_of_take (by rw [hS.len];exact h2)) h4 h5 h6
theorem wp_avT {mt:FuncId→Nat} {c:Code} {ac:ACode} {Y:Xt} (hc:BsQ P mt c=some ac) {l:List AV} {a:Act} (h:awX P Y bx.length ac nowhere l bx) (hT:RepT fz pl l a) (hS:Sim w0 pr fz pl bx w) {R:Exit→Act→World→Prop}
 (hR:∀ v l' bx' pl' fz' a' w',Y.Φ v→Y.X l' bx'→FzLe fz fz'→pl <+: pl'→RepT fz' pl' l' a'→Sim w0 pr fz' pl' bx' w'→a'.defers=a.defers→R (.panic [{ v:=v,recovered:=false }]) a' w'):c.wp P R a w:=by
 refine awX_sound c ac hc _ l bx fz pl a w h hT hS (by rw [hS.len];exact Nat.le_refl _) R ?_ ?_
 · intro v l' bx' pl' fz' a' w' g1 g0 g2 g7 g8 g5 g3 g4
   exact hR v l' bx' pl' fz' a' w' g1 g0 g2 (pre_of_take (by rw [hS.len];exact g7)) g5 g3 g4
 · intro e l' bx' a' w' fz' pl' hq
   exact hq.elim
theorem finF_done {fn:Func} {rz:List ARes} {l':List AV} {bx':Bx} {a':Act} {w':World} {fz':Fz} {pl' pl:Pl} (hT:RepT fz' pl' l' a') (hS':Sim w0 pr fz' pl' bx' w') (hres:cRes P fn.results.toList=some rz) (ht:pl'.take pl.length=pl.take pl.length) (hm:pl.length≤pl'.length) {r:AV} {bs':Bx}
 (hq:finF rz pl.length r bs' .ret l' bx'):∃ cv fz'' pl'',(results fn a'.tmps).run P w'=.ok cv w'∧FzLe fz' fz''∧pl <+: pl''∧Rep fz'' pl'' r cv∧Sim w0 pr fz'' pl'' bs' w':=by
 have hq:(match resV l' bx' rz with
  | some vs=>∃ ix:List Nat,ix.Nodup∧ix.take pl.length=List.range pl.length∧embB bs'.length ix bx' ix bs'∧wk r (view 8 (AfY ix bx') (tupV vs))
  | none=>False):=hq
 split at hq
 · rename_i vs hvs
   obtain ⟨c,r1,r2⟩:=AyQ (P:=P) hT hS' hres hvs
   obtain ⟨ix,i1,i2,i3,i5⟩:=hq
   obtain ⟨S1,hp⟩:=hS'.embed rfl i3 i1 hS'.prt hS'.dis (fun k x b m' _ hk hpl=>(AtX hS' hk hpl).2.1)
   have htk:(plOf pl' ix).take pl.length=pl:=by
    have e1:(plOf pl' ix).take pl.length=pl'.take pl.length:=by
     apply List.ext_getElem?
     intro j
     rw [List.getElem?_take,List.getElem?_take]
     by_cases hj:j<pl.length
     · rw [if_pos hj,if_pos hj]
       have hix:ix[j]? = some j:=by
        have:(ix.take pl.length)[j]? = (List.range pl.length)[j]?:=by rw [i2]
        rw [List.getElem?_take,if_pos hj] at this
        rw [this];simp [hj]
       exact BhY hix (by omega)
     · rw [if_neg hj,if_neg hj]
    rw [e1,ht,List.take_length]
   obtain ⟨S2,le⟩:=S1.frzAll
   have hv:=view_sound (hS'.kills ix) le (fun k x b n hk hpl=>by
    obtain ⟨hk1,hk2⟩:=killL_get hk
    unfold frzAll
    rw [if_neg]
    · simp only [(AtX hS' hk1 hpl).2.1]
    · rintro ⟨j,y,n',hj,hpj⟩
      obtain ⟨e1,e2,e3⟩:=embB_get i3
      obtain ⟨k',xs,q1,q2,q3,q4⟩:=e3 j y.1 y.2 hj
      have hq:=BhY (pl:=pl') q1 (by rw [hS'.len];exact e2 j k' q1)
      rw [hq] at hpj
      have:=hS'.inj k k' x _ b n n' hk1 q2 hpl hpj
      subst this
      exact hk2 (List.mem_of_getElem? q1)) 8 (tupV vs) c r2
   refine ⟨c,_,plOf pl' ix,r1,le,?_,Rep.wk _ _ _ (.frz hv) i5,S2⟩
   rw [← htk];exact List.take_prefix _ _
 · exact hq.elim
end
def allV:Except Int (List It)→AV
 | .ok its=>.tuple [.list 8 (its.map eIt),.agg [.int .i64 0,.int .i64 0]]
 | .error e=>.tuple [.list 8 [],.agg [.any,.int .i64 e]]
def appI (acc:List It):Except Int (List It)→Except Int (List It)
 | .ok r=>.ok (acc++r)
 | .error e=>.error e
def outB (q:List Tok) (z:Int):List It→Bx
 | []=>[some (2,[pS q z]),some (1,[.nils]),some (2,[.agg [.int .i64 0,.int .i64 0]])]
 | x::acc=>[some (2,[pS q z]),some (1,[.sl 8 3 0 (acc.length+1)]),some (2,[.agg [.int .i64 0,.int .i64 0]]),some (8,(x::acc).map eIt)]
theorem outB_nil (q:List Tok) (z:Int):outB q z []=[some (2,[pS q z]),some (1,[.nils]),some (2,[.agg [.int .i64 0,.int .i64 0]])]:=rfl
theorem ArQ (q:List Tok) (z:Int) (x:It) (acc:List It):outB q z (x::acc)=[some (2,[pS q z]),some (1,[.sl 8 3 0 (acc.length+1)]),some (2,[.agg [.int .i64 0,.int .i64 0]]),some (8,(x::acc).map eIt)]:=rfl
theorem okR_It (m:Nat) (x:It):okR m (eIt x)=true:=by
 rw [AaZ];simp +contextual -implicitDefEqProofs only [sm,seval]
theorem ren_It (ix:List Nat) (x:It):ren ix (eIt x)=eIt x:=by
 rw [AaZ];simp +contextual -implicitDefEqProofs only [sm,seval]
theorem flat_It (x:It):(eIt x).flat=true:=by
 rw [AaZ];simp +contextual -implicitDefEqProofs only [sm,seval,AeY,AdQ]
theorem rest_It (F:List AV→Bx→Prop) (y:AV) (l:List AV) (d:Option Nat) (x:It) (bx:Bx):AxY F (y::l) d (eIt x) bx=F (putT (y::l) d (eIt x)) bx:=rfl
theorem okSt_It (x:It):(eIt x).okSt=true:=by
 rw [AaZ];simp +contextual -implicitDefEqProofs only [sm,seval]
theorem flatL_app:∀ l r:List AV,BdX (l++r)=(BdX l && BdX r)
 | [],r=>by rw [List.nil_append,flatL_nil,Bool.true_and]
 | x::l,r=>by rw [List.cons_append,BsX,BsX,flatL_app l r,Bool.and_assoc]
theorem cells_It (x:It):(eIt x).cells.length=8:=rfl
def allS:List AV:=[.ptr 2 0 0 0,.any,.ptr 1 1 0 0,.ptr 2 2 0 0,.any,.any,.any,.any,.any,.any,.any,.any,.any,.any,.any,.any,.any,.any,.any,.any,.any,.any,.any,.any,.any,.any]
def qA:ACode:=.region (⟨some 2,.alloc .nils,none⟩::⟨some 3,.alloc (.agg [(.int .i64 0),(.int .i64 0)]),none⟩::[])
def all0:List AV:=[.ptr 2 0 0 0,.any,.ptr 1 1 0 0,.ptr 2 2 0 0,.any,.any,.any,.any,.any,.any,.any,.any,.any,.any,.any,.any,.any,.any,.any,.any,.any,.any,.any,.any,.any,.any]
def all1:List AV:=putT all0 (some 4) (.fn (.func 22) [.ptr 1 1 0 0,.ptr 2 2 0 0])
def allX (l:List AV) (bx:Bx):Prop:=getT l 2=.ptr 1 1 0 0∧getT l 3=.ptr 2 2 0 0∧∃ b0 x rest,x.cells.length=1∧bx=b0::some (1,[x])::some (2,[.agg [.int .i64 0,.int .i64 0]])::rest
def allP (w0:World) (pr fz:Fz) (pl:Pl) (R:Except Int (List It)) (e1:Ending) (w1:World):Prop:=∃ cv fz' pl',e1=.returned cv∧FzLe fz fz'∧pl <+: pl'∧Rep fz' pl' (allV R) cv∧Sim w0 pr fz' pl' [none] w1
theorem all_panic {w0:World} {pr fz fz2 fz':Fz} {pl pl2 pl':Pl} {e:Int} {v v2 v3:Value} {l':List AV} {bx':Bx} {a':Act} {w':World} (hv:Flt e v) (hX:allX l' bx') (hf:FzLe fz fz') (hl1:pl.length=1)
 (h2:Rep fz2 pl2 (.ptr 1 1 0 0) v2) (h3:Rep fz2 pl2 (.ptr 2 2 0 0) v3) (f2:FzLe fz2 fz') (p2:pl2 <+: pl') (T:RepT fz' pl' l' a') (S:Sim w0 pr fz' pl' bx' w') (hd:a'.defers=[⟨.fn (.func 22) #[v2,v3],#[]⟩]) :
 bodyPostD Tryz.prog Tryz.f10 (allP w0 pr fz pl (.error e)) (.panic [{ v:=v,recovered:=false }]) a' w':=by
 obtain ⟨n,rfl⟩:=hv
 obtain ⟨x2,x3,b0,x,rest,hx1,rfl⟩:=hX
 have S0:=sim_any1 S (k:=1) (x:=x) rfl hx1
 obtain ⟨S1,hpl⟩:=S0.embed (bs:=[some (1,[.any]),some (2,[.agg [.int .i64 0,.int .i64 0]])]) (n:=2) rfl (ix:=[1,2]) (by simp +contextual -implicitDefEqProofs only [sm,seval]) (by decide) S0.prt S0.dis (fun k x b m' _ hk hpl=>(AtX S0 hk hpl).2.1)
 have g0:(plOf pl' [1,2])[0]? = pl'[1]?:=hpl 0 (by decide)
 have g1:(plOf pl' [1,2])[1]? = pl'[2]?:=hpl 1 (by decide)
 have back:∀ {c:Value},Rep fz' pl' (.ptr 1 1 0 0) c→Rep fz' (plOf pl' [1,2]) (.ptr 1 0 0 0) c:=fun h=>ren_bwd (n:=2) hpl (v:=.ptr 1 0 0 0) h (by decide)
 have back2:∀ {c:Value},Rep fz' pl' (.ptr 2 2 0 0) c→Rep fz' (plOf pl' [1,2]) (.ptr 2 1 0 0) c:=fun h=>ren_bwd (n:=2) hpl (v:=.ptr 2 1 0 0) h (by decide)
 have hn:4≤a'.tmps.size:=by
  have h3':=x3 ▸ T.2 3
  rcases Nat.lt_or_ge 3 a'.tmps.size with h | h
  · exact h
  · have e0:a'.tmps.getD 3 undef=undef:=by simp [Array.getElem?_eq_none h]
    obtain ⟨_,_,h5,_⟩:=h3'.inv_ptr
    rw [e0] at h5;cases h5
 obtain ⟨n4,hn4⟩:∃ n4,a'.tmps.size=n4+4:=⟨a'.tmps.size-4,by omega⟩
 have TX:RepT fz' (plOf pl' [1,2]) (.any::.any::.ptr 1 0 0 0::.ptr 2 1 0 0::List.replicate n4 .any) a':=by
  refine ⟨by rw [hn4];simp,fun t=>?_⟩
  rcases t with _ | _ | _ | _ | t
  · exact .frz (.any _)
  · exact .frz (.any _)
  · exact back (x2 ▸ T.2 2)
  · exact back2 (x3 ▸ T.2 3)
  · rw [show getT (AV.any::.any::.ptr 1 0 0 0::.ptr 2 1 0 0::List.replicate n4 .any) (t+4)=.any from getT_anys (List.replicate n4 .any) t (fun x hx=>List.eq_of_mem_replicate hx)]
    exact .frz (.any _)
 show Leaves _ _ _ _ a'.defers _ w'
 rw [hd]
 refine leaves_cons (f:=22) (args:=#[v2,v3]) (by simp) (by simp [invoke,Tryz.call22]) ?_
 refine (catch_up n e S1 (back (h2.mono f2 p2)) (back2 (h3.mono f2 p2))).mono ?_
 rintro e1 u1 w1 ⟨rfl,rfl,fz3,pl3,y,f3,p3,S3⟩
 show Leaves _ _ _ _ [] _ w1
 have hset:settle (.panicking [{ v:=Value.iface 50 (Value.agg #[Value.int IntKind.i64 n,Value.int IntKind.i64 e]),recovered:=true }])=.returning:=by simp [settle]
 rw [hset]
 obtain ⟨cv,r1,r2⟩:=AyQ (P:=Tryz.prog) (fn:=Tryz.f10) (az:=[.cell 2 false 1,.cell 3 true 2]) (vs:=[.nils,.agg [.int .i64 n,.int .i64 e]]) (TX.mono f3 p3) S3 (by kernel_rfl) rfl
 refine ⟨cv,r1,cv,fz3,pl,rfl,hf.trans f3,List.prefix_refl _,?_,?_⟩
 · exact Rep.wk _ _ _ (.frz (r2.flat rfl)) (by simp +contextual -implicitDefEqProofs only [sm,seval,allV,tupV])
 · exact sim_none S3 hl1
def allE:List AV:=[.ptr 2 0 0 0,.any,.ptr 1 1 0 0,.ptr 2 2 0 0,.any,.ptr 2 0 0 0,.ptr 2 0 0 0,.ptr 2 0 0 0,.list 4 [],.int .i64 0,.bool false,.any,.any,.any,.any,.any,.any,.any,.any,.any,.any,.any,.any,.any,.any,.any]
def allG (acc:List It):List AV:=[.ptr 2 0 0 0,.any,.ptr 1 1 0 0,.ptr 2 2 0 0,.any,.ptr 2 0 0 0,.ptr 2 0 0 0,.ptr 2 0 0 0,.list 4 [],.int .i64 0,.bool false,.any,.any,.any,.any,.any,.any,.any,.any,.any,.any,.any,.any,.any,(if acc=[] then .nils else .sl 8 3 0 acc.length),.agg [.int .i64 0,.int .i64 0]]
def allM (t:Tok) (q:List Tok):List AV:=[.ptr 2 0 0 0,.any,.ptr 1 1 0 0,.ptr 2 2 0 0,.any,.ptr 2 0 0 0,.ptr 2 0 0 0,.ptr 2 0 0 0,.list 4 ((t::q).map eTok),.int .i64 ((q.length+1:Nat):Int),.bool true,.any,.any,.any,.any,.any,.any,.any,.any,.any,.any,.any,.any,.any,.any,.any]
def allN (acc:List It) (t:Tok) (q:List Tok):List AV:=[.ptr 2 0 0 0,.any,.ptr 1 1 0 0,.ptr 2 2 0 0,.any,.ptr 2 0 0 0,.ptr 2 0 0 0,.ptr 2 0 0 0,.list 4 ((t::q).map eTok),.int .i64 ((q.length+1:Nat):Int),.bool true,(if acc=[] then .nils else .sl 8 3 0 acc.length),.int .i64 ((acc.length:Nat):Int),.bool false,.any,.any,.any,.any,.any,.any,.any,.any,.any,.any,.any,.any]
def qB:ACode:=.seq (.region (⟨some 5,.mov (.tmp 0),none⟩::⟨some 6,.nilc (.tmp 5),none⟩::⟨some 7,.faddr 0 (.tmp 6),none⟩::⟨some 8,.load false 1 (.tmp 7),none⟩::⟨some 9,.len false (.tmp 8),none⟩::⟨some 10,.bin .gtr (.tmp 9) (.val (.int .i64 0)),none⟩::[])) (.cond (.tmp 10) .skip (.exit 0))
def qC:ACode:=.seq (.region (⟨some 11,.load false 1 (.tmp 2),none⟩::⟨some 12,.len false (.tmp 11),none⟩::⟨some 13,.bin .eql (.tmp 12) (.val (.int .i64 512)),none⟩::[])) (.cond (.tmp 13) (.region (⟨some 14,.mov (.tmp 0),none⟩::⟨some 15,.callm (.val (.fn (.func 23) [])) [(.tmp 14),(.val (.int .i64 3))],none⟩::[])) .skip)
def qDr:List AOper:=⟨some 16,.load false 1 (.tmp 2),none⟩::⟨some 17,.mov (.tmp 0),none⟩::⟨some 18,.callm (.val (.fn (.func 24) [])) [(.tmp 17)],none⟩::⟨some 19,.bslice 8 [(.tmp 18)],none⟩::⟨some 20,.app 8 104 (.tmp 16) (.tmp 19),none⟩::⟨none,.store 1 (.tmp 2) (.tmp 20),none⟩::[]
def qD:ACode:=.draw (⟨some 16,.load false 1 (.tmp 2),none⟩::⟨some 17,.mov (.tmp 0),none⟩::⟨some 18,.callm (.val (.fn (.func 24) [])) [(.tmp 17)],none⟩::⟨none,.same false 1 (.tmp 2) (.tmp 16),none⟩::⟨some 19,.bslice 8 [(.tmp 18)],none⟩::⟨some 20,.app 8 104 (.tmp 16) (.tmp 19),none⟩::⟨none,.store 1 (.tmp 2) (.tmp 20),none⟩::[])
def qE:ACode:=.region (⟨some 21,.mov (.tmp 0),none⟩::⟨some 22,.bslice 1 [(.val (.str (S8 [59])))],none⟩::⟨some 23,.callm (.val (.fn (.func 25) [])) [(.tmp 21),(.tmp 22)],none⟩::[])
def qF:ACode:=.draw (⟨some 24,.load false 1 (.tmp 2),none⟩::⟨some 25,.load true 2 (.tmp 3),none⟩::⟨none,.store 1 (.tmp 2) (.tmp 24),none⟩::⟨none,.same true 2 (.tmp 3) (.tmp 25),none⟩::⟨none,.store 2 (.tmp 3) (.tmp 25),none⟩::[])
theorem p_all (l:List Tok) (z:Int):Ctr Tryz.prog 10 [.ptr 2 0 0 0] [some (2,[pS l z])] (allV (allF 512 l)) [none]:=by
 refine ⟨Tryz.call10,?_⟩
 intro w0 pr fz pl w cs hS hl hA
 have hT:=BpY (n:=26) hl hA
 refine calls_of_wp_defers Tryz.func10 rfl ?_
 refine wp_seq (wp_av (mt:=kd_CParseA) (ac:=qA) (K:=fun l' bx=>l'=all0∧bx=[some (2,[pS l z]),some (1,[.nils]),some (2,[.agg [.int .i64 0,.int .i64 0]])]) (by kernel_rfl) ?_ hT hS ?_)
 · simp +contextual -implicitDefEqProofs only [sm,qA,AgZ,seval,ApQ,all0]
 rintro l' bx' a1 w1 fz1 pl1 ⟨rfl,rfl⟩ f1 p1 T1 S1 d1
 refine wp_seq (wp_region ?_)
 refine AyZ (i:=0) (r:=[1]) (ho:=rfl) rfl ?_
 refine awpDo_soundB (mt:=kd_CParseA) (p:=.mkf (.func 22) [(.tmp 2),(.tmp 3)]) (K:=fun v bx=>v=.fn (.func 22) [.ptr 1 1 0 0,.ptr 2 2 0 0]∧bx=[some (2,[pS l z]),some (1,[.nils]),some (2,[.agg [.int .i64 0,.int .i64 0]])]) rfl T1 S1 ?_ ?_
 · simp +contextual -implicitDefEqProofs only [sm,seval,all0]
 rintro v bx' cv w2 fz2 pl2 ⟨rfl,rfl⟩ f2 p2 r2 S2
 obtain ⟨caps,rfl,hcl,hcr⟩:=r2.inv_fn
 have T2:RepT fz2 pl2 all1 (a1.put (some 4) (.func (.func 22) #[] caps)):=(T1.mono f2 p2).put (some 4) r2
 have hsz:a1.tmps.size=26:=T1.1.symm
 have e4:(a1.put (some 4) (.func (.func 22) #[] caps)).eval (.tmp 4)=.func (.func 22) #[] caps:=by
  simp [Act.put,Act.eval,hsz]
 show wpOps _ _ _ [1] (a1.put (some 4) (.func (.func 22) #[] caps)) w2
 generalize hda2:a1.put (some 4) (.func (.func 22) #[] caps)=a2 at T2 e4 ⊢
 have hd2:a2.defers=[]:=by rw [← hda2,AkY,d1]
 have hcs:caps.size=2:=hcl.symm
 obtain ⟨v2,v3,hv⟩:∃ v2 v3,caps=#[v2,v3]:=⟨caps[0],caps[1],by
  apply Array.ext
  · exact hcs
  · intro i q1 q2
    have:i=0∨i=1:=by omega
    rcases this with rfl | rfl <;> rfl⟩
 subst hv
 have h2:Rep fz2 pl2 (.ptr 1 1 0 0) v2:=hcr 0 _ _ rfl rfl
 have h3:Rep fz2 pl2 (.ptr 2 2 0 0) v3:=hcr 1 _ _ rfl rfl
 refine AyZ (i:=1) (r:=[]) (ho:=rfl) rfl ?_
 refine owp_defer (d:=⟨.fn (.func 22) #[v2,v3],#[]⟩) ?_ ?_
 · simp only [execOp]
   have e4b:a2.tmps[4]?.getD undef=.func (.func 22) #[] #[v2,v3]:=by simpa [Act.eval] using e4
   simp [go_sem,resolve,Deferred.ofValue,e4b]
 rw [hd2]
 show Code.wp _ _ _ { a2 with defers:=[⟨.fn (.func 22) #[v2,v3],#[]⟩] } w2
 have T3:RepT fz2 pl2 all1 { a2 with defers:=[⟨.fn (.func 22) #[v2,v3],#[]⟩] }:=T2
 generalize hda3:({ a2 with defers:=[⟨.fn (.func 22) #[v2,v3],#[]⟩] }:Act)=a3 at T3 ⊢
 have hd3:a3.defers=[⟨.fn (.func 22) #[v2,v3],#[]⟩]:=by rw [← hda3]
 generalize hR:allF 512 l=R
 have hl1:pl.length=1:=hS.len
 have hl3:pl2.length=3:=S2.len
 have hm3:3≤pl2.length:=by rw [S2.len];simp
 refine wp_seq (wp_block (loop_av (m:=3) (fun b:Nat × List It × List Tok=>b.2.1.length+b.1=512∧appI b.2.1 (allF b.1 b.2.2)=R) (fun _=>allS) (fun b=>outB b.2.2 z b.2.1) (fun b=>b.1) (512,[],l) ⟨rfl,by rw [← hR];unfold appI;simp only [List.nil_append];cases allF 512 l <;> rfl⟩ ⟨[0,1,2],by decide,rfl,?_,?_⟩ T3 S2 hm3 ?_))
 iterate 2 simp +contextual -implicitDefEqProofs only [sm,outB_nil,all1,all0,allS,seval,AgZ]
 rintro ⟨k,acc,q⟩ fz3 pl3 a4 w3 ⟨hk,hJ⟩ f3 t3 m3 T4 S3 d4
 simp only at hk hJ
 refine wp_seq ?_
 cases q with
 |
  nil =>
  have hRa:R=.ok acc:=by rw [← hJ];cases k <;> simp [allF,appI]
  refine wp_avX (mt:=kd_CParseA) (ac:=qB) (id:=0) (K:=fun l' bx'=>l'=allE∧bx'=outB [] z acc) (by kernel_rfl) ?_ T4 S3 ?_
  · cases acc with
    | nil=>simp +contextual -implicitDefEqProofs only [sm,qB,allS,allE,outB_nil,AgZ,seval,eq_exit]
    | cons x acc=>simp +contextual -implicitDefEqProofs only [sm,qB,allS,allE,ArQ,AgZ,seval,eq_exit]
  rintro l' bx' a5 w5 fz5 pl5 ⟨rfl,rfl⟩ f5 p5 T5 S5 d5
  show Code.wp _ _ _ a5 w5
  have hqf:awp Tryz.prog (outB [] z acc).length qF (normQ fun l' bx'=>l'=allG acc∧bx'=outB [] z acc) allE (outB [] z acc):=by
   cases acc with
   | nil=>simp +contextual -implicitDefEqProofs only [sm,qF,allE,allG,outB_nil,AgZ,seval,ApQ]
   | cons x acc=>simp +contextual -implicitDefEqProofs only [sm,qF,allE,allG,ArQ,AgZ,seval,ApQ]
  refine wp_seq (wp_av (mt:=kd_CParseA) (ac:=qF) (by kernel_rfl) hqf T5 S5 ?_)
  rintro l' bx' a6 w6 fz6 pl6 ⟨rfl,rfl⟩ f6 p6 T6 S6 d6
  refine wp_ret ?_
  show Leaves _ _ _ _ a6.defers .returning w6
  rw [d6,d5,d4,hd3]
  refine leaves_cons (f:=22) (args:=#[v2,v3]) (by simp) (by simp [invoke,Tryz.call22]) ?_
  refine (catch_idle v2 v3 w6).mono ?_
  rintro e1 u1 w7 ⟨rfl,rfl,rfl⟩
  show Leaves _ _ _ _ [] .returning w7
  have hp6:pl <+: pl6:=((p1.trans p2).trans (pre_of_take (by rw [hl3];rw [t3]))).trans (p5.trans p6)
  obtain ⟨cv,fz7,pl7,r1,f7,p7,r7,S7⟩:=finF_done (P:=Tryz.prog) (fn:=Tryz.f10) (rz:=[.cell 2 false 1,.cell 3 true 2]) (pl:=pl) (r:=allV (.ok acc)) (bs':=[none]) T6 S6 (by kernel_rfl) (by obtain ⟨u,rfl⟩:=hp6;simp) hp6.length_le (by
   rw [hl1]
   cases acc with
   |
    nil =>
    simp +contextual -implicitDefEqProofs only [sm,allG,outB_nil,allV,h_ret,seval,AgZ]
    refine ⟨[0],by decide,rfl,?_,?_⟩
    · simp +contextual -implicitDefEqProofs only [sm,seval]
    · simp +contextual -implicitDefEqProofs only [sm,seval,AfY]
   |
    cons x acc =>
    simp +contextual -implicitDefEqProofs only [sm,allG,ArQ,allV,h_ret,seval,AgZ]
    have hfl:=flatL_It (x::acc)
    simp only [List.map_cons] at hfl
    have htk:(eIt x::acc.map eIt).take (acc.length+1)=eIt x::acc.map eIt:=List.take_of_length_le (by simp)
    refine ⟨[0],by decide,rfl,?_,?_⟩
    · simp +contextual -implicitDefEqProofs only [sm,seval]
    · simp +contextual -implicitDefEqProofs only [sm,seval,AfY,htk,hfl])
  exact ⟨cv,r1,cv,fz7,pl7,rfl,(((((f1.trans f2).trans f3).trans f5).trans f6).trans f7),p7,hRa ▸ r7,S7⟩
 |
  cons t q =>
  refine wp_av (mt:=kd_CParseA) (ac:=qB) (K:=fun l' bx'=>l'=allM t q∧bx'=outB (t::q) z acc) (by kernel_rfl) ?_ T4 S3 ?_
  · have hn:((q.length+1:Nat):Int) > 0:=by omega
    cases acc with
    | nil=>simp +contextual -implicitDefEqProofs only [sm,qB,allS,allM,outB_nil,AgZ,seval,ApQ,hn]
    | cons x acc=>simp +contextual -implicitDefEqProofs only [sm,qB,allS,allM,ArQ,AgZ,seval,ApQ,hn]
  rintro l' bx' a5 w5 fz5 pl5 ⟨rfl,rfl⟩ f5 p5 T5 S5 d5
  refine wp_block ?_
  refine wp_seq ?_
  have hd5:a5.defers=[⟨.fn (.func 22) #[v2,v3],#[]⟩]:=by rw [d5,d4,hd3]
  have p25:pl2 <+: pl5:=(pre_of_take (by rw [hl3,t3])).trans p5
  have f25:FzLe fz2 fz5:=f3.trans f5
  have f05:FzLe fz fz5:=(f1.trans f2).trans f25
  have t5:pl5.take 3=pl2.take 3:=by obtain ⟨u,rfl⟩:=p25;rw [List.take_append_of_le_length hm3]
  cases k with
  |
   zero =>
   have hRe:R=.error 3:=by rw [← hJ];rfl
   subst hRe
   refine wp_avT (mt:=kd_CParseA) (ac:=qC) (Y:=⟨Flt 3,allX⟩) (by kernel_rfl) ?_ T5 S5 ?_
   · cases acc with
     | nil=>simp at hk
     |
      cons x acc =>
      have h512:((acc.length+1:Nat):Int)=512:=by simp at hk;omega
      simp +contextual -implicitDefEqProofs only [sm,qC,allM,ArQ,AgZ,seval,h512]
      refine .inl (AbZ [0] (p_throw (t::q) z 3) (by decide) ?_ ?_ ?_ ?_)
      iterate 3 simp +contextual -implicitDefEqProofs only [sm,seval,AgZ]
      · exact ⟨rfl,rfl,none,.sl 8 3 0 (acc.length+1),_,rfl,rfl⟩
   rintro v l' bx' pl6 fz6 a6 w6 hv hX f6 p6 T6 S6 d6
   exact all_panic hv hX (f05.trans f6) hl1 h2 h3 (f25.trans f6) (p25.trans p6) T6 S6 (by rw [d6,hd5])
  |
   succ k =>
   have h512:(acc.length:Int)≠512:=by omega
   refine wp_av (mt:=kd_CParseA) (ac:=qC) (K:=fun l' bx'=>l'=allN acc t q∧bx'=outB (t::q) z acc) (by kernel_rfl) ?_ T5 S5 ?_
   · cases acc with
     | nil=>simp +contextual -implicitDefEqProofs only [sm,qC,allM,allN,outB_nil,AgZ,seval,ApQ]
     |
      cons x acc =>
      have h512:((acc.length+1:Nat):Int)≠512:=by simp at h512;omega
      simp +contextual -implicitDefEqProofs only [sm,qC,allM,allN,ArQ,AgZ,seval,ApQ,h512]
   rintro l' bx' a6 w6 fz6 pl6 ⟨rfl,rfl⟩ f6 p6 T6 S6 d6
   show Code.wp _ _ _ a6 w6
   refine wp_seq ?_
   have hd6:a6.defers=[⟨.fn (.func 22) #[v2,v3],#[]⟩]:=by rw [d6,hd5]
   cases hi:itemP (t::q) with
   |
    error er =>
    have hRe:R=.error er:=by rw [← hJ];simp only [allF,hi,andP_err];rfl
    subst hRe
    refine draw_thr (mt:=kd_CParseA) (Y:=⟨Flt er,allX⟩) (az:=qDr) rfl (by kernel_rfl) (by kernel_rfl) (by kernel_rfl) 2 _ rfl rfl rfl ?_ ?_ ?_ ?_ T6 S6 ?_
    · intro p hp
      simp [qDr] at hp
      rcases hp with rfl | rfl
      · exact .inr rfl
      · exact .inl rfl
    · intro j h1 h2
      have h2:j<6:=h2
      have h3:j=3∨j=4∨j=5:=by omega
      rcases h3 with rfl | rfl | rfl <;> decide
    · rintro l1 l2 bx' ht ⟨x2,x3,hx⟩
      refine ⟨?_,?_,hx⟩
      · rw [← ht 2 (by simp [qDr,AtY])];exact x2
      · rw [← ht 3 (by simp [qDr,AtY])];exact x3
    · have e2:qDr.take 2=⟨some 16,.load false 1 (.tmp 2),none⟩::⟨some 17,.mov (.tmp 0),none⟩::[]:=rfl
      rw [e2]
      unfold thrHere
      cases acc with
      |
       nil =>
       simp +contextual -implicitDefEqProofs only [sm,allN,outB_nil,AgZ,seval]
       refine AbZ [0] ((p_item (t::q) z).thr hi) (by decide) ?_ ?_ ?_ ?_
       iterate 3 simp +contextual -implicitDefEqProofs only [sm,seval,AgZ]
       · exact ⟨rfl,rfl,none,.nils,_,rfl,rfl⟩
      |
       cons x acc =>
       simp +contextual -implicitDefEqProofs only [sm,allN,ArQ,AgZ,seval]
       refine AbZ [0] ((p_item (t::q) z).thr hi) (by decide) ?_ ?_ ?_ ?_
       iterate 3 simp +contextual -implicitDefEqProofs only [sm,seval,AgZ]
       · exact ⟨rfl,rfl,none,.sl 8 3 0 (acc.length+1),_,rfl,rfl⟩
    · rintro v l' bx' pl7 fz7 a7 w7 hv hX f7 p7 T7 S7 d7
      exact all_panic hv hX ((f05.trans f6).trans f7) hl1 h2 h3 ((f25.trans f6).trans f7) ((p25.trans p6).trans p7) T7 S7 (by rw [d7,hd6])
   |
    ok x =>
    obtain ⟨x,l1⟩:=x
    have hM:acc.length+1≤maxLen:=by unfold maxLen;omega
    have hM1:1≤maxLen:=by decide
    have hB:(acc.length+1) * 104≤140737488355328:=by omega
    refine wp_av (mt:=kd_CParseA) (ac:=qD) (K:=fun l' bx'=>Emb 3 allS (outB l1 z (acc++[x])) l' bx') (by kernel_rfl) ?_ T6 S6 ?_
    · cases acc with
      |
       nil =>
       simp +contextual -implicitDefEqProofs only [sm,qD,allN,outB_nil,ArQ,AgZ,seval,ApQ,List.nil_append]
       refine AaX [0] ((p_item (t::q) z).ctr hi) (by decide) ?_ ?_ ?_ ?_ ?_ ?_
       iterate 5 simp +contextual -implicitDefEqProofs only [sm,seval,AgZ,okR_It,ren_It]
       simp +contextual -implicitDefEqProofs only [sm,seval,AgZ,ApQ,ren_It,rest_It,okSt_It,cells_It,flat_It,hM1]
       refine ⟨[0,1,2,3],by decide,rfl,?_,?_⟩
       iterate 2 simp +contextual -implicitDefEqProofs only [sm,ArQ,allS,seval,AgZ,flat_It]
      |
       cons y acc =>
       simp only [List.length_cons] at hM hB
       simp +contextual -implicitDefEqProofs only [sm,qD,allN,outB_nil,ArQ,AgZ,seval,ApQ,List.cons_append]
       refine AaX [0] ((p_item (t::q) z).ctr hi) (by decide) ?_ ?_ ?_ ?_ ?_ ?_
       iterate 5 simp +contextual -implicitDefEqProofs only [sm,seval,AgZ,okR_It,ren_It]
       simp +contextual -implicitDefEqProofs only [sm,seval,AgZ,ApQ,ren_It,rest_It,okSt_It,cells_It,flat_It,hM,hB]
       refine ⟨[0,1,2,4],by decide,rfl,?_,?_⟩
       iterate 2 simp +contextual -implicitDefEqProofs only [sm,ArQ,allS,seval,AgZ,flat_It,flatL_It,flatL_app,List.map_append,List.map_cons,List.map_nil]
    rintro l' bx' a7 w7 fz7 pl7 hE f7 p7 T7 S7 d7
    have p27:pl2 <+: pl7:=(p25.trans p6).trans p7
    have t7:pl7.take 3=pl2.take 3:=by obtain ⟨u,rfl⟩:=p27;rw [List.take_append_of_le_length hm3]
    obtain ⟨pl8,S8',T8,t8,m8⟩:=hE.sound S7 T7 (Nat.le_trans hm3 p27.length_le)
    have p28:pl2 <+: pl8:=pre_of_take (by rw [hl3,t8,t7])
    have f08:FzLe fz fz7:=(f05.trans f6).trans f7
    have f28:FzLe fz2 fz7:=(f25.trans f6).trans f7
    have hd7:a7.defers=[⟨.fn (.func 22) #[v2,v3],#[]⟩]:=by rw [d7,hd6]
    show Code.wp _ _ _ a7 w7
    have hb1:([[59]]:List Bs).length≤1000000000000:=by decide
    cases ht:AeQ [[59]] l1 with
    |
     error er =>
     have hRe:R=.error er:=by rw [← hJ];simp only [allF,hi,AbY,ht,andP_err];rfl
     subst hRe
     refine wp_avT (mt:=kd_CParseA) (ac:=qE) (Y:=⟨Flt er,allX⟩) (by kernel_rfl) ?_ T8 S8' ?_
     · cases acc with
       |
        nil =>
        simp +contextual -implicitDefEqProofs only [sm,qE,allS,ArQ,AgZ,seval,List.nil_append]
        refine .inl (AbZ [0] ((AjY [[59]] l1 z hb1).thr ht) (by decide) ?_ ?_ ?_ ?_)
        iterate 2 simp +contextual -implicitDefEqProofs only [sm,seval,AgZ]
        · simp +contextual -implicitDefEqProofs only [sm,seval,AgZ,BhX]
        · exact ⟨rfl,rfl,none,.sl 8 3 0 1,_,rfl,rfl⟩
       |
        cons y acc =>
        simp +contextual -implicitDefEqProofs only [sm,qE,allS,ArQ,AgZ,seval,List.cons_append]
        refine .inl (AbZ [0] ((AjY [[59]] l1 z hb1).thr ht) (by decide) ?_ ?_ ?_ ?_)
        iterate 2 simp +contextual -implicitDefEqProofs only [sm,seval,AgZ]
        · simp +contextual -implicitDefEqProofs only [sm,seval,AgZ,BhX]
        · exact ⟨rfl,rfl,none,.sl 8 3 0 (acc.length+1+1),_,rfl,rfl⟩
     rintro v l' bx' pl9 fz9 a9 w9 hv hX f9 p9 T9 S9 d9
     exact all_panic hv hX (f08.trans f9) hl1 h2 h3 (f28.trans f9) (p28.trans p9) T9 S9 (by rw [d9,hd7])
    |
     ok y =>
     obtain ⟨_,l2⟩:=y
     refine wp_av (mt:=kd_CParseA) (ac:=qE) (K:=fun l' bx'=>Emb 3 allS (outB l2 z (acc++[x])) l' bx') (by kernel_rfl) ?_ T8 S8' ?_
     · cases acc with
       |
        nil =>
        simp +contextual -implicitDefEqProofs only [sm,qE,allS,ArQ,AgZ,seval,ApQ,List.nil_append]
        refine AaX [0] ((AjY [[59]] l1 z hb1).ctr ht) (by decide) ?_ ?_ ?_ ?_ ?_ ?_
        iterate 2 simp +contextual -implicitDefEqProofs only [sm,seval,AgZ,eU]
        · simp +contextual -implicitDefEqProofs only [sm,seval,AgZ,eU,BhX]
        · simp +contextual -implicitDefEqProofs only [sm,seval,AgZ,eU]
        · simp +contextual -implicitDefEqProofs only [sm,seval,AgZ,BhX]
        simp +contextual -implicitDefEqProofs only [sm,seval,AgZ,ApQ,eU,BhX]
        refine ⟨[0,1,2,3],by decide,rfl,?_,?_⟩
        iterate 2 simp +contextual -implicitDefEqProofs only [sm,ArQ,allS,seval,AgZ,flat_It,flatL_It,flatL_app,List.map_append,List.map_cons,List.map_nil]
       |
        cons y acc =>
        simp +contextual -implicitDefEqProofs only [sm,qE,allS,ArQ,AgZ,seval,ApQ,List.cons_append]
        refine AaX [0] ((AjY [[59]] l1 z hb1).ctr ht) (by decide) ?_ ?_ ?_ ?_ ?_ ?_
        iterate 2 simp +contextual -implicitDefEqProofs only [sm,seval,AgZ,eU]
        · simp +contextual -implicitDefEqProofs only [sm,seval,AgZ,eU,BhX]
        · simp +contextual -implicitDefEqProofs only [sm,seval,AgZ,eU]
        · simp +contextual -implicitDefEqProofs only [sm,seval,AgZ,BhX]
        simp +contextual -implicitDefEqProofs only [sm,seval,AgZ,ApQ,eU,BhX]
        refine ⟨[0,1,2,3],by decide,rfl,?_,?_⟩
        iterate 2 simp +contextual -implicitDefEqProofs only [sm,ArQ,allS,seval,AgZ,flat_It,flatL_It,flatL_app,List.map_append,List.map_cons,List.map_nil]
     rintro l' bx' a9 w9 fz9 pl9 hE9 f9 p9 T9 S9 d9
     have p29:pl2 <+: pl9:=p28.trans p9
     obtain ⟨pl10,S10,T10,t10,m10⟩:=hE9.sound S9 T9 (Nat.le_trans hm3 p29.length_le)
     refine ⟨(k,acc++[x],l2),fz9,pl10,⟨?_,?_⟩,?_,(((f5.trans f6).trans f7).trans f9),?_,m10,T10,S10,?_⟩
     · simp;omega
     · rw [← hJ];simp only [allF,hi,AbY,ht]
       cases allF k l2 <;> simp [appI,Except.map]
     · simp
     · rw [t10];obtain ⟨u,rfl⟩:=p29;rw [List.take_append_of_le_length hm3]
     · rw [d9,d7,d6,d5,d4]
end Go.Proofs.YtcmphhedaefcgaaGreatDoor
end
section
namespace Go.Proofs.YtcmphhedaefcgaaGreatDoor
open Av
attribute [local irreducible] awp AbX
attribute [local irreducible] awX opX
set_option maxRecDepth 100000
set_option maxHeartbeats 4000000
def textV:Except Int (List It)→AV
 | .ok its=>.tuple [.list 8 (its.map eIt),.int .i64 0,.int .i64 0]
 | .error e=>.tuple [.list 8 [],.any,.int .i64 e]
theorem textV_ok (ts:List It):textV (.ok ts)=.tuple [.list 8 (ts.map eIt),.int .i64 0,.int .i64 0]:=rfl
theorem textV_err (e:Int):textV (.error e)=.tuple [.list 8 [],.any,.int .i64 e]:=rfl
theorem allV_ok (ts:List It):allV (.ok ts)=.tuple [.list 8 (ts.map eIt),.agg [.int .i64 0,.int .i64 0]]:=rfl
theorem allV_err (e:Int):allV (.error e)=.tuple [.list 8 [],.agg [.any,.int .i64 e]]:=rfl
theorem lexF_ne (s:Bs):∀ (f n:Nat) (r:Bs),lexF s f n r≠.error 0
 | 0,n,r=>by simp [lexF]
 | f+1,n,[]=>by simp [lexF]
 |
  f+1,n,c::t=>by
  have h:=lexF_ne s f (n+1) (AnZ (ApY (c::t)).2)
  unfold lexF
  split
  · simp
  · split
    · simp
    · split
      · split
        · intro h2
          cases hx:lexF s f (n+1) (AnZ (ApY (c::t)).2) with
          | ok l=>rw [hx] at h2;cases h2
          | error e=>rw [hx] at h2 h;simp only [Except.map] at h2;exact h h2
        · simp
      · intro h2
        cases hx:lexF s f (n+1) (AnZ (ApY (c::t)).2) with
        | ok l=>rw [hx] at h2;cases h2
        | error e=>rw [hx] at h2 h;simp only [Except.map] at h2;exact h h2
theorem lexS_ne (s:Bs):lexS s≠.error 0:=by
 unfold lexS;split
 · simp
 · exact lexF_ne _ _ _ _
theorem parse_Text (s:Bs) (hs:s.length≤1000000000000):Ctr Tryz.prog 4 [.str (S8 s)] [] (textV (BtZ s)) []:=by
 have hs2:s.length≤9223372036854775807:=by omega
 refine AcZ Tryz.func4 Tryz.call4 e_parse_Text ?_
 cases hl:lexS s with
 |
  error e =>
  have he:e≠0:=by rintro rfl;exact lexS_ne s hl
  have hp:BtZ s=.error e:=by unfold BtZ;rw [hl]
  have hL:=lex_Split s hs2
  rw [hl,splitV_err] at hL
  rw [hp,textV_err]
  simp +contextual -implicitDefEqProofs only [sm,c_parse_Text,seval]
  refine AaY hL ?_ rfl ?_
  · simp +contextual -implicitDefEqProofs only [sm,seval]
  simp +contextual -implicitDefEqProofs only [sm,seval,he]
 |
  ok ts =>
  have hp:BtZ s=allF 512 ts:=by unfold BtZ;rw [hl]
  have hL:=lex_Split s hs2
  rw [hl,splitV_ok] at hL
  rw [hp]
  simp +contextual -implicitDefEqProofs only [sm,c_parse_Text,seval]
  refine AaY hL ?_ rfl ?_
  iterate 2 simp +contextual -implicitDefEqProofs only [sm,seval]
  have hA:=p_all ts (s.length:Int)
  cases ha:allF 512 ts with
  |
   ok its =>
   rw [ha,allV_ok] at hA
   rw [textV_ok]
   refine AaX [0] hA (by decide) ?_ ?_ ?_ ?_ ?_ ?_
   iterate 2 simp +contextual -implicitDefEqProofs only [sm,seval,AgZ]
   · simp +contextual -implicitDefEqProofs only [sm,seval,AgZ,flatL_It]
   iterate 2 simp +contextual -implicitDefEqProofs only [sm,seval,AgZ]
   simp +contextual -implicitDefEqProofs only [sm,seval,AgZ,flatL_It]
  |
   error e =>
   rw [ha,allV_err] at hA
   rw [textV_err]
   refine AaX [0] hA (by decide) ?_ ?_ ?_ ?_ ?_ ?_
   iterate 6 simp +contextual -implicitDefEqProofs only [sm,seval,AgZ]
end Go.Proofs.YtcmphhedaefcgaaGreatDoor
end
