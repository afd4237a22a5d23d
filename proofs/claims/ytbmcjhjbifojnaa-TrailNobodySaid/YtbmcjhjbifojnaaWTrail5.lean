/- What Changed of trail.Store computes. -/
import Derived.Test.YtbmcjhjbifojnaaWTrail2
import Derived.Test.YtbmcjhjbifojnaaWSortN
import Derived.Test.YtbmcjhjbifojnaaAv4
namespace Go.Proofs.Ytbmcjhjbifojnaa
open Av
attribute [local irreducible] awp awpOpers
set_option linter.unusedSimpArgs false
set_option linter.unusedVariables false
set_option maxRecDepth 100000
set_option maxHeartbeats 4000000
def c_chg0 : ACode := .region (⟨some 2, .mov (.val .nils), none⟩ :: [])
def c_chg1 : ACode := .seq (.region (⟨some 5, .mov (.tmp 0), none⟩ ::
    ⟨some 6, .callv (.val (.fn (.func 33) [])) [(.tmp 5)], none⟩ ::
    ⟨some 7, .un .not (.tmp 6), none⟩ :: [])) <|
  .cond (.tmp 7) (.seq (.region (⟨some 2, .mov (.val .nils), none⟩ :: [])) <|
    .ret) <|
  .skip
def c_chg2 : ACode := .region (⟨some 3, .mov (.val .nils), none⟩ :: [])
def c_chg4 : List AOper := ⟨some 8, .mov (.tmp 0), none⟩ ::
    ⟨some 9, .nilc (.tmp 8), none⟩ ::
    ⟨some 10, .faddr 4 (.tmp 9), none⟩ ::
    ⟨some 11, .load false 1 (.tmp 10), none⟩ :: []
def c_chg7 : ACode := .region (⟨some 17, .mov (.tmp 3), none⟩ ::
          ⟨some 18, .mov (.tmp 4), none⟩ ::
          ⟨some 19, .bslice 1 [(.tmp 18)], none⟩ ::
          ⟨some 20, .app 1 8 (.tmp 17) (.tmp 19), none⟩ ::
          ⟨some 3, .mov (.tmp 20), none⟩ :: [])
def c_chg9 : ACode := .seq (.region (⟨some 21, .mov (.tmp 3), none⟩ ::
    ⟨some 22, .callm (.val (.fn (.func 37) [])) [(.tmp 21)], none⟩ :: [])) <|
  .seq (.region (⟨some 23, .mov (.tmp 0), none⟩ ::
    ⟨some 24, .nilc (.tmp 23), none⟩ ::
    ⟨some 25, .faddr 4 (.tmp 24), none⟩ ::
    ⟨some 26, .load false 1 (.tmp 25), none⟩ ::
    ⟨none, .clrm (.tmp 26), none⟩ :: [])) <|
  .seq (.region (⟨some 27, .mov (.tmp 3), none⟩ ::
    ⟨some 2, .mov (.tmp 27), none⟩ :: [])) <|
  .ret
def chgL1 : List AV := tm 28 [(0, .ptr 5 0 0 0), (2, .nils), (3, .nils), (5, .ptr 5 0 0 0), (6, .bool true), (7, .bool false)]
def chgL2 : List AV := tm 28 [(0, .ptr 5 0 0 0), (2, .nils), (3, .nils), (5, .ptr 5 0 0 0), (6, .bool true), (7, .bool false), (8, .ptr 5 0 0 0), (9, .ptr 5 0 0 0), (10, .ptr 5 0 0 4), (11, .mp 4)]
def chgS (done : List Nat) : List AV := tm 28 [(0, .ptr 5 0 0 0), (3, .sl 1 6 0 done.length), (12, .ptr 1 5 0 0)]
def chgB (d : List (List Rg)) (tr : List (Int × List Rg)) (lv : List Int) (x : Option (Nat × List AV)) (done : List Nat) : Bx :=
  [some (5, [.agg [.bool true, .sl 1 1 0 d.length, .sl 2 2 0 tr.length, .sl 1 3 0 lv.length, .mp 4]]), some (1, d.map eRgs), some (2, tr.map eEnt), some (1, lv.map eI), x, none, some (1, (done.map Int.ofNat).map eI)]
theorem chgS_eq (done : List Nat) : chgS done = tm 28 [(0, .ptr 5 0 0 0), (3, .sl 1 6 0 done.length), (12, .ptr 1 5 0 0)] := rfl
theorem chgB_eq (d : List (List Rg)) (tr : List (Int × List Rg)) (lv : List Int) (x : Option (Nat × List AV)) (done : List Nat) : chgB d tr lv x done = some (5, [.agg [.bool true, .sl 1 1 0 d.length, .sl 2 2 0 tr.length, .sl 1 3 0 lv.length, .mp 4]]) :: some (1, d.map eRgs) :: some (2, tr.map eEnt) :: some (1, lv.map eI) :: x :: none :: some (1, (done.map Int.ofNat).map eI) :: [] := rfl
theorem chg_ahead (d : List (List Rg)) (tr : List (Int × List Rg)) (lv : List Int) (ks : List Nat) : awpL Try.prog 5 (fun _ _ _ => False) (fun l bx => l = chgL1 ∧ bx = sB d tr lv ks) [c_chg0, c_chg1, c_chg2] ([.ptr 5 0 0 0] ++ List.replicate 27 .any) (sB d tr lv ks) := by
  simp +contextual -implicitDefEqProofs (maxSteps := 1000000) only [c_chg0, c_chg1, c_chg2, awpL_nil, awpL_cons, sB_eq, sm, sn, sxx, smp, seval]
  refine callV_rule (good_ctr true [.list 1 (d.map eRgs), .list 2 (tr.map eEnt), .list 1 (lv.map eI), .any]) ?_ rfl ?_
  · simp +contextual -implicitDefEqProofs (maxSteps := 1000000) only [sm, sn, sxx, smp, seval, flatL_Ent]
  simp +contextual -implicitDefEqProofs (maxSteps := 1000000) only [sm, sn, sxx, smp, seval, awpL_nil, awpL_cons, chgL1]
theorem chg_load (d : List (List Rg)) (tr : List (Int × List Rg)) (lv : List Int) (ks : List Nat) : awpOpers Try.prog c_chg4 (fun l bx => l = chgL2 ∧ bx = sB d tr lv ks) chgL1 (sB d tr lv ks) := by
  simp +contextual -implicitDefEqProofs (maxSteps := 1000000) only [c_chg4, chgL1, chgL2, sB_eq, sm, sn, sxx, smp, seval]
theorem chg_step (d : List (List Rg)) (tr : List (Int × List Rg)) (lv : List Int) (done : List Nat) (x : Nat) (hl : done.length ≤ 1000000000000) :
    awp Try.prog 6 c_chg7 (fun e l bx => match e with | .normal => Emb 6 (chgS (done ++ [x])) (chgB d tr lv none (done ++ [x])) l bx | _ => False) (setT (chgS done) 4 (.int .i64 (Int.ofNat x))) (chgB d tr lv none done) := by
  have c1 : (done.length + 1) * 8 ≤ 140737488355328 := by omega
  have c2 : done.length + 1 ≤ maxLen := by unfold maxLen; omega
  have e1 : done.map Int.ofNat ++ [Int.ofNat x] = (done ++ [x]).map Int.ofNat := by simp
  simp +contextual -implicitDefEqProofs (maxSteps := 1000000) only [c_chg7, chgS_eq, chgB_eq, sm, sn, sxx, smp, seval, c1, c2, e1]
  refine ⟨[0, 1, 2, 3, 4, 5, 7], by decide, rfl, ?_, ?_⟩
  · simp +contextual -implicitDefEqProofs (maxSteps := 1000000) only [sm, sn, sxx, smp, seval, flatL_Ent]
  · simp +contextual -implicitDefEqProofs (maxSteps := 1000000) only [sm, sn, sxx, smp, seval, flatL_Ent]
theorem chg_sort {done ks : List Nat} (hp : done.Perm ks) (hs : ks.Pairwise (· < ·)) : sortI (done.map Int.ofNat) = ks.map Int.ofNat := by
  have h1 : (sortI (done.map Int.ofNat)).Perm (ks.map Int.ofNat) := (sortI_perm _).trans (hp.map _)
  have h2 : (ks.map Int.ofNat).Pairwise fun x y : Int => x ≤ y := List.pairwise_map.2 (hs.imp fun h => by simp only [Int.ofNat_eq_natCast]; omega)
  exact h1.eq_of_pairwise (fun a b _ _ h h' => by omega) (sortI_asc _) h2
theorem chg_end (d : List (List Rg)) (tr : List (Int × List Rg)) (lv : List Int) (ks done : List Nat) (hl : done.length ≤ 1000000000000) (hp : done.Perm ks) (hs : ks.Pairwise (· < ·)) :
    awp Try.prog 5 c_chg9 (finF [.tmp 2] 5 (.list 1 ((ks.map Int.ofNat).map eI)) (sB d tr lv [])) (chgS done) (chgB d tr lv (some (encK ks + 1, [.agg []])) done) := by
  have hsort := sorti_ctr (done.map Int.ofNat) (by rw [List.length_map]; omega)
  rw [chg_sort hp hs, List.length_map] at hsort
  have hlen : done.length = ks.length := hp.length_eq
  simp +contextual -implicitDefEqProofs (maxSteps := 1000000) only [c_chg9, chgS_eq, chgB_eq, sm, sn, sxx, smp, seval]
  refine callM_rule [6] hsort (by decide) ?_ ?_ ?_ ?_ ?_ ?_
  · simp +contextual -implicitDefEqProofs (maxSteps := 1000000) only [sm, sn, sxx, smp, seval]
  · simp +contextual -implicitDefEqProofs (maxSteps := 1000000) only [sm, sn, sxx, smp, seval]
  · simp +contextual -implicitDefEqProofs (maxSteps := 1000000) only [sm, sn, sxx, smp, seval]
  · simp +contextual -implicitDefEqProofs (maxSteps := 1000000) only [sm, sn, sxx, smp, seval]
  · simp +contextual -implicitDefEqProofs (maxSteps := 1000000) only [sm, sn, sxx, smp, seval]
  · have en : encK [] = 0 := rfl
    have htk : ((ks.map Int.ofNat).map eI).take ks.length = (ks.map Int.ofNat).map eI := List.take_of_length_le (by simp)
    simp +contextual -implicitDefEqProofs (maxSteps := 1000000) only [sm, sn, sxx, smp, seval, hlen, h_ret, h_normal]
    refine ⟨[0, 1, 2, 3, 4], by decide, rfl, ?_, ?_⟩
    · simp +contextual -implicitDefEqProofs (maxSteps := 1000000) only [sm, sn, sxx, smp, seval, flatL_Ent, sB_eq, en]
    · simp +contextual -implicitDefEqProofs (maxSteps := 1000000) only [sm, sn, sxx, smp, seval, killL, hlen, htk]
theorem Changed_ctr (d : List (List Rg)) (tr : List (Int × List Rg)) (lv : List Int) (ks : List Nat) (hk : ks.length ≤ 1000000000000) :
    Ctr Try.prog 20 [.ptr 5 0 0 0] (sB d tr lv ks) (.list 1 ((ks.map Int.ofNat).map eI)) (sB d tr lv []) := by
  refine ⟨Try.call20, ?_⟩
  intro w0 pr fz pl w cs hS hcl hA
  have hT0 := start_rep hcl hA 28
  have hpl0 : pl.length = 5 := by rw [hS.len]; rfl
  refine calls_of_wp Try.func20 rfl ?_
  show (List.foldr Code.seq _ [_, _, _]).wp _ _ _ _
  refine wp_awpL (mt := kd_CTrail) (m := 5) _ [c_chg0, c_chg1, c_chg2] (by kernel_rfl) _ _ _ _ _ _ (chg_ahead d tr lv ks) hT0 hS (by omega) ?_ (fun _ _ _ _ _ _ _ _ hq => False.elim hq)
  rintro l1 bx1 a1 w1 fz1 pl1 ⟨rfl, rfl⟩ le1 ht1 hm1 hT1 S1 hd1
  refine wp_seq (wp_seq (wp_region ?_))
  refine opers_pre (mt := kd_CTrail) [_, _, _, _] [_] 0 c_chg4 rfl (by kernel_rfl) _ _ _ _ _ _ _ (chg_load d tr lv ks) hT1 S1 ?_
  rintro l2 bx2 a2 w2 fz2 pl2 ⟨rfl, rfl⟩ le2 hp2 hT2 S2 hd2
  have r11 : Rep fz2 pl2 (.mp 4) (a2.tmps.getD 11 undef) := hT2.2 11
  obtain ⟨b, o, hv, M⟩ := S2.mapBox (k := 4) (sz := encK ks + 1) rfl (by omega) r11
  obtain ⟨es, clock, ks', rfl, hsz, hmk⟩ := M.map
  have hks : ks' = ks := encK_inj (by omega)
  subst hks
  have hum : isMapB Try.prog 60 = true := by kernel_rfl
  obtain ⟨tk, te, hu⟩ : ∃ k e, Try.prog.underlying 60 = some (.map k e) := by
    unfold isMapB at hum
    split at hum
    · exact ⟨_, _, by assumption⟩
    · cases hum
  have hrng : (Instr.range 60 (.map (some b))).run Try.prog w2 = .ok (.pointer (some ⟨w2.heap.size, 0, none⟩)) (w2.alloc (.mapIter (some b) clock #[] clock)) := by
    have hget : (getObj b).run Try.prog w2 = .ok (.map es clock) w2 := by simp [getObj, Sem.run, M.heap]
    simp [Instr.range, run_underlying hu, hget]
  show wpOps _ _ _ [4] _ _
  refine Av.wpOps_cons (o := ⟨some 12, .range 60 (.tmp 11), _, _, _, none⟩) rfl rfl (op_val (cv := .pointer (some ⟨w2.heap.size, 0, none⟩)) (w' := w2.alloc (.mapIter (some b) clock #[] clock)) ?_ ?_)
  · have : a2.eval (.tmp 11) = .map (some b) := hv
    simp only [execOp, this, Sem.run_bind, hrng]; rfl
  have hlt : b < w2.heap.size := (Array.getElem?_eq_some_iff.1 M.heap).1
  have hbr : b ≠ w2.heap.size := by omega
  have hpl2 : pl2.length = 5 := by rw [S2.len]; rfl
  have hprr : pr w2.heap.size = none := by
    cases hx : pr w2.heap.size with
    | none => rfl
    | some x => have := (Array.getElem?_eq_some_iff.1 (S2.prt _ _ hx)).1; omega
  have S3 := ((S2.aside (k := 4) (sz := encK ks' + 1) rfl M).alloc_prt (.mapIter (some b) clock #[] clock)).hollow 1
  have pre3 : pl2 <+: pl2 ++ [some (w2.heap.size, 0)] ++ [none] := by rw [List.append_assoc]; exact List.prefix_append _ _
  have g5 : (pl2 ++ [some (w2.heap.size, 0)] ++ [none])[5]? = some (some (w2.heap.size, 0)) := by
    rw [List.getElem?_append_left (by simp; omega), List.getElem?_append_right (by omega), hpl2]; rfl
  have hT3 := set_nil (sz := 1) (k := 6) (t := 3) ((hT2.mono (.refl _) pre3).put (some 12) (v := .ptr 1 5 0 0) (c := .pointer (some ⟨w2.heap.size, 0, none⟩)) (by
    have := Rep.ptr (fz := fz2) 1 5 0 0 _ _ g5
    simpa using this)) rfl
  have hT4 : RepT fz2 (pl2 ++ [some (w2.heap.size, 0)] ++ [none]) (chgS []) _ := hT3.weak (by
    simp [chgS, chgL2, tm, setT, putT, wkTs])
  refine wp_keys (mt := kd_CTrail) (ac7 := c_chg7) (by kernel_rfl) (N := 28) (S := chgS) (B := chgB d tr lv none) (kr := 5) (M := 6) (ks := ks') (b := b) (r := w2.heap.size) (es := es) (clock := clock) (by decide) (by decide) (by decide) hbr ?_ ?_ hmk g5 (by simp; omega) hT4 S3 ?_
  · intro done
    exact ⟨rfl, rfl, rfl, rfl, rfl, rfl⟩
  · intro done x hdl _ _
    exact chg_step d tr lv done x (by omega)
  intro done oi a5 w5 fz5 pl5 hperm le5 ht5 hm5 hT5 S5 hd5
  have g4 : pl5[4]? = some (some (b, 0)) := by
    have h1 : (pl5.take 6)[4]? = ((pl2 ++ [some (w2.heap.size, 0)] ++ [none]).take 6)[4]? := by rw [ht5]
    rw [List.getElem?_take, List.getElem?_take, if_pos (by omega), if_pos (by omega)] at h1
    rw [h1, List.append_assoc, List.getElem?_append_left (by omega)]
    exact M.plc
  have S6 := S5.unlay (pr := pr) (k := 4) (sz := encK ks' + 1) rfl (by show 4 < 7; omega) g4 (prI_b hbr) ⟨es, clock, ks', rfl, rfl, hmk⟩ (by
    intro c x hc
    unfold prI
    rw [if_neg (by rintro rfl; rw [hprr] at hc; cases hc), if_neg (by rintro rfl; rw [M.npr] at hc; cases hc)]
    exact hc) M.npr
  have ht5' : pl5.take 5 = pl.take 5 := by
    have h1 : (pl5.take 6).take 5 = ((pl2 ++ [some (w2.heap.size, 0)] ++ [none]).take 6).take 5 := by rw [ht5]
    rw [List.take_take, List.take_take, List.append_assoc, List.take_append_of_le_length (by omega)] at h1
    have h2 : pl2.take 5 = pl.take 5 := by
      rw [← ht1]
      obtain ⟨q, rfl⟩ := hp2
      rw [List.take_append_of_le_length hm1]
    exact h1.trans h2
  refine awp_sound (m := 5) (mt := kd_CTrail) _ c_chg9 (by kernel_rfl) _ (chgS done) _ fz5 pl5 a5 w5 (chg_end d tr lv ks' done (by rw [hperm.length_eq]; omega) hperm hmk.2.1) hT5 S6 (by omega) _ ?_
  intro e l6 bx6 a6 w6 fz6 pl6 hq h1 h2 h3 h4 h5 h6
  exact fin_end (bs := sB d tr lv ks') (bs' := sB d tr lv []) (rz := [.tmp 2]) rfl hq (((le1.trans le2).trans le5).trans h1) (h2.trans ht5') h3 hpl0 h4 h5 (by rw [h6, hd5]; exact hd2.trans hd1)
end Go.Proofs.Ytbmcjhjbifojnaa
