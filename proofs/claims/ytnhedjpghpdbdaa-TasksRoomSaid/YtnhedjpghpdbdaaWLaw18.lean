/- alive, mine, few of package touchstonelaw18. -/
import Derived.Test.YtnhedjpghpdbdaaWTask4
import Derived.Test.YtnhedjpghpdbdaaPlTask3
import Derived.Test.YtnhedjpghpdbdaaGSet
import Derived.Test.YtnhedjpghpdbdaaGRef08
import Derived.Test.YtnhedjpghpdbdaaGRef12
import Derived.Test.YtnhedjpghpdbdaaCLaw18
namespace Go.Proofs.Ytnhedjpghpdbdaa
open Av
attribute [local irreducible] awp awpOpers
set_option linter.unusedSimpArgs false
set_option linter.unusedVariables false
set_option maxRecDepth 100000
set_option maxHeartbeats 4000000
theorem alive18_1 : tasksL (19, [0, 1], [3, 2, 1, 1], 1) [[(2, 3)], [(2, 9)]] = ([[(2, 3)], [(5, 9)]], 0) := by
  rw [tasks_same_as]
  decide +kernel
theorem alive18_2 : loadL (19, [0, 1], [3, 2, 1, 1], 1) [[(2, 3)], [(2, 9)]] 3 = (1, true) := by decide +kernel
theorem alive18_3 : tasksL (15, [0, 1], [], 0) [[(2, 3)], [(2, 9)]] = ([], 10) := by
  rw [tasks_same_as]
  decide +kernel
theorem law18_alive : Ctr Try.prog 18 [] [] (.bool true) [] := by
  refine call_pure Try.func18 Try.call18 e_law18_alive ?_
  simp +contextual -implicitDefEqProofs (maxSteps := 1000000) only [c_law18_alive, sm, sn, sxx, seval]
  refine callA_rule (tasks_Narrow (19, [0, 1], [3, 2, 1, 1], 1) [[(2, 3)], [(2, 9)]] (by decide) (by decide) ⟨by decide, by decide⟩) ?_ ?_ ?_
  · simp +contextual -implicitDefEqProofs (maxSteps := 1000000) only [sm, sn, sxx, seval, eCon, eIs, eI, eDoms, eRgs, eRg]
  · rfl
  rw [alive18_1]
  simp +contextual -implicitDefEqProofs (maxSteps := 1000000) only [sm, sn, sxx, seval, eDoms]
  refine callA_rule (tasks_Load (19, [0, 1], [3, 2, 1, 1], 1) [[(2, 3)], [(2, 9)]] 3 (by decide) (by decide) ⟨by decide, by decide⟩) ?_ ?_ ?_
  · simp +contextual -implicitDefEqProofs (maxSteps := 1000000) only [sm, sn, sxx, seval, eCon, eIs, eI, eDoms, eRgs, eRg]
  · rfl
  rw [alive18_2]
  simp +contextual -implicitDefEqProofs (maxSteps := 1000000) only [sm, sn, sxx, seval, eDoms]
  refine callA_rule (tasks_Narrow (15, [0, 1], [], 0) [[(2, 3)], [(2, 9)]] (by decide) (by decide) ⟨by decide, by decide⟩) ?_ ?_ ?_
  · simp +contextual -implicitDefEqProofs (maxSteps := 1000000) only [sm, sn, sxx, seval, eCon, eIs, eI, eDoms, eRgs, eRg]
  · rfl
  rw [alive18_3]
  simp +contextual -implicitDefEqProofs (maxSteps := 1000000) only [sm, sn, sxx, seval, eDoms, eRgs, eRg]
  refine callA_rule (law08_Ranges [(5, 9)] [(5, 9)] (by decide)) ?_ ?_ ?_
  · simp +contextual -implicitDefEqProofs (maxSteps := 1000000) only [sm, sn, sxx, seval, eRgs, eRg]
  · rfl
  simp +contextual -implicitDefEqProofs (maxSteps := 1000000) only [sm, sn, sxx, seval]
def kind18B (K : Int) : Bool := decide (K = 19)
def mine18B (c : Con) (D : List (List Rg)) : Bool := kind18B c.1 && fitsB c D && fitB c D
theorem law18_mine (c : Con) (D : List (List Rg)) : Ctr Try.prog 23 [eCon c, eDoms D] [] (.bool (mine18B c D)) [] := by
  obtain ⟨K, X, A, C⟩ := c
  refine call_pure Try.func23 Try.call23 e_law18_mine ?_
  by_cases k1 : K = 19
  · subst k1
    have hk : kind18B 19 = true := by decide
    simp +contextual -implicitDefEqProofs (maxSteps := 1000000) only [c_law18_mine, eCon, eIs, eDoms, sm, sn, sxx, seval, Int.reduceLE]
    refine callA_rule (law12_Fits (19, X, A, C) D) (by simp +contextual -implicitDefEqProofs (maxSteps := 1000000) only [sm, sn, sxx, seval, eCon, eIs, eDoms]) rfl ?_
    cases hF : fitsB (19, X, A, C) D
    · simp +contextual -implicitDefEqProofs (maxSteps := 1000000) only [sm, sn, sxx, seval]
      simp [mine18B, hF]
    obtain ⟨s1, s2, s3, s4⟩ := fits_facts hF
    simp only at s3 s4
    simp +contextual -implicitDefEqProofs (maxSteps := 1000000) only [sm, sn, sxx, seval, eCon, eIs]
    refine callA_rule (ref12_Fit (19, X, A, C) D (by omega) (fun d h => by have := s2 d h; omega) ⟨by simp only; omega, by simp only; omega⟩) (by simp +contextual -implicitDefEqProofs (maxSteps := 1000000) only [sm, sn, sxx, seval, eCon, eIs, eDoms]) rfl ?_
    simp +contextual -implicitDefEqProofs (maxSteps := 1000000) only [sm, sn, sxx, seval]
    simp [mine18B, hF, hk]
  · have hk : kind18B K = false := by simp only [kind18B, Bool.and_eq_false_iff, Bool.or_eq_false_iff, decide_eq_false_iff_not]; omega
    simp +contextual -implicitDefEqProofs (maxSteps := 1000000) only [c_law18_mine, eCon, eIs, eDoms, sm, sn, sxx, seval, k1]
    simp [mine18B, hk]
theorem mine18_facts {c : Con} {D : List (List Rg)} (h : mine18B c D = true) : (c.1 = 19) ∧ fitsB c D = true ∧ modB (D, [c], 0, 0) = true := by
  simp only [mine18B, kind18B, Bool.and_eq_true, Bool.or_eq_true, decide_eq_true_eq] at h
  exact ⟨by omega, h.1.2, h.2⟩
def fewT1 (d : List Rg) : Bool := !(decide (0 < d.length) && decide (3000 < IntKind.i64.wrap ((edAt d (d.length - 1)).2 - (edAt d 0).1)))
def fewTB (D : List (List Rg)) : Bool := D.all fewT1
theorem law18_few (D : List (List Rg)) (hD : D.length ≤ 1000000000000) (hd : ∀ d ∈ D, d.length ≤ 1000000000000) : Ctr Try.prog 19 [eDoms D] [] (.bool (fewTB D)) [] := by
  refine call_pure Try.func19 Try.call19 e_law18_few ?_
  simp +contextual -implicitDefEqProofs (maxSteps := 1000000) only [c_law18_few, eDoms, sm, sn, sxx, seval]
  refine loop_rule (fun k : Nat => k ≤ D.length ∧ ∀ (j : Nat) x, j < k → D[j]? = some x → fewT1 x = true) (fun k => tm 30 [(5, .list 1 (D.map eRgs)), (6, .int .i64 D.length), (7, .int .i64 k)]) (fun k => []) (fun k => D.length - k) 0 ⟨by omega, by omega⟩ ⟨[], by decide, rfl, ?_, ?_⟩ ?_
  · simp +contextual -implicitDefEqProofs (maxSteps := 1000000) only [sm, sn, sxx, seval]
  · simp +contextual -implicitDefEqProofs (maxSteps := 1000000) only [sm, sn, sxx, seval, Int.natCast_zero]
  · rintro k ⟨hk, hok⟩
    by_cases hlt : k < D.length
    · obtain ⟨x, hx⟩ : ∃ r, D[k]? = some r := ⟨_, List.getElem?_eq_getElem hlt⟩
      have hlt' : (k : Int) < (D.length : Int) := by omega
      have e2 : IntKind.i64.wrap ((k : Int) + 1) = ((k + 1 : Nat) : Int) := by rw [wrap_i64] <;> omega
      have hxl := hd _ (List.mem_of_getElem? hx)
      by_cases h0 : x.length = 0
      · have h0' : (x.length : Int) = 0 := by omega
        have hp0 : fewT1 x = true := by
          unfold fewT1
          rw [show decide (0 < x.length) = false by rw [h0]; rfl]
          rfl
        simp +contextual -implicitDefEqProofs (maxSteps := 1000000) only [sm, sn, sxx, seval, hlt', hx, eRgs, h0', Int.lt_irrefl, e2]
        refine ⟨k + 1, ⟨by omega, ?_⟩, by omega, [], by decide, rfl, ?_, ?_⟩
        · intro j y hj hy
          rcases Nat.lt_succ_iff_lt_or_eq.1 hj with h | rfl
          · first | exact hok j y h hy | simpa using hok j y h hy
          · rw [hx] at hy; injection hy with hy; subst hy; exact hp0
        · simp +contextual -implicitDefEqProofs (maxSteps := 1000000) only [sm, sn, sxx, seval]
        · simp +contextual -implicitDefEqProofs (maxSteps := 1000000) only [sm, sn, sxx, seval]
      have h0' : (0 : Int) < (x.length : Int) := by omega
      have w1 : IntKind.i64.wrap ((x.length : Int) - 1) = ((x.length - 1 : Nat) : Int) := by rw [wrap_i64] <;> omega
      have g0 := edAt_get (l := x) (k := 0) (by omega)
      have g1 := edAt_get (l := x) (k := x.length - 1) (by omega)
      have hp : fewT1 x = !decide (3000 < IntKind.i64.wrap ((edAt x (x.length - 1)).2 - (edAt x 0).1)) := by
        unfold fewT1
        rw [show decide (0 < x.length) = true from decide_eq_true (by omega)]
        rfl
      obtain ⟨⟨a1, a2⟩, ha⟩ : ∃ y, edAt x 0 = y := ⟨_, rfl⟩
      obtain ⟨⟨b1, b2⟩, hb⟩ : ∃ y, edAt x (x.length - 1) = y := ⟨_, rfl⟩
      rw [ha, hb] at hp
      rw [ha] at g0
      rw [hb] at g1
      simp only at hp
      have hl1 : x.length - 1 < x.length := by omega
      have hl0 : 0 < x.length := by omega
      by_cases hc : 3000 < IntKind.i64.wrap (b2 - a1)
      · have hno : fewTB D = false := listall_no hx (by rw [hp]; simp [hc])
        rw [hno]
        simp +contextual -implicitDefEqProofs (maxSteps := 1000000) only [sm, sn, sxx, seval, hlt', hx, eRgs, h0', w1, g0, g1, hl1, hl0, hc]
      · have hp1 : fewT1 x = true := by rw [hp]; simp [hc]
        simp +contextual -implicitDefEqProofs (maxSteps := 1000000) only [sm, sn, sxx, seval, hlt', hx, eRgs, h0', w1, g0, g1, hl1, hl0, hc, e2]
        refine ⟨k + 1, ⟨by omega, ?_⟩, by omega, [], by decide, rfl, ?_, ?_⟩
        · intro j y hj hy
          rcases Nat.lt_succ_iff_lt_or_eq.1 hj with h | rfl
          · first | exact hok j y h hy | simpa using hok j y h hy
          · rw [hx] at hy; injection hy with hy; subst hy; exact hp1
        · simp +contextual -implicitDefEqProofs (maxSteps := 1000000) only [sm, sn, sxx, seval]
        · simp +contextual -implicitDefEqProofs (maxSteps := 1000000) only [sm, sn, sxx, seval]
    · have hke : k = D.length := by omega
      subst hke
      have hall := listall_yes hok
      have hu : fewTB D = true := hall
      rw [hu]
      simp +contextual -implicitDefEqProofs (maxSteps := 1000000) only [sm, sn, sxx, seval, Int.lt_irrefl]
end Go.Proofs.Ytnhedjpghpdbdaa
