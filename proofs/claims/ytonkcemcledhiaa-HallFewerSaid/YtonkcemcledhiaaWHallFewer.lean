/- HallFewer. -/
import Derived.Test.YtonkcemcledhiaaWLaw17
import Derived.Test.YtonkcemcledhiaaPlHall3
import Derived.Test.YtonkcemcledhiaaTyU
import Derived.Test.YtonkcemcledhiaaCHallFewer
namespace Go.Proofs.Ytonkcemcledhiaa
open Av
attribute [local irreducible] awp awpOpers
set_option linter.unusedSimpArgs false
set_option linter.unusedVariables false
set_option maxRecDepth 100000
set_option maxHeartbeats 4000000
theorem fewer_room {l : List Rg} {i : Nat} {r : Rg} (hk : l[i]? = some r) (h : roomB l = true) : roomB (l.eraseIdx i) = true := by
  rw [room_iff] at h ⊢
  refine ⟨?_, fun q hq => h.2.1 q (List.mem_of_mem_eraseIdx hq), hr_erase hk h.2.2⟩
  have := erase_len_le l i
  omega
theorem wider_room {l : List Rg} {i : Nat} {x y : Int} (hk : l[i]? = some (x, y)) (hx : -1048576 < x) (h : roomB l = true) : roomB (l.set i (x - 1, y)) = true := by
  rw [room_iff] at h ⊢
  obtain ⟨h1, h2, h3⟩ := h
  have hi := (List.getElem?_eq_some_iff.1 hk).1
  refine ⟨by rw [List.length_set]; exact h1, fun q hq => ?_, hr_wider (l' := l) ⟨by rw [List.length_set], fun k r' r a b => ?_⟩ h3⟩
  · rcases List.mem_or_eq_of_mem_set hq with hq | rfl
    · exact h2 q hq
    · have := inW_iff.1 (h2 _ (List.mem_of_getElem? hk))
      rw [inW_iff]; simp only at this ⊢; omega
  · by_cases hki : i = k
    · subst hki
      rw [List.getElem?_set_self hi] at b
      rw [hk] at a
      injection a with a; injection b with b; subst a; subst b
      simp only; omega
    · rw [List.getElem?_set_ne hki] at b
      rw [a] at b; injection b with b; subst b
      exact ⟨Int.le_refl _, Int.le_refl _⟩
theorem set_rgM (l : List Rg) (i : Nat) (x y : Int) : (l.map eRg).set i (.agg [.int .i64 x, .int .i64 y]) = (l.set i (x, y)).map eRg := by rw [List.map_set]; rfl
theorem rem_nat (a n : Nat) : Int.tmod (a : Int) (n : Int) = ((a % n : Nat) : Int) := by rw [Int.ofNat_tmod]
theorem law_HallFewer (l : List Rg) (at' : Int) (hat : 0 ≤ at' ∧ at' ≤ 255) : Ctr Try.prog 13 [eRgs l, .int .u8 at'] [] (.bool true) [] := by
  refine call_pure Try.func13 Try.call13 e_law17_HallFewer ?_
  simp +contextual -implicitDefEqProofs (maxSteps := 1000000) only [c_law17_HallFewer, eRgs, sm, sn, sxx, seval]
  refine callA_rule law17_alive (wkL_refl _) rfl ?_
  by_cases h : 32 < l.length
  · have h' : (32 : Int) < (l.length : Int) := by omega
    simp +contextual -implicitDefEqProofs (maxSteps := 1000000) only [sm, sn, sxx, seval, h']
  have hn : l.length ≤ 32 := by omega
  have h' : ¬ (32 : Int) < (l.length : Int) := by omega
  by_cases h0 : l.length = 0
  · have h0' : (l.length : Int) = 0 := by omega
    simp +contextual -implicitDefEqProofs (maxSteps := 1000000) only [sm, sn, sxx, seval, h', h0']
  have h0' : ¬ (l.length : Int) = 0 := by omega
  simp +contextual -implicitDefEqProofs (maxSteps := 1000000) only [sm, sn, sxx, seval, h', h0']
  refine callV_rule (hall_Room l (by omega)) (wkL_refl _) rfl ?_
  cases hroom : roomB l
  · simp +contextual -implicitDefEqProofs (maxSteps := 1000000) only [sm, sn, sxx, seval]
  obtain ⟨a, rfl⟩ : ∃ a : Nat, at' = a := ⟨at'.toNat, by omega⟩
  have w0 : IntKind.i64.wrap (a : Int) = a := by rw [wrap_i64] <;> omega
  have hrm := rem_nat a l.length
  have hi : a % l.length < l.length := Nat.mod_lt _ (by omega)
  generalize a % l.length = i at hrm hi
  have w1 : IntKind.i64.wrap ((i : Int) + 1) = ((i + 1 : Nat) : Int) := by rw [wrap_i64] <;> omega
  obtain ⟨⟨x, y⟩, hx⟩ : ∃ r, l[i]? = some r := ⟨_, List.getElem?_eq_getElem hi⟩
  have hle : i ≤ l.length := by omega
  have z0 : (0 ≤ i) = True := by simp
  have hle2 : i + 1 ≤ l.length := by omega
  have t1 : (l.map eRg).take i = (l.take i).map eRg := by rw [List.map_take]
  have t2 : (l.map eRg).drop (i + 1) = (l.drop (i + 1)).map eRg := by rw [List.map_drop]
  have t3 : (l.map eRg).take l.length = l.map eRg := take_map eRg l
  have l1 : (l.take i).length = i := by rw [List.length_take]; omega
  have l2 : (l.drop (i + 1)).length = l.length - (i + 1) := List.length_drop
  have c1 : i * 16 ≤ 140737488355328 := by omega
  have c2 : i ≤ maxLen := by unfold maxLen; omega
  have c3 : (i + (l.length - (i + 1))) * 16 ≤ 140737488355328 := by omega
  have c4 : i + (l.length - (i + 1)) ≤ maxLen := by unfold maxLen; omega
  have c5 : l.length * 16 ≤ 140737488355328 := by omega
  have c6 : l.length ≤ maxLen := by unfold maxLen; omega
  have he : l.take i ++ l.drop (i + 1) = l.eraseIdx i := (List.eraseIdx_eq_take_drop_succ ..).symm
  have hel : (l.eraseIdx i).length = i + (l.length - (i + 1)) := by rw [← he, List.length_append, l1, l2]
  have t5 : List.take (i + (l.length - (i + 1))) ((l.eraseIdx i).map eRg) = (l.eraseIdx i).map eRg := by have := take_map eRg (l.eraseIdx i); rwa [hel] at this
  have t4 : List.take l.length ((l.set i (x - 1, y)).map eRg) = (l.set i (x - 1, y)).map eRg := by have := take_map eRg (l.set i (x - 1, y)); rwa [List.length_set] at this
  have hb := inW_iff.1 ((room_iff.1 hroom).2.1 _ (List.mem_of_getElem? hx))
  simp only at hb
  have w2 : IntKind.i64.wrap (x - 1) = x - 1 := by rw [wrap_i64] <;> omega
  by_cases g : -1048576 < x
  · simp +contextual -implicitDefEqProofs (maxSteps := 1000000) only [sm, sn, sxx, seval, z0, w0, hrm, w1, h0', hle, hle2, t1, t2, t3, l1, l2, c1, c2, c3, c4, c5, c6, hx, g, w2, hi, Nat.le_refl, set_rgM, app_Rg, he, List.length_map, List.nil_append]
    refine callV_rule (hall_Room (l.eraseIdx i) (by omega)) ?_ rfl ?_
    · simp +contextual -implicitDefEqProofs (maxSteps := 1000000) only [sm, sn, sxx, seval, eRgs, hel, t5]
    rw [fewer_room hx hroom]
    simp +contextual -implicitDefEqProofs (maxSteps := 1000000) only [sm, sn, sxx, seval]
    refine callV_rule (hall_Room (l.set i (x - 1, y)) (by rw [List.length_set]; omega)) ?_ rfl ?_
    · simp +contextual -implicitDefEqProofs (maxSteps := 1000000) only [sm, sn, sxx, seval, eRgs, List.length_set, t4]
    rw [wider_room hx g hroom]
    simp +contextual -implicitDefEqProofs (maxSteps := 1000000) only [sm, sn, sxx, seval]
  · simp +contextual -implicitDefEqProofs (maxSteps := 1000000) only [sm, sn, sxx, seval, z0, w0, hrm, w1, h0', hle, hle2, t1, t2, t3, l1, l2, c1, c2, c3, c4, c5, c6, hx, g, w2, hi, Nat.le_refl, set_rgM, app_Rg, he, List.length_map, List.nil_append]
    refine callV_rule (hall_Room (l.eraseIdx i) (by omega)) ?_ rfl ?_
    · simp +contextual -implicitDefEqProofs (maxSteps := 1000000) only [sm, sn, sxx, seval, eRgs, hel, t5]
    rw [fewer_room hx hroom]
    simp +contextual -implicitDefEqProofs (maxSteps := 1000000) only [sm, sn, sxx, seval]
    refine callV_rule (hall_Room l (by omega)) ?_ rfl ?_
    · simp +contextual -implicitDefEqProofs (maxSteps := 1000000) only [sm, sn, sxx, seval, eRgs, t3]
    rw [hroom]
    simp +contextual -implicitDefEqProofs (maxSteps := 1000000) only [sm, sn, sxx, seval]
end Go.Proofs.Ytonkcemcledhiaa
