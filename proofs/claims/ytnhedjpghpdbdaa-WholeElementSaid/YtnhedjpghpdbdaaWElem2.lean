/- What elem.of computes. -/
import Derived.Test.YtnhedjpghpdbdaaPlElem
import Derived.Test.YtnhedjpghpdbdaaGSet
import Derived.Test.YtnhedjpghpdbdaaCElem
namespace Go.Proofs.Ytnhedjpghpdbdaa
open Av
attribute [local irreducible] awp awpOpers
set_option linter.unusedSimpArgs false
set_option linter.unusedVariables false
set_option maxRecDepth 100000
set_option maxHeartbeats 4000000
def chsA (A : List Int) : List Ch := (List.range A.length).map fun i => (((i + 1 : Nat) : Int), [(xat A i, xat A i)])
def chsX (D : List (List Rg)) (Y : List Int) : List Ch := (List.range Y.length).map fun i => (((i + 1 : Nat) : Int), rowOf D (xat Y i))
theorem chsA_len (A : List Int) : (chsA A).length = A.length := by unfold chsA; simp
theorem chsX_len (D : List (List Rg)) (Y : List Int) : (chsX D Y).length = Y.length := by unfold chsX; simp
theorem chsA_get {A : List Int} {k : Nat} (h : k < A.length) : (chsA A)[k]? = some (((k + 1 : Nat) : Int), [(xat A k, xat A k)]) := by unfold chsA; rw [List.getElem?_map, List.getElem?_range h]; rfl
theorem chsX_get {D : List (List Rg)} {Y : List Int} {k : Nat} (h : k < Y.length) : (chsX D Y)[k]? = some (((k + 1 : Nat) : Int), rowOf D (xat Y k)) := by unfold chsX; rw [List.getElem?_map, List.getElem?_range h]; rfl
def lastV0 (X : List Int) : Int := xat X (X.length - 1)
/-- an element's boxes -/
def elB (i r : Int) (L : List Ch) (D : List (List Rg)) : Bx := [some (4, [.agg [.int .i64 i, .int .i64 r, .sl 2 1 0 L.length, .sl 1 2 0 D.length]]), some (2, L.map eCh), some (1, D.map eRgs)]
theorem elB_eq (i r : Int) (L : List Ch) (D : List (List Rg)) : elB i r L D = [some (4, [.agg [.int .i64 i, .int .i64 r, .sl 2 1 0 L.length, .sl 1 2 0 D.length]]), some (2, L.map eCh), some (1, D.map eRgs)] := rfl
theorem elem_of_tab (X A : List Int) (C : Int) (D : List (List Rg)) (hD : D.length ≤ 1000000000000) (hX : 2 ≤ X.length) (hXb : X.length ≤ 1000) (hA : A.length ≤ 1000) :
    Ctr Try.prog 34 [eCon (16, X, A, C), eDoms D] [] (.tuple [.ptr 4 0 0 0, .bool true]) (elB (xat X 0) (lastV0 X) (chsA A) D) := by
  refine call_box Try.func34 Try.call34 e_elem_of ?_
  have w1 : IntKind.i64.wrap ((X.length : Int) - 1) = ((X.length - 1 : Nat) : Int) := by rw [wrap_i64] <;> omega
  have g0 : X[0]? = some (xat X 0) := xat_get (by omega)
  have g1 : X[X.length - 1]? = some (lastV0 X) := xat_get (by omega)
  have hLl := chsA_len A
  have hLg : ∀ k, k < A.length → (chsA A)[k]? = some (((k + 1 : Nat) : Int), [(xat A k, xat A k)]) := fun k h => chsA_get h
  generalize chsA A = L at hLl hLg ⊢
  simp +contextual -implicitDefEqProofs (maxSteps := 1000000) only [c_elem_of, eCon, eIs, eDoms, sm, sn, sxx, seval, w1, g0, g1]
  refine callO_rule (clone_doms D hD) rfl (wkL_refl _) rfl ?_ ?_
  · simp +contextual -implicitDefEqProofs (maxSteps := 1000000) only [sm, sn, sxx, seval]
  simp +contextual -implicitDefEqProofs (maxSteps := 1000000) only [sm, sn, sxx, seval, eCon, eIs, w1, g0, g1]
  refine loop_ruleF [(2, 2, 2)] [] (fun k : Nat => k ≤ A.length) (fun k => tm 92 [(6, .ptr 4 1 0 0), (36, .list 1 (A.map eI)), (37, .int .i64 A.length), (38, .int .i64 k)])
    (fun k => [some (1, D.map eRgs), some (4, [.agg [.int .i64 (xat X 0), .int .i64 (lastV0 X), .sl 2 2 0 k, .sl 1 0 0 D.length]]), some (2, (L.take k).map eCh)]) (fun k => A.length - k) 0 (by simp +contextual -implicitDefEqProofs (maxSteps := 1000000) only [sm, sn, sxx, seval, eCon, eIs]) rfl (Nat.zero_le _) ⟨[1, 2, 3], by decide, rfl, ?_, ?_⟩ ?_
  · simp +contextual -implicitDefEqProofs (maxSteps := 1000000) only [sm, sn, sxx, seval, eCon, eIs]
  · simp +contextual -implicitDefEqProofs (maxSteps := 1000000) only [sm, sn, sxx, seval, Int.natCast_zero]
  intro k hk
  have htl : (L.take k).length = k := by rw [List.length_take]; omega
  by_cases hlt : k < A.length
  · have hlt' : (k : Int) < (A.length : Int) := by omega
    have e2 : IntKind.i64.wrap ((k : Int) + 1) = ((k + 1 : Nat) : Int) := by rw [wrap_i64] <;> omega
    have c1 : (k + 1) * 32 ≤ 140737488355328 := by omega
    have c2 : k + 1 ≤ maxLen := by unfold maxLen; omega
    have hs := take_snoc (hLg k hlt)
    have ha := xat_get (X := A) hlt
    have hsn : (L.take k).map eCh ++ [AV.agg [.int .i64 ((k + 1 : Nat) : Int), .list 2 [.agg [.int .i64 (xat A k), .int .i64 (xat A k)]]]] = (L.take (k + 1)).map eCh := by
      rw [← hs, List.map_append]; rfl
    simp +contextual -implicitDefEqProofs (maxSteps := 1000000) only [sm, sn, sxx, seval, hlt', e2, htl, c1, c2, hsn, ha]
    refine ⟨k + 1, by omega, by omega, [0, 1, 3], by decide, rfl, ?_, ?_⟩
    · simp +contextual -implicitDefEqProofs (maxSteps := 1000000) only [sm, sn, sxx, seval, eCh_flat]
    · simp +contextual -implicitDefEqProofs (maxSteps := 1000000) only [sm, sn, sxx, seval]
  · have hkn : k = A.length := by omega
    subst hkn
    have ht : L.take A.length = L := by rw [← hLl, List.take_length]
    rw [ht, ← hLl]
    simp +contextual -implicitDefEqProofs (maxSteps := 1000000) only [sm, sn, sxx, seval, Int.lt_irrefl, hLl, elB_eq, eCh_flat]
    refine ⟨[], [1, 2, 0], by decide, ?_⟩
    simp +contextual -implicitDefEqProofs (maxSteps := 1000000) only [sm, sn, sxx, seval, elB_eq, hLl, eCh_flat]
    try rfl
theorem elem_of_var (X A : List Int) (C : Int) (D : List (List Rg)) (hD : D.length ≤ 1000000000000) (hX : 2 ≤ X.length) (hXb : X.length ≤ 1000) (hA : A.length ≤ 1000) (h3 : 3 ≤ X.length) (hI : InD D X) :
    Ctr Try.prog 34 [eCon (17, X, A, C), eDoms D] [] (.tuple [.ptr 4 0 0 0, .bool true]) (elB (xat X 0) (lastV0 X) (chsX D ((X.take (X.length - 1)).drop 1)) D) := by
  refine call_box Try.func34 Try.call34 e_elem_of ?_
  have w1 : IntKind.i64.wrap ((X.length : Int) - 1) = ((X.length - 1 : Nat) : Int) := by rw [wrap_i64] <;> omega
  have g0 : X[0]? = some (xat X 0) := xat_get (by omega)
  have g1 : X[X.length - 1]? = some (lastV0 X) := xat_get (by omega)
  have hYl : ((X.take (X.length - 1)).drop 1).length = X.length - 2 := by rw [List.length_drop, List.length_take]; omega
  have hYi : ∀ k, k < ((X.take (X.length - 1)).drop 1).length → 0 ≤ xat ((X.take (X.length - 1)).drop 1) k ∧ xat ((X.take (X.length - 1)).drop 1) k < D.length := fun k hk => by
    have e : xat ((X.take (X.length - 1)).drop 1) k = xat X (1 + k) := by
      unfold xat
      rw [List.getElem?_drop, List.getElem?_take, if_pos (by omega)]
    rw [e]
    exact hI _ (by omega)
  have hde : List.drop 1 (List.take (X.length - 1) (X.map eI)) = ((X.take (X.length - 1)).drop 1).map eI := by rw [← List.map_take, ← List.map_drop]
  have q1 : 1 ≤ X.length - 1 := by omega
  have q2 : X.length - 1 ≤ X.length := by omega
  generalize (X.take (X.length - 1)).drop 1 = Y at hYl hYi hde ⊢
  have hLl := chsX_len D Y
  have hLg : ∀ k, k < Y.length → (chsX D Y)[k]? = some (((k + 1 : Nat) : Int), rowOf D (xat Y k)) := fun k h => chsX_get h
  generalize chsX D Y = L at hLl hLg ⊢
  simp +contextual -implicitDefEqProofs (maxSteps := 1000000) only [c_elem_of, eCon, eIs, eDoms, sm, sn, sxx, seval, w1, g0, g1]
  refine callO_rule (clone_doms D hD) rfl (wkL_refl _) rfl ?_ ?_
  · simp +contextual -implicitDefEqProofs (maxSteps := 1000000) only [sm, sn, sxx, seval]
  simp +contextual -implicitDefEqProofs (maxSteps := 1000000) only [sm, sn, sxx, seval, eCon, eIs, w1, g0, g1, hde, q1, q2]
  refine loop_ruleF [(2, 2, 2)] [] (fun k : Nat => k ≤ Y.length) (fun k => tm 92 [(1, .list 1 (D.map eRgs)), (6, .ptr 4 1 0 0), (67, .list 1 (Y.map eI)), (68, .int .i64 Y.length), (69, .int .i64 k)])
    (fun k => [some (1, D.map eRgs), some (4, [.agg [.int .i64 (xat X 0), .int .i64 (lastV0 X), .sl 2 2 0 k, .sl 1 0 0 D.length]]), some (2, (L.take k).map eCh)]) (fun k => Y.length - k) 0 (by simp +contextual -implicitDefEqProofs (maxSteps := 1000000) only [sm, sn, sxx, seval, eCon, eIs]) rfl (Nat.zero_le _) ⟨[1, 2, 3], by decide, rfl, ?_, ?_⟩ ?_
  · simp +contextual -implicitDefEqProofs (maxSteps := 1000000) only [sm, sn, sxx, seval, eCon, eIs]
  · simp +contextual -implicitDefEqProofs (maxSteps := 1000000) only [sm, sn, sxx, seval, Int.natCast_zero]
  intro k hk
  have htl : (L.take k).length = k := by rw [List.length_take]; omega
  by_cases hlt : k < Y.length
  · have hlt' : (k : Int) < (Y.length : Int) := by omega
    have e2 : IntKind.i64.wrap ((k : Int) + 1) = ((k + 1 : Nat) : Int) := by rw [wrap_i64] <;> omega
    have c1 : (k + 1) * 32 ≤ 140737488355328 := by omega
    have c2 : k + 1 ≤ maxLen := by unfold maxLen; omega
    have hs := take_snoc (hLg k hlt)
    have hy := xat_get (X := Y) hlt
    have hyi := hYi k hlt
    have hr := row_get hyi
    have hx0 := hyi.1
    have hsn : (L.take k).map eCh ++ [AV.agg [.int .i64 ((k + 1 : Nat) : Int), .list 2 ((rowOf D (xat Y k)).map eRg)]] = (L.take (k + 1)).map eCh := by
      rw [← hs, List.map_append]; rfl
    simp +contextual -implicitDefEqProofs (maxSteps := 1000000) only [sm, sn, sxx, seval, hlt', e2, htl, c1, c2, hsn, hy, hr, hx0]
    refine ⟨k + 1, by omega, by omega, [0, 1, 3], by decide, rfl, ?_, ?_⟩
    · simp +contextual -implicitDefEqProofs (maxSteps := 1000000) only [sm, sn, sxx, seval, eCh_flat]
    · simp +contextual -implicitDefEqProofs (maxSteps := 1000000) only [sm, sn, sxx, seval]
  · have hkn : k = Y.length := by omega
    subst hkn
    have ht : L.take Y.length = L := by rw [← hLl, List.take_length]
    rw [ht, ← hLl]
    simp +contextual -implicitDefEqProofs (maxSteps := 1000000) only [sm, sn, sxx, seval, Int.lt_irrefl, hLl, elB_eq, eCh_flat]
    refine ⟨[], [1, 2, 0], by decide, ?_⟩
    simp +contextual -implicitDefEqProofs (maxSteps := 1000000) only [sm, sn, sxx, seval, elB_eq, hLl, eCh_flat]
    try rfl
end Go.Proofs.Ytnhedjpghpdbdaa
