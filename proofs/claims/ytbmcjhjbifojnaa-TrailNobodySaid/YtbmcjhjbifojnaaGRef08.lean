/- The code of functions, as abstract code. Printed by program. What the functions of package touchstoneref08 compute. What the functions of package touchstoneref08 compute: shape. What the functions of package touchstoneref08 compute: truths, Con. What the functions of package touchstoneref08 compute: Con. What the functions of package touchstoneref08 compute: Right. What the functions of package touchstonelaw08 compute that other chapters ask; Fits, Fit. -/
import Derived.Test.YtbmcjhjbifojnaaAv2
import Derived.Test.YtbmcjhjbifojnaaProg
import Derived.Test.YtbmcjhjbifojnaaGMod
import Derived.Test.YtbmcjhjbifojnaaGSet
namespace Go.Proofs.Ytbmcjhjbifojnaa
open Av
set_option linter.unusedVariables false
set_option maxRecDepth 100000
def kd_CRef08 (f : Nat) : Nat := 0
/- touchstone/touchstoneref08.truths: slots m, 0, x, 1, m, 2, x, 3, i, 5 -/
/- touchstone/touchstoneref08.truth: slots l, 0, l, 1 -/
/- touchstone/touchstoneref08.signs: slots a, 0, a, 1, i, 3 -/
/- touchstone/touchstoneref08.shape: slots c, 0, c, 1, n, 3, k, 4 -/
/- touchstone/touchstoneref08.none: slots a, 0, a, 1, i, 3 -/
/- touchstone/touchstoneref08.named: slots kind, 0, kind, 1 -/
/- touchstone/touchstoneref08.Con: slots m, 0, c, 1, m, 2, c, 3, i, 5, i, 6 -/
/- touchstone/touchstoneref08.Right: slots m, 0, m, 1, i, 3, i, 4 -/
/- touchstone/touchstoneref08.Dom: slots l, 0, l, 1, i, 3 -/
/- touchstone/touchstonelaw08.Small: slots m, 0, m, 1, _, 3, d, 4, _, 5, c, 6 -/
/- touchstone/touchstonelaw08.Doms: slots a, 0, b, 1, a, 2, b, 3, i, 5 -/
def c_law08_Doms : AFunc := ⟨27, [.tmp 4],
  .seq (.region (⟨some 4, .mov (.val (.bool false)), none⟩ :: [])) <|
  .seq (.seq (.region (⟨some 6, .mov (.tmp 0), none⟩ ::
    ⟨some 7, .len false (.tmp 6), none⟩ ::
    ⟨some 8, .mov (.tmp 1), none⟩ ::
    ⟨some 9, .len false (.tmp 8), none⟩ ::
    ⟨some 10, .bin .neq (.tmp 7) (.tmp 9), none⟩ :: [])) <|
  .cond (.tmp 10) (.seq (.region (⟨some 4, .mov (.val (.bool false)), none⟩ :: [])) <|
    .ret) <|
  .skip) <|
  .seq (.seq (.region (⟨some 11, .mov (.tmp 0), none⟩ ::
    ⟨some 12, .len false (.tmp 11), none⟩ ::
    ⟨some 13, .mov (.val (.int .i64 0)), none⟩ :: [])) <|
  .block 0 (.loop (.seq (.region (⟨some 14, .bin .lss (.tmp 13) (.tmp 12), none⟩ :: [])) <|
      .seq (.cond (.tmp 14) (.skip) <|
      .exit 0) <|
      .seq (.block 1 (.seq (.region (⟨some 15, .mov (.tmp 13), none⟩ ::
          ⟨some 5, .mov (.tmp 15), none⟩ :: [])) <|
        .seq (.region (⟨some 16, .mov (.tmp 0), none⟩ ::
          ⟨some 17, .mov (.tmp 5), none⟩ ::
          ⟨some 18, .iaddr 1 (.tmp 16) (.tmp 17), none⟩ ::
          ⟨some 19, .load false 1 (.tmp 18), none⟩ ::
          ⟨some 20, .mov (.tmp 1), none⟩ ::
          ⟨some 21, .mov (.tmp 5), none⟩ ::
          ⟨some 22, .iaddr 1 (.tmp 20) (.tmp 21), none⟩ ::
          ⟨some 23, .load false 1 (.tmp 22), none⟩ ::
          ⟨some 24, .call (.val (.fn (.func 25) [])) [(.tmp 19), (.tmp 23)], none⟩ ::
          ⟨some 25, .un .not (.tmp 24), none⟩ :: [])) <|
        .cond (.tmp 25) (.seq (.region (⟨some 4, .mov (.val (.bool false)), none⟩ :: [])) <|
          .ret) <|
        .skip)) <|
      .region (⟨some 26, .bin .add (.tmp 13) (.val (.int .i64 1)), none⟩ ::
        ⟨some 13, .mov (.tmp 26), none⟩ :: [])))) <|
  .seq (.region (⟨some 4, .mov (.val (.bool true)), none⟩ :: [])) <|
  .ret⟩
theorem e_law08_Doms : cFunc Try.prog kd_CRef08 Try.f21 = some c_law08_Doms := by kernel_rfl
/- touchstone/touchstonelaw12.Fits: slots c, 0, d, 1, c, 2, d, 3 -/
/- touchstone/touchstoneref12.Fit: slots c, 0, d, 1, c, 2, d, 3 -/
end Go.Proofs.Ytbmcjhjbifojnaa
namespace Go.Proofs.Ytbmcjhjbifojnaa
open Av
attribute [local irreducible] awp awpOpers
set_option linter.unusedSimpArgs false
set_option linter.unusedVariables false
set_option maxRecDepth 100000
set_option maxHeartbeats 4000000
def signB (a : Int) : Bool := decide (a = 1) || decide (a = -1)
def nonegB (a : Int) : Bool := !decide (a < 0)
def namedB (K : Int) : Bool := decide (1 ≤ K) && decide (K ≤ 6) || decide (K = 19)
end Go.Proofs.Ytbmcjhjbifojnaa
namespace Go.Proofs.Ytbmcjhjbifojnaa
open Av
attribute [local irreducible] awp awpOpers
set_option linter.unusedSimpArgs false
set_option linter.unusedVariables false
set_option maxRecDepth 100000
set_option maxHeartbeats 4000000
theorem signs_any (l : List Int) : (l.any fun a => decide (a ≠ 1) && decide (a ≠ -1)) = !l.all signB := by
  rw [← any_not]
  congr 1
  funext a
  simp [signB]
theorem none_any (l : List Int) : (l.any fun a => decide (a < 0)) = !l.all nonegB := by
  rw [← any_not]
  congr 1
  funext a
  simp [nonegB]
end Go.Proofs.Ytbmcjhjbifojnaa
namespace Go.Proofs.Ytbmcjhjbifojnaa
open Av
attribute [local irreducible] awp awpOpers
set_option linter.unusedSimpArgs false
set_option linter.unusedVariables false
set_option maxRecDepth 100000
set_option maxHeartbeats 4000000
def inR (D : List (List Rg)) (x : Int) : Bool := decide (0 ≤ x) && decide (x < D.length)
theorem inR_row {D : List (List Rg)} {x : Int} (h : inR D x = true) : D[x.toNat]? = some (rowOf D x) := by
  simp only [inR, Bool.and_eq_true, decide_eq_true_eq] at h
  unfold rowOf
  rw [List.getElem?_eq_getElem (by omega)]; rfl
theorem row_len {D : List (List Rg)} (hd : ∀ d ∈ D, d.length ≤ 1000000000000) (x : Int) : (rowOf D x).length ≤ 1000000000000 := by
  unfold rowOf
  cases h : D[x.toNat]? with
  | none => simp
  | some r => exact hd r (List.mem_of_getElem? h)
def truthAt (D : List (List Rg)) (x : Int) : Bool := truthB (rowOf D x)
theorem xs_zero {D : List (List Rg)} {X : List Int} (h : X.all (inR D) = true) : xsOk D X 0 = true := by
  refine all_yes fun k hk => ?_
  rw [List.all_eq_true] at h
  have := h _ (List.getElem_mem hk)
  simp only [inR, Bool.and_eq_true, decide_eq_true_eq] at this
  simp [xOk, List.getElem?_eq_getElem hk, this]
theorem xs_two {D : List (List Rg)} {X : List Int} (h : X.all (inR D) = true) : xsOk D X 2 = X.all (truthAt D) := by
  rw [List.all_eq_true] at h
  have key : ∀ k, k < X.length → ∀ x, X[k]? = some x → xOk D X 2 k = truthAt D x := by
    intro k hk x hx
    have := h x (List.mem_of_getElem? hx)
    simp only [inR, Bool.and_eq_true, decide_eq_true_eq] at this
    simp [xOk, hx, this, truthAt]
  cases ha : X.all (truthAt D)
  · rw [List.all_eq_false] at ha
    obtain ⟨x, hx, hn⟩ := ha
    obtain ⟨k, hk, rfl⟩ := List.getElem_of_mem hx
    exact all_no hk (by rw [key k hk _ (List.getElem?_eq_getElem hk)]; simpa using hn)
  · rw [List.all_eq_true] at ha
    exact all_yes fun k hk => by rw [key k hk _ (List.getElem?_eq_getElem hk)]; exact ha _ (List.getElem_mem hk)
theorem xs_one {D : List (List Rg)} {X : List Int} {x : Int} (h : X.all (inR D) = true) (hx : X[X.length - 1]? = some x) : xsOk D X 1 = truthAt D x := by
  rw [List.all_eq_true] at h
  have hl : X.length - 1 < X.length := (List.getElem?_eq_some_iff.1 hx).1
  have key : ∀ k, k < X.length → xOk D X 1 k = if k + 1 = X.length then truthAt D x else true := by
    intro k hk
    have := h _ (List.getElem_mem hk)
    simp only [inR, Bool.and_eq_true, decide_eq_true_eq] at this
    by_cases he : k + 1 = X.length
    · have : k = X.length - 1 := by omega
      subst this
      rw [if_pos he]
      have hx' : X[X.length - 1] = x := (List.getElem?_eq_some_iff.1 hx).2
      simp [xOk, List.getElem?_eq_getElem hk, this, he, truthAt, hx'] at *
      simp [this]
    · simp [xOk, List.getElem?_eq_getElem hk, this, he]
  cases ha : truthAt D x
  · exact all_no hl (by rw [key _ hl, if_pos (by omega), ha])
  · exact all_yes fun k hk => by rw [key k hk, ha]; simp
end Go.Proofs.Ytbmcjhjbifojnaa
namespace Go.Proofs.Ytbmcjhjbifojnaa
open Av
attribute [local irreducible] awp awpOpers
set_option linter.unusedSimpArgs false
set_option linter.unusedVariables false
set_option maxRecDepth 100000
set_option maxHeartbeats 4000000
theorem named_has {K : Int} (h : kindB K = true) : namedB K = (shp K).2.2.2.1 := by
  simp only [kindB, Bool.and_eq_true, decide_eq_true_eq] at h
  have : K = 1 ∨ K = 2 ∨ K = 3 ∨ K = 4 ∨ K = 5 ∨ K = 6 ∨ K = 7 ∨ K = 8 ∨ K = 9 ∨ K = 10 ∨ K = 11 ∨ K = 12 ∨ K = 13 ∨ K = 14 ∨ K = 15 ∨ K = 16 ∨ K = 17 ∨ K = 18 ∨ K = 19 := by omega
  rcases this with rfl | rfl | rfl | rfl | rfl | rfl | rfl | rfl | rfl | rfl | rfl | rfl | rfl | rfl | rfl | rfl | rfl | rfl | rfl <;> decide
end Go.Proofs.Ytbmcjhjbifojnaa
namespace Go.Proofs.Ytbmcjhjbifojnaa
open Av
attribute [local irreducible] awp awpOpers
set_option linter.unusedSimpArgs false
set_option linter.unusedVariables false
set_option maxRecDepth 100000
set_option maxHeartbeats 4000000
end Go.Proofs.Ytbmcjhjbifojnaa
namespace Go.Proofs.Ytbmcjhjbifojnaa
open Av
attribute [local irreducible] awp awpOpers
set_option linter.unusedSimpArgs false
set_option linter.unusedVariables false
set_option maxRecDepth 100000
set_option maxHeartbeats 4000000
theorem law08_Doms (a b : List (List Rg)) (ha : a.length ≤ 9223372036854775807) (hr : ∀ d ∈ a, d.length ≤ 9223372036854775807) : Ctr Try.prog 21 [eDoms a, eDoms b] [] (.bool (decide (a = b))) [] := by
  refine call_pure Try.func21 Try.call21 e_law08_Doms ?_
  by_cases hn : a.length = b.length
  · have hn' : (b.length : Int) = (a.length : Int) := by omega
    simp +contextual -implicitDefEqProofs (maxSteps := 1000000) only [c_law08_Doms, eDoms, sm, sn, sxx, smp, seval, hn']
    refine loop_rule (fun k : Nat => k ≤ a.length ∧ ∀ j, j < k → eqAt a b j = true) (fun k => tm 27 [(0, .list 1 (a.map eRgs)), (1, .list 1 (b.map eRgs)), (12, .int .i64 a.length), (13, .int .i64 k)]) (fun _ => []) (fun k => a.length - k) 0 ⟨by omega, by omega⟩ ⟨[], by decide, rfl, ?_, ?_⟩ ?_
    · simp +contextual -implicitDefEqProofs (maxSteps := 1000000) only [sm, sn, sxx, smp, seval]
    · simp +contextual -implicitDefEqProofs (maxSteps := 1000000) only [sm, sn, sxx, smp, seval, Int.natCast_zero]
    · rintro k ⟨hk, hok⟩
      by_cases hlt : k < a.length
      · have hlt' : (k : Int) < ((a.length : Nat) : Int) := by omega
        have e2 : IntKind.i64.wrap ((k : Int) + 1) = ((k + 1 : Nat) : Int) := by rw [wrap_i64] <;> omega
        obtain ⟨x, hx⟩ : ∃ r, a[k]? = some r := ⟨_, List.getElem?_eq_getElem hlt⟩
        obtain ⟨p, hp⟩ : ∃ r, b[k]? = some r := ⟨_, List.getElem?_eq_getElem (by omega)⟩
        have hq : eqAt a b k = decide (x = p) := by simp [eqAt, hx, hp]
        simp +contextual -implicitDefEqProofs (maxSteps := 1000000) only [sm, sn, sxx, smp, seval, hlt', hn', hx, hp]
        refine callA_rule (law08_Ranges x p (hr x (List.mem_of_getElem? hx))) (wkL_refl _) rfl ?_
        cases h1 : decide (x = p)
        · simp +contextual -implicitDefEqProofs (maxSteps := 1000000) only [sm, sn, sxx, smp, seval]
          rw [h1] at hq
          exact of_decide_eq_false (eq_no hq)
        · simp +contextual -implicitDefEqProofs (maxSteps := 1000000) only [sm, sn, sxx, smp, seval, e2]
          refine ⟨k + 1, ⟨by omega, ?_⟩, by omega, [], by decide, rfl, ?_, ?_⟩
          · intro j hj
            rcases Nat.lt_succ_iff_lt_or_eq.1 hj with h | rfl
            · first | exact hok j h | simpa using hok j h
            · rw [hq, h1]
          · simp +contextual -implicitDefEqProofs (maxSteps := 1000000) only [sm, sn, sxx, smp, seval]
          · simp +contextual -implicitDefEqProofs (maxSteps := 1000000) only [sm, sn, sxx, smp, seval]
      · have hkn : k = a.length := by omega
        subst hkn
        have hall := hok
        simp +contextual -implicitDefEqProofs (maxSteps := 1000000) only [sm, sn, sxx, smp, seval, Int.lt_irrefl]
        exact of_decide_eq_true (eq_yes hn hall)
  · have hn' : ((a.length : Int) = (b.length : Int)) = False := by simp only [eq_iff_iff, iff_false]; omega
    simp +contextual -implicitDefEqProofs (maxSteps := 1000000) only [c_law08_Doms, eDoms, sm, sn, sxx, smp, seval, hn']
    rintro rfl
    exact hn rfl
def len400 (d : List Rg) : Bool := decide (d.length ≤ 400)
def con200 (c : Con) : Bool := decide (c.2.1.length ≤ 200) && decide (c.2.2.1.length ≤ 200)
def smallB (m : Mod) : Bool := decide (m.1.length ≤ 200) && decide (m.2.1.length ≤ 200) && m.1.all len400 && m.2.1.all con200
def fitsB (c : Con) (D : List (List Rg)) : Bool := smallB (D, [c], 0, 0) && decide (D.length ≤ 100)
/-- a constraint and domains that fit -/
def fitB (c : Con) (D : List (List Rg)) : Bool := modB (D, [c], 0, 0)
theorem fits_facts {c : Con} {D : List (List Rg)} (h : fitsB c D = true) : D.length ≤ 100 ∧ (∀ d ∈ D, d.length ≤ 400) ∧ c.2.1.length ≤ 200 ∧ c.2.2.1.length ≤ 200 := by
  simp only [fitsB, smallB, con200, len400, Bool.and_eq_true, decide_eq_true_eq, List.all_eq_true] at h
  obtain ⟨⟨⟨⟨_, _⟩, h1⟩, h2⟩, h3⟩ := h
  exact ⟨h3, h1, (h2 c (by simp)).1, (h2 c (by simp)).2⟩
end Go.Proofs.Ytbmcjhjbifojnaa
