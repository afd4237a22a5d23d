/- The walks of check.Dot and of the reference's Dot: the sum of the products, or the first error. -/
import Derived.Test.YtglhhhfcaljkdaaCkW
namespace Go.Proofs.Ytglhhhfcaljkdaa
open Go.RowKit
set_option linter.unusedVariables false

/-- The sum of the products from n on: the number, and the error. -/
def dotGo (n : Int) : List Int → List Int → Int × Int
  | [], _ => (n, 0)
  | _ :: _, [] => (n, 0)
  | x :: xs, y :: ys => if fitB (x * y) = true then (if fitB (n + x * y) = true then dotGo (n + x * y) xs ys else (0, 4)) else (0, 4)
def dotS (xs ys : List Int) : Int × Int := if xs.length = ys.length then dotGo 0 xs ys else (0, 2)

theorem drop_cons {α : Type} {l : List α} {k : Nat} (h : k < l.length) : l.drop k = l[k] :: l.drop (k + 1) := List.drop_eq_getElem_cons h
theorem getD_I64 {l : List Int} (h : ∀ x ∈ l, I64 x) {k : Nat} (hk : k < l.length) : I64 l[k] := h _ (List.getElem_mem hk)

/-- The three ways of a round. -/
theorem dot_step {n : Int} {xs ys : List Int} {k : Nat} (hx : k < xs.length) (hy : k < ys.length) :
    dotGo n (xs.drop k) (ys.drop k) = if fitB (xs[k] * ys[k]) = true then (if fitB (n + xs[k] * ys[k]) = true then dotGo (n + xs[k] * ys[k]) (xs.drop (k + 1)) (ys.drop (k + 1)) else (0, 4)) else (0, 4) := by
  rw [drop_cons hx, drop_cons hy]; rfl

theorem fit_vals {n : Int} (h : fitB n = true) : fitV n = n ∧ fitE n = 0 := by simp [fitV, fitE, h]
theorem fit_bad {n : Int} (h : fitB n = false) : fitV n = 0 ∧ fitE n = 4 := by simp [fitV, fitE, h]


set_option maxHeartbeats 1000000 in
theorem ck_dot_run (A B : Option Addr) (xs ys : List Int) (c d : Nat) (w : World) (hx : ∀ k, k < xs.length → ∃ a, A = some a ∧ a.block < w.heap.size ∧ ∀ j, j < xs.length → w.cell? (a.add j) = some (.int .i64 (xs.getD j 0)))
    (hy : ∀ k, k < ys.length → ∃ a, B = some a ∧ a.block < w.heap.size ∧ ∀ j, j < ys.length → w.cell? (a.add j) = some (.int .i64 (ys.getD j 0))) (ix : ∀ x ∈ xs, I64 x) (iy : ∀ x ∈ ys, I64 x)
    (hl : xs.length ≤ 9223372036854775807) (hl' : ys.length ≤ 9223372036854775807) :
    Calls Try.prog 17 #[.slice A xs.length c, .slice B ys.length d] w (RetQ (.tuple #[.int .i64 (dotS xs ys).1, .int .i64 (dotS xs ys).2]) w) := by
  have HX := hid hx; clear hx
  have HY := hid hy; clear hy
  have IX := hid ix; clear ix
  have IY := hid iy; clear iy
  by_cases hne : xs.length = ys.length
  · have hz : ((xs.length : Int) != (ys.length : Int)) = false := by simp; omega
    obtain ⟨R, hR⟩ : ∃ R, R = dotS xs ys := ⟨_, rfl⟩
    rw [← hR]
    have e0 : dotGo 0 (xs.drop 0) (ys.drop 0) = R := by rw [hR]; unfold dotS; rw [if_pos hne]; rfl
    have HN := hid hne; clear hne hR
    have E0 := hid e0; clear e0
    go_enter Try.func17, Try.ntmps17
    go_wp2_with fail
    go_loopw [6, 18] (fun n i wr => ∃ (k : Nat) (m : Int) (q : Nat), k ≤ xs.length ∧ i = .int .i64 k ∧ n = .int .i64 m ∧ I64 m ∧ Hid (dotGo m (xs.drop k) (ys.drop k) = R) ∧ wr = w.drewN q) (fun n i wr => xs.length - (intOf i).toNat)
    case atStart => exact ⟨0, 0, 0, by omega, rfl, rfl, ⟨by decide, by decide⟩, E0, rfl⟩
    case round =>
      obtain ⟨k, m, q, hk, rfl, rfl, im, hm, rfl⟩ := hrel
      by_cases hlt : k < xs.length
      · have hlt' : k < ys.length := by have := HN.out; omega
        obtain ⟨a, rfl, _, hca⟩ := HX.out k hlt
        obtain ⟨b, rfl, _, hcb⟩ := HY.out k hlt'
        have h1 := hca k hlt
        have h2 := hcb k hlt'
        clear hca hcb
        have hm := hm.out
        rw [dot_step hlt hlt'] at hm
        have hm := hid hm
        have i1 := getD_I64 IX.out hlt
        have i2 := getD_I64 IY.out hlt'
        go_wp2_with fail
        refine (ck_mul _ _ i1 i2 _).mono ?_
        rintro e w' ⟨rfl, n1, rfl⟩
        cases hf : fitB (xs[k] * ys[k])
        · rw [(fit_bad hf).1, (fit_bad hf).2]
          have hf := hid hf
          go_wp2_with fail
          go_ret2
          have hm := hm.out
          rw [hf.out] at hm
          simp at hm
          rw [← hm]
          exact ⟨rfl, _, rfl⟩
        · rw [(fit_vals hf).1, (fit_vals hf).2]
          have ip := fitB_true.1 hf
          have hf := hid hf
          go_wp2_with fail
          refine (ck_add _ _ im ip _).mono ?_
          rintro e w' ⟨rfl, n2, rfl⟩
          cases hg : fitB (m + xs[k] * ys[k])
          · rw [(fit_bad hg).1, (fit_bad hg).2]
            have hg := hid hg
            go_wp2_with fail
            go_ret2
            have hm := hm.out
            rw [hf.out, hg.out] at hm
            simp at hm
            rw [← hm]
            exact ⟨rfl, _, rfl⟩
          · rw [(fit_vals hg).1, (fit_vals hg).2]
            have ig := fitB_true.1 hg
            have hg := hid hg
            go_wp2_with fail
            go_roundw
            case rel => exact ⟨k + 1, _, _, by omega, by go_num, rfl, ig, hid (by have hm := hm.out; rw [hf.out, hg.out] at hm; simpa using hm), rfl⟩
            case measure => simp [intOf]; omega
      · go_wp2_with fail
        go_ret2
        have hm := hm.out
        rw [List.drop_eq_nil_of_le (by omega)] at hm
        rw [← hm]
        exact ⟨rfl, _, rfl⟩
  · have hz : ((xs.length : Int) != (ys.length : Int)) = true := by simp; omega
    have e : dotS xs ys = (0, 2) := by unfold dotS; rw [if_neg hne]
    rw [e]
    clear e hne
    go_enter Try.func17, Try.ntmps17
    go_wp2_with fail
    go_ret2
    exact ⟨rfl, 0, rfl⟩

theorem ck_dot (u v : Value) (xs ys : List Int) (w : World) (lo lo' : Nat) (hx : IntsR w lo w.heap.size u xs) (hy : IntsR w lo' w.heap.size v ys) (ix : ∀ x ∈ xs, I64 x) (iy : ∀ x ∈ ys, I64 x) :
    Calls Try.prog 17 #[u, v] w (RetQ (.tuple #[.int .i64 (dotS xs ys).1, .int .i64 (dotS xs ys).2]) w) := by
  obtain ⟨A, c, rfl, h1, h2, h3⟩ := hx.open_
  obtain ⟨B, d, rfl, h4, h5, h6⟩ := hy.open_
  exact ck_dot_run A B xs ys c d w h3 h6 ix iy (by omega) (by omega)

set_option maxHeartbeats 1000000 in
theorem rf_dot_run (A B : Option Addr) (xs ys : List Int) (c d : Nat) (w : World) (hx : ∀ k, k < xs.length → ∃ a, A = some a ∧ a.block < w.heap.size ∧ ∀ j, j < xs.length → w.cell? (a.add j) = some (.int .i64 (xs.getD j 0)))
    (hy : ∀ k, k < ys.length → ∃ a, B = some a ∧ a.block < w.heap.size ∧ ∀ j, j < ys.length → w.cell? (a.add j) = some (.int .i64 (ys.getD j 0))) (ix : ∀ x ∈ xs, I64 x) (iy : ∀ x ∈ ys, I64 x)
    (hl : xs.length ≤ 9223372036854775807) (hl' : ys.length ≤ 9223372036854775807) :
    Calls Try.prog 18 #[.slice A xs.length c, .slice B ys.length d] w (RetQ (.tuple #[.int .i64 (dotS xs ys).1, .int .i64 (dotS xs ys).2]) w) := by
  have HX := hid hx; clear hx
  have HY := hid hy; clear hy
  have IX := hid ix; clear ix
  have IY := hid iy; clear iy
  by_cases hne : xs.length = ys.length
  · have hz : ((xs.length : Int) != (ys.length : Int)) = false := by simp; omega
    obtain ⟨R, hR⟩ : ∃ R, R = dotS xs ys := ⟨_, rfl⟩
    rw [← hR]
    have e0 : dotGo 0 (xs.drop 0) (ys.drop 0) = R := by rw [hR]; unfold dotS; rw [if_pos hne]; rfl
    have HN := hid hne; clear hne hR
    have E0 := hid e0; clear e0
    go_enter Try.func18, Try.ntmps18
    go_wp2_with fail
    go_loopw [6, 7] (fun n i wr => ∃ (k : Nat) (m : Int) (q : Nat), k ≤ xs.length ∧ i = .int .i64 k ∧ n = .int .i64 m ∧ I64 m ∧ Hid (dotGo m (xs.drop k) (ys.drop k) = R) ∧ wr = w.drewN q) (fun n i wr => xs.length - (intOf i).toNat)
    case atStart => exact ⟨0, 0, 0, by omega, rfl, rfl, ⟨by decide, by decide⟩, E0, rfl⟩
    case round =>
      obtain ⟨k, m, q, hk, rfl, rfl, im, hm, rfl⟩ := hrel
      by_cases hlt : k < xs.length
      · have hlt' : k < ys.length := by have := HN.out; omega
        obtain ⟨a, rfl, _, hca⟩ := HX.out k hlt
        obtain ⟨b, rfl, _, hcb⟩ := HY.out k hlt'
        have h1 := hca k hlt
        have h2 := hcb k hlt'
        clear hca hcb
        have hm := hm.out
        rw [dot_step hlt hlt'] at hm
        have hm := hid hm
        have i1 := getD_I64 IX.out hlt
        have i2 := getD_I64 IY.out hlt'
        go_wp2_with fail
        go_quiet ((go_at_call 12; first | exact quiet2 (rf_mul _ _ i1 i2 _) | exact quiet1 (rf_mul _ _ i1 i2 _)))
        cases hf : fitB (xs[k] * ys[k])
        · rw [(fit_bad hf).1, (fit_bad hf).2]
          have hf := hid hf
          go_wp2_with fail
          go_ret2
          have hm := hm.out
          rw [hf.out] at hm
          simp at hm
          rw [← hm]
          exact ⟨rfl, _, rfl⟩
        · rw [(fit_vals hf).1, (fit_vals hf).2]
          have ip := fitB_true.1 hf
          have hf := hid hf
          go_wp2_with fail
          refine (rf_add _ _ im ip _).mono ?_
          rintro e w' ⟨rfl, n2, rfl⟩
          cases hg : fitB (m + xs[k] * ys[k])
          · rw [(fit_bad hg).1, (fit_bad hg).2]
            have hg := hid hg
            go_wp2_with fail
            go_ret2
            have hm := hm.out
            rw [hf.out, hg.out] at hm
            simp at hm
            rw [← hm]
            exact ⟨rfl, _, rfl⟩
          · rw [(fit_vals hg).1, (fit_vals hg).2]
            have ig := fitB_true.1 hg
            have hg := hid hg
            go_wp2_with fail
            go_roundw
            case rel => exact ⟨k + 1, _, _, by omega, by go_num, rfl, ig, hid (by have hm := hm.out; rw [hf.out, hg.out] at hm; simpa using hm), rfl⟩
            case measure => simp [intOf]; omega
      · go_wp2_with fail
        go_ret2
        have hm := hm.out
        rw [List.drop_eq_nil_of_le (by omega)] at hm
        rw [← hm]
        exact ⟨rfl, _, rfl⟩
  · have hz : ((xs.length : Int) != (ys.length : Int)) = true := by simp; omega
    have e : dotS xs ys = (0, 2) := by unfold dotS; rw [if_neg hne]
    rw [e]
    clear e hne
    go_enter Try.func18, Try.ntmps18
    go_wp2_with fail
    go_ret2
    exact ⟨rfl, 0, rfl⟩

theorem rf_dot (u v : Value) (xs ys : List Int) (w : World) (lo lo' : Nat) (hx : IntsR w lo w.heap.size u xs) (hy : IntsR w lo' w.heap.size v ys) (ix : ∀ x ∈ xs, I64 x) (iy : ∀ x ∈ ys, I64 x) :
    Calls Try.prog 18 #[u, v] w (RetQ (.tuple #[.int .i64 (dotS xs ys).1, .int .i64 (dotS xs ys).2]) w) := by
  obtain ⟨A, c, rfl, h1, h2, h3⟩ := hx.open_
  obtain ⟨B, d, rfl, h4, h5, h6⟩ := hy.open_
  exact rf_dot_run A B xs ys c d w h3 h6 ix iy (by omega) (by omega)
end Go.Proofs.Ytglhhhfcaljkdaa
