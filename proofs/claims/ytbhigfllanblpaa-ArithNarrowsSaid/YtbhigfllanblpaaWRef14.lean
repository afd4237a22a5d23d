/- What the steps of package touchstoneref14 compute: put, cut, lo, hi, lose, quotient. -/
import Derived.Test.YtbhigfllanblpaaPlArith3
import Derived.Test.YtbhigfllanblpaaGRef12
import Derived.Test.YtbhigfllanblpaaWRef12k
import Derived.Test.YtbhigfllanblpaaGRef09
import Derived.Test.YtbhigfllanblpaaCRef14
namespace Go.Proofs.Ytbhigfllanblpaa
open Av
attribute [local irreducible] awp awpOpers
set_option linter.unusedSimpArgs false
set_option linter.unusedVariables false
set_option maxRecDepth 100000
set_option maxHeartbeats 4000000
def eSt (s : Sd) : AV := .agg [eDoms s.1, .bool s.2]
theorem ref14_put (s : Sd) (x : Int) (l : List Rg) (hx : 0 ≤ x) (hn : s.1.length ≤ 1000000000000) : Ctr Try.prog 126 [eSt s, .int .i64 x, eRgs l] [] (eSt (rput s x l)) [] := by
  refine call_pure Try.func126 Try.call126 e_ref14_put ?_
  obtain ⟨n, rfl⟩ := Int.eq_ofNat_of_zero_le hx
  unfold rput
  cases hb : s.2
  · rw [if_neg (by simp)]
    simp +contextual -implicitDefEqProofs (maxSteps := 1000000) only [c_ref14_put, eSt, eDoms, eRgs, hb, sm, sn, seval]
    refine callA_rule (ref12_With s.1 n l hn) (by simp +contextual -implicitDefEqProofs (maxSteps := 1000000) only [sm, sn, seval, eSt, eDoms, eRgs]) rfl ?_
    by_cases h : l.length = 0
    · have h' : ((l.length : Int) = 0) = True := by simp only [eq_iff_iff, iff_true]; omega
      simp +contextual -implicitDefEqProofs (maxSteps := 1000000) only [sm, sn, seval, eSt, eDoms, eRgs, h', h, Int.toNat_natCast, hb]
    · have h' : ((l.length : Int) = 0) = False := by simp only [eq_iff_iff, iff_false]; omega
      simp +contextual -implicitDefEqProofs (maxSteps := 1000000) only [sm, sn, seval, eSt, eDoms, eRgs, h', h, Int.toNat_natCast, hb]
  · rw [if_pos rfl]
    simp +contextual -implicitDefEqProofs (maxSteps := 1000000) only [c_ref14_put, eSt, eDoms, eRgs, hb, sm, sn, seval]
theorem ref14_cut (n : Nat) (s : Sd) (x lo hi : Int) (h : RS n s) (hx : 0 ≤ x ∧ x < n) : Ctr Try.prog 123 [eSt s, .int .i64 x, .int .i64 lo, .int .i64 hi] [] (eSt (rcut s x lo hi)) [] := by
  refine call_pure Try.func123 Try.call123 e_ref14_cut ?_
  unfold rcut
  cases hb : s.2
  · rw [if_neg (by simp)]
    have hrow := rs_row h hx hb
    have hin : 0 ≤ x ∧ x < s.1.length := by have := h.2.1; omega
    have hr := row_get hin
    have h0 := hin.1
    have hxn : x.toNat < s.1.length := by omega
    have hrl := dom_len hrow
    have hdr := dom_right hrow
    have hC := ref09_Cut (rowOf s.1 x) lo hi (by omega)
    rw [← cut_eq] at hC
    have hP := ref14_put s x (cutS lo hi (rowOf s.1 x)) h0 (by have := h.1; have := h.2.1; omega)
    generalize cutS lo hi (rowOf s.1 x) = l at hC hP ⊢
    generalize rput s x l = t at hP ⊢
    simp +contextual -implicitDefEqProofs (maxSteps := 1000000) only [c_ref14_cut, eSt, eDoms, eRgs, hb, hr, h0, hxn, sm, sn, seval]
    refine callA_rule (hC) (by simp +contextual -implicitDefEqProofs (maxSteps := 1000000) only [sm, sn, seval, eSt, eDoms, eRgs]) rfl ?_
    simp +contextual -implicitDefEqProofs (maxSteps := 1000000) only [sm, sn, seval, eSt, eDoms, eRgs, hb]
    refine callA_rule hP (by simp +contextual -implicitDefEqProofs (maxSteps := 1000000) only [sm, sn, seval, eSt, eDoms, eRgs, hb]) rfl ?_
    simp +contextual -implicitDefEqProofs (maxSteps := 1000000) only [sm, sn, seval, eSt, eDoms, eRgs]
  · rw [if_pos rfl]
    simp +contextual -implicitDefEqProofs (maxSteps := 1000000) only [c_ref14_cut, eSt, eDoms, eRgs, hb, sm, sn, seval]
theorem ref14_lo (n : Nat) (s : Sd) (x : Int) (h : RS n s) (hx : 0 ≤ x ∧ x < n) : Ctr Try.prog 121 [eSt s, .int .i64 x] [] (.int .i64 (rlo s x)) [] := by
  refine call_pure Try.func121 Try.call121 e_ref14_lo ?_
  unfold rlo
  cases hb : s.2
  · rw [if_neg (by simp)]
    have hrow := rs_row h hx hb
    have hin : 0 ≤ x ∧ x < s.1.length := by have := h.2.1; omega
    have hr := row_get hin
    have h0 := hin.1
    have hxn : x.toNat < s.1.length := by omega
    have hrl := dom_len hrow
    have hdr := dom_right hrow
    simp +contextual -implicitDefEqProofs (maxSteps := 1000000) only [c_ref14_lo, eSt, eDoms, eRgs, hb, hr, h0, hxn, sm, sn, seval]
    refine callA_rule (ref12_Lo (rowOf s.1 x) hdr.1 hdr.2) (by simp +contextual -implicitDefEqProofs (maxSteps := 1000000) only [sm, sn, seval, eSt, eDoms, eRgs]) rfl ?_
    unfold eAt
    simp +contextual -implicitDefEqProofs (maxSteps := 1000000) only [sm, sn, seval, eSt, eDoms, eRgs, hb]
  · rw [if_pos rfl]
    simp +contextual -implicitDefEqProofs (maxSteps := 1000000) only [c_ref14_lo, eSt, eDoms, eRgs, hb, sm, sn, seval]
theorem ref14_hi (n : Nat) (s : Sd) (x : Int) (h : RS n s) (hx : 0 ≤ x ∧ x < n) : Ctr Try.prog 122 [eSt s, .int .i64 x] [] (.int .i64 (rhi s x)) [] := by
  refine call_pure Try.func122 Try.call122 e_ref14_hi ?_
  unfold rhi
  cases hb : s.2
  · rw [if_neg (by simp)]
    have hrow := rs_row h hx hb
    have hin : 0 ≤ x ∧ x < s.1.length := by have := h.2.1; omega
    have hr := row_get hin
    have h0 := hin.1
    have hxn : x.toNat < s.1.length := by omega
    have hrl := dom_len hrow
    have hdr := dom_right hrow
    simp +contextual -implicitDefEqProofs (maxSteps := 1000000) only [c_ref14_hi, eSt, eDoms, eRgs, hb, hr, h0, hxn, sm, sn, seval]
    refine callA_rule (ref12_Hi (rowOf s.1 x) hdr.1 hdr.2 (by omega)) (by simp +contextual -implicitDefEqProofs (maxSteps := 1000000) only [sm, sn, seval, eSt, eDoms, eRgs]) rfl ?_
    unfold eAt
    simp +contextual -implicitDefEqProofs (maxSteps := 1000000) only [sm, sn, seval, eSt, eDoms, eRgs, hb]
  · rw [if_pos rfl]
    simp +contextual -implicitDefEqProofs (maxSteps := 1000000) only [c_ref14_hi, eSt, eDoms, eRgs, hb, sm, sn, seval]
theorem ref14_lose (n : Nat) (s : Sd) (x : Int) (h : RS n s) (hx : 0 ≤ x ∧ x < n) : Ctr Try.prog 124 [eSt s, .int .i64 x] [] (eSt (rlose s x)) [] := by
  refine call_pure Try.func124 Try.call124 e_ref14_lose ?_
  unfold rlose
  cases hb : s.2
  · rw [if_neg (by simp)]
    have hrow := rs_row h hx hb
    have hin : 0 ≤ x ∧ x < s.1.length := by have := h.2.1; omega
    have hr := row_get hin
    have h0 := hin.1
    have hxn : x.toNat < s.1.length := by omega
    have hrl := dom_len hrow
    have hdr := dom_right hrow
    have hC := ref09_Without (rowOf s.1 x) 0 (by omega)
    rw [← without_eq] at hC
    have hP := ref14_put s x (withoutS 0 (rowOf s.1 x)) h0 (by have := h.1; have := h.2.1; omega)
    generalize withoutS 0 (rowOf s.1 x) = l at hC hP ⊢
    generalize rput s x l = t at hP ⊢
    simp +contextual -implicitDefEqProofs (maxSteps := 1000000) only [c_ref14_lose, eSt, eDoms, eRgs, hb, hr, h0, hxn, sm, sn, seval]
    refine callA_rule (hC) (by simp +contextual -implicitDefEqProofs (maxSteps := 1000000) only [sm, sn, seval, eSt, eDoms, eRgs]) rfl ?_
    simp +contextual -implicitDefEqProofs (maxSteps := 1000000) only [sm, sn, seval, eSt, eDoms, eRgs, hb]
    refine callA_rule hP (by simp +contextual -implicitDefEqProofs (maxSteps := 1000000) only [sm, sn, seval, eSt, eDoms, eRgs, hb]) rfl ?_
    simp +contextual -implicitDefEqProofs (maxSteps := 1000000) only [sm, sn, seval, eSt, eDoms, eRgs]
  · rw [if_pos rfl]
    simp +contextual -implicitDefEqProofs (maxSteps := 1000000) only [c_ref14_lose, eSt, eDoms, eRgs, hb, sm, sn, seval]
/-- the least and the most quotient of the first k corners -/
def qK (f : Int → Int → Int) (m : Int → Int → Int) (b : Int) (z y : Rg) (k : Nat) : Int :=
  if k = 0 then b else if k = 1 then m b (f z.1 y.1) else if k = 2 then m (m b (f z.1 y.1)) (f z.2 y.1) else if k = 3 then m (m (m b (f z.1 y.1)) (f z.2 y.1)) (f z.1 y.2)
  else m (m (m (m b (f z.1 y.1)) (f z.2 y.1)) (f z.1 y.2)) (f z.2 y.2)
theorem qmin (z y : Rg) (h : ∀ a b, (a = z.1 ∨ a = z.2) → (b = y.1 ∨ b = y.2) → cel a b ≤ 1099511627776) : qK cel min 1099511627776 z y 4 = (corn cel z y).1 := by
  have h1 := h z.1 y.1 (.inl rfl) (.inl rfl)
  have h2 := h z.2 y.1 (.inr rfl) (.inl rfl)
  have h3 := h z.1 y.2 (.inl rfl) (.inr rfl)
  have h4 := h z.2 y.2 (.inr rfl) (.inr rfl)
  unfold qK corn
  simp only [show ¬ (4 : Nat) = 0 by decide, show ¬ (4 : Nat) = 1 by decide, show ¬ (4 : Nat) = 2 by decide, show ¬ (4 : Nat) = 3 by decide, if_false]
  omega
theorem qmax (z y : Rg) (h : ∀ a b, (a = z.1 ∨ a = z.2) → (b = y.1 ∨ b = y.2) → -1099511627776 ≤ flr a b) : qK flr max (-1099511627776) z y 4 = (corn flr z y).2 := by
  have h1 := h z.1 y.1 (.inl rfl) (.inl rfl)
  have h2 := h z.2 y.1 (.inr rfl) (.inl rfl)
  have h3 := h z.1 y.2 (.inl rfl) (.inr rfl)
  have h4 := h z.2 y.2 (.inr rfl) (.inr rfl)
  unfold qK corn
  simp only [show ¬ (4 : Nat) = 0 by decide, show ¬ (4 : Nat) = 1 by decide, show ¬ (4 : Nat) = 2 by decide, show ¬ (4 : Nat) = 3 by decide, if_false]
  omega
theorem tdiv_near {a b : Int} (ha : -1048576 ≤ a ∧ a ≤ 1048576) : -1048576 ≤ a.tdiv b ∧ a.tdiv b ≤ 1048576 := by
  have h : (a.tdiv b).natAbs = a.natAbs / b.natAbs := Int.natAbs_tdiv a b
  have := Nat.div_le_self a.natAbs b.natAbs
  omega
theorem cel_small {a b : Int} (ha : -1048576 ≤ a ∧ a ≤ 1048576) : cel a b ≤ 1099511627776 := by
  have := tdiv_near (b := b) ha
  unfold cel
  split <;> omega
theorem flr_small {a b : Int} (ha : -1048576 ≤ a ∧ a ≤ 1048576) : -1099511627776 ≤ flr a b := by
  have := tdiv_near (b := b) ha
  unfold flr
  split <;> omega
theorem ref14_quotient (n : Nat) (s : Sd) (x y z : Int) (h : RS n s) (hx : 0 ≤ x ∧ x < n) (hy : 0 ≤ y ∧ y < n) (hz : 0 ≤ z ∧ z < n) : Ctr Try.prog 125 [eSt s, .int .i64 x, .int .i64 y, .int .i64 z] [] (eSt (rquo s x y z)) [] := by
  refine call_pure Try.func125 Try.call125 e_ref14_quotient ?_
  unfold rquo
  cases hb : s.2
  · have hLy := ref14_lo n s y h hy
    have hHy := ref14_hi n s y h hy
    have hLz := ref14_lo n s z h hz
    have hHz := ref14_hi n s z h hz
    obtain ⟨y1, y2, y3⟩ := rl_facts h hy
    obtain ⟨z1, z2, z3⟩ := rl_facts h hz
    have hC := fun lo hi => ref14_cut n s x lo hi h hx
    generalize rlo s y = ya at hLy y1 y2 ⊢
    generalize rhi s y = yb at hHy y2 y3 ⊢
    generalize rlo s z = za at hLz z1 z2 ⊢
    generalize rhi s z = zb at hHz z2 z3 ⊢
    simp +contextual -implicitDefEqProofs (maxSteps := 1000000) only [c_ref14_quotient, eSt, eDoms, eRgs, hb, sm, sn, seval]
    by_cases c1 : ya ≤ 0 ∧ 0 ≤ yb
    · obtain ⟨c1, c2⟩ := c1
      rw [if_pos (.inr ⟨c1, c2⟩)]
      refine callA_rule hLy (by simp +contextual -implicitDefEqProofs (maxSteps := 1000000) only [sm, sn, seval, eSt, eDoms, eRgs, hb]) rfl ?_
      simp +contextual -implicitDefEqProofs (maxSteps := 1000000) only [sm, sn, seval, eSt, eDoms, c1, hb]
      refine callA_rule hHy (by simp +contextual -implicitDefEqProofs (maxSteps := 1000000) only [sm, sn, seval, eSt, eDoms, eRgs, hb]) rfl ?_
      simp +contextual -implicitDefEqProofs (maxSteps := 1000000) only [sm, sn, seval, eSt, eDoms, c2, hb]
    · rw [if_neg (by rintro (h | h); cases h; exact c1 h)]
      have hneyb : ¬ yb = 0 := by omega
      have hq1 := qmin (za, zb) (ya, yb) fun a b ha _ => cel_small (by simp only at ha; omega)
      have hq2 := qmax (za, zb) (ya, yb) fun a b ha _ => flr_small (by simp only at ha; omega)
      rw [← hq1, ← hq2]
      have hneya : ¬ ya = 0 := by omega
      by_cases c2 : ya ≤ 0
      · have c3 : ¬ 0 ≤ yb := fun h => c1 ⟨c2, h⟩
        refine callA_rule hLy (by simp +contextual -implicitDefEqProofs (maxSteps := 1000000) only [sm, sn, seval, eSt, eDoms, eRgs, hb]) rfl ?_
        simp +contextual -implicitDefEqProofs (maxSteps := 1000000) only [sm, sn, seval, eSt, eDoms, c2, hb]
        refine callA_rule hHy (by simp +contextual -implicitDefEqProofs (maxSteps := 1000000) only [sm, sn, seval, eSt, eDoms, eRgs, hb]) rfl ?_
        simp +contextual -implicitDefEqProofs (maxSteps := 1000000) only [sm, sn, seval, eSt, eDoms, c3, hb]
        refine loop_rule (fun k : Nat => k ≤ 4) (fun k => tm 78 [(1, .int .i64 x), (2, .int .i64 y), (3, .int .i64 z), (4, .ptr 2 0 0 0), (8, .ptr 2 1 0 0), (9, .int .i64 (qK cel min 1099511627776 (za, zb) (ya, yb) k)), (10, .int .i64 (qK flr max (-1099511627776) (za, zb) (ya, yb) k)), (11, .int .i64 k)]) (fun _ => [some (2, [.agg [.list 1 (s.1.map eRgs), .bool false]]), some (2, [.agg [.nils, .bool false]])]) (fun k => 4 - k) 0 (by omega) ⟨[0, 1], by decide, rfl, ?_, ?_⟩ ?_
        · simp +contextual -implicitDefEqProofs (maxSteps := 1000000) only [sm, sn, seval, eSt, eDoms, hb]
          try rfl
        · simp +contextual -implicitDefEqProofs (maxSteps := 1000000) only [sm, sn, seval, eSt, eDoms, hb, qK, Int.natCast_zero]
          try rfl
        · intro k hk
          have hcs : k = 0 ∨ k = 1 ∨ k = 2 ∨ k = 3 ∨ k = 4 := by omega
          rcases hcs with rfl | rfl | rfl | rfl | rfl
          · simp +contextual -implicitDefEqProofs (maxSteps := 1000000) only [sm, sn, seval, eSt, eDoms, hb, qK]
            refine callA_rule (hLz) (by simp +contextual -implicitDefEqProofs (maxSteps := 1000000) only [sm, sn, seval, eSt, eDoms, eRgs, hb]) rfl ?_
            simp +contextual -implicitDefEqProofs (maxSteps := 1000000) only [sm, sn, seval, eSt, eDoms, eRgs, hb]
            refine callA_rule (hLy) (by simp +contextual -implicitDefEqProofs (maxSteps := 1000000) only [sm, sn, seval, eSt, eDoms, eRgs, hb]) rfl ?_
            simp +contextual -implicitDefEqProofs (maxSteps := 1000000) only [sm, sn, seval, eSt, eDoms, eRgs, hb]
            refine callA_rule (ref01_Ceil za ya (by omega) hneya) (by simp +contextual -implicitDefEqProofs (maxSteps := 1000000) only [sm, sn, seval, eSt, eDoms, eRgs, hb]) rfl ?_
            simp +contextual -implicitDefEqProofs (maxSteps := 1000000) only [sm, sn, seval, eSt, eDoms, eRgs, hb]
            refine callA_rule (ref01_Floor za ya (by omega) hneya) (by simp +contextual -implicitDefEqProofs (maxSteps := 1000000) only [sm, sn, seval, eSt, eDoms, eRgs, hb]) rfl ?_
            simp +contextual -implicitDefEqProofs (maxSteps := 1000000) only [sm, sn, seval, eSt, eDoms, eRgs, hb, Int.reduceAdd]
            refine ⟨1, by omega, by omega, [0, 1], by decide, rfl, ?_, ?_⟩
            · simp +contextual -implicitDefEqProofs (maxSteps := 1000000) only [sm, sn, seval, qK, eSt, eDoms, hb]
              try rfl
            · simp +contextual -implicitDefEqProofs (maxSteps := 1000000) only [sm, sn, seval, eSt, eDoms, hb]
              try rfl
          · simp +contextual -implicitDefEqProofs (maxSteps := 1000000) only [sm, sn, seval, eSt, eDoms, hb, qK]
            refine callA_rule (hLz) (by simp +contextual -implicitDefEqProofs (maxSteps := 1000000) only [sm, sn, seval, eSt, eDoms, eRgs, hb]) rfl ?_
            simp +contextual -implicitDefEqProofs (maxSteps := 1000000) only [sm, sn, seval, eSt, eDoms, eRgs, hb]
            refine callA_rule (hLy) (by simp +contextual -implicitDefEqProofs (maxSteps := 1000000) only [sm, sn, seval, eSt, eDoms, eRgs, hb]) rfl ?_
            simp +contextual -implicitDefEqProofs (maxSteps := 1000000) only [sm, sn, seval, eSt, eDoms, eRgs, hb]
            refine callA_rule (hHz) (by simp +contextual -implicitDefEqProofs (maxSteps := 1000000) only [sm, sn, seval, eSt, eDoms, eRgs, hb]) rfl ?_
            simp +contextual -implicitDefEqProofs (maxSteps := 1000000) only [sm, sn, seval, eSt, eDoms, eRgs, hb]
            refine callA_rule (ref01_Ceil zb ya (by omega) hneya) (by simp +contextual -implicitDefEqProofs (maxSteps := 1000000) only [sm, sn, seval, eSt, eDoms, eRgs, hb]) rfl ?_
            simp +contextual -implicitDefEqProofs (maxSteps := 1000000) only [sm, sn, seval, eSt, eDoms, eRgs, hb]
            refine callA_rule (ref01_Floor zb ya (by omega) hneya) (by simp +contextual -implicitDefEqProofs (maxSteps := 1000000) only [sm, sn, seval, eSt, eDoms, eRgs, hb]) rfl ?_
            simp +contextual -implicitDefEqProofs (maxSteps := 1000000) only [sm, sn, seval, eSt, eDoms, eRgs, hb, Int.reduceAdd]
            refine ⟨2, by omega, by omega, [0, 1], by decide, rfl, ?_, ?_⟩
            · simp +contextual -implicitDefEqProofs (maxSteps := 1000000) only [sm, sn, seval, qK, eSt, eDoms, hb]
              try rfl
            · simp +contextual -implicitDefEqProofs (maxSteps := 1000000) only [sm, sn, seval, eSt, eDoms, hb]
              try rfl
          · simp +contextual -implicitDefEqProofs (maxSteps := 1000000) only [sm, sn, seval, eSt, eDoms, hb, qK]
            refine callA_rule (hLz) (by simp +contextual -implicitDefEqProofs (maxSteps := 1000000) only [sm, sn, seval, eSt, eDoms, eRgs, hb]) rfl ?_
            simp +contextual -implicitDefEqProofs (maxSteps := 1000000) only [sm, sn, seval, eSt, eDoms, eRgs, hb]
            refine callA_rule (hLy) (by simp +contextual -implicitDefEqProofs (maxSteps := 1000000) only [sm, sn, seval, eSt, eDoms, eRgs, hb]) rfl ?_
            simp +contextual -implicitDefEqProofs (maxSteps := 1000000) only [sm, sn, seval, eSt, eDoms, eRgs, hb]
            refine callA_rule (hHy) (by simp +contextual -implicitDefEqProofs (maxSteps := 1000000) only [sm, sn, seval, eSt, eDoms, eRgs, hb]) rfl ?_
            simp +contextual -implicitDefEqProofs (maxSteps := 1000000) only [sm, sn, seval, eSt, eDoms, eRgs, hb]
            refine callA_rule (ref01_Ceil za yb (by omega) hneyb) (by simp +contextual -implicitDefEqProofs (maxSteps := 1000000) only [sm, sn, seval, eSt, eDoms, eRgs, hb]) rfl ?_
            simp +contextual -implicitDefEqProofs (maxSteps := 1000000) only [sm, sn, seval, eSt, eDoms, eRgs, hb]
            refine callA_rule (ref01_Floor za yb (by omega) hneyb) (by simp +contextual -implicitDefEqProofs (maxSteps := 1000000) only [sm, sn, seval, eSt, eDoms, eRgs, hb]) rfl ?_
            simp +contextual -implicitDefEqProofs (maxSteps := 1000000) only [sm, sn, seval, eSt, eDoms, eRgs, hb, Int.reduceAdd]
            refine ⟨3, by omega, by omega, [0, 1], by decide, rfl, ?_, ?_⟩
            · simp +contextual -implicitDefEqProofs (maxSteps := 1000000) only [sm, sn, seval, qK, eSt, eDoms, hb]
              try rfl
            · simp +contextual -implicitDefEqProofs (maxSteps := 1000000) only [sm, sn, seval, eSt, eDoms, hb]
              try rfl
          · simp +contextual -implicitDefEqProofs (maxSteps := 1000000) only [sm, sn, seval, eSt, eDoms, hb, qK]
            refine callA_rule (hLz) (by simp +contextual -implicitDefEqProofs (maxSteps := 1000000) only [sm, sn, seval, eSt, eDoms, eRgs, hb]) rfl ?_
            simp +contextual -implicitDefEqProofs (maxSteps := 1000000) only [sm, sn, seval, eSt, eDoms, eRgs, hb]
            refine callA_rule (hLy) (by simp +contextual -implicitDefEqProofs (maxSteps := 1000000) only [sm, sn, seval, eSt, eDoms, eRgs, hb]) rfl ?_
            simp +contextual -implicitDefEqProofs (maxSteps := 1000000) only [sm, sn, seval, eSt, eDoms, eRgs, hb]
            refine callA_rule (hHz) (by simp +contextual -implicitDefEqProofs (maxSteps := 1000000) only [sm, sn, seval, eSt, eDoms, eRgs, hb]) rfl ?_
            simp +contextual -implicitDefEqProofs (maxSteps := 1000000) only [sm, sn, seval, eSt, eDoms, eRgs, hb]
            refine callA_rule (hHy) (by simp +contextual -implicitDefEqProofs (maxSteps := 1000000) only [sm, sn, seval, eSt, eDoms, eRgs, hb]) rfl ?_
            simp +contextual -implicitDefEqProofs (maxSteps := 1000000) only [sm, sn, seval, eSt, eDoms, eRgs, hb]
            refine callA_rule (ref01_Ceil zb yb (by omega) hneyb) (by simp +contextual -implicitDefEqProofs (maxSteps := 1000000) only [sm, sn, seval, eSt, eDoms, eRgs, hb]) rfl ?_
            simp +contextual -implicitDefEqProofs (maxSteps := 1000000) only [sm, sn, seval, eSt, eDoms, eRgs, hb]
            refine callA_rule (ref01_Floor zb yb (by omega) hneyb) (by simp +contextual -implicitDefEqProofs (maxSteps := 1000000) only [sm, sn, seval, eSt, eDoms, eRgs, hb]) rfl ?_
            simp +contextual -implicitDefEqProofs (maxSteps := 1000000) only [sm, sn, seval, eSt, eDoms, eRgs, hb, Int.reduceAdd]
            refine ⟨4, by omega, by omega, [0, 1], by decide, rfl, ?_, ?_⟩
            · simp +contextual -implicitDefEqProofs (maxSteps := 1000000) only [sm, sn, seval, qK, eSt, eDoms, hb]
              try rfl
            · simp +contextual -implicitDefEqProofs (maxSteps := 1000000) only [sm, sn, seval, eSt, eDoms, hb]
              try rfl
          · have hC := hC (qK cel min 1099511627776 (za, zb) (ya, yb) 4) (qK flr max (-1099511627776) (za, zb) (ya, yb) 4)
            simp +contextual -implicitDefEqProofs (maxSteps := 1000000) only [sm, sn, seval, eSt, eDoms, hb]
            refine callA_rule hC (by simp +contextual -implicitDefEqProofs (maxSteps := 1000000) only [sm, sn, seval, eSt, eDoms, eRgs, hb]) rfl ?_
            simp +contextual -implicitDefEqProofs (maxSteps := 1000000) only [sm, sn, seval, eSt, eDoms, hb]
      · refine callA_rule hLy (by simp +contextual -implicitDefEqProofs (maxSteps := 1000000) only [sm, sn, seval, eSt, eDoms, eRgs, hb]) rfl ?_
        simp +contextual -implicitDefEqProofs (maxSteps := 1000000) only [sm, sn, seval, eSt, eDoms, c2, hb]
        refine loop_rule (fun k : Nat => k ≤ 4) (fun k => tm 78 [(1, .int .i64 x), (2, .int .i64 y), (3, .int .i64 z), (4, .ptr 2 0 0 0), (8, .ptr 2 1 0 0), (9, .int .i64 (qK cel min 1099511627776 (za, zb) (ya, yb) k)), (10, .int .i64 (qK flr max (-1099511627776) (za, zb) (ya, yb) k)), (11, .int .i64 k)]) (fun _ => [some (2, [.agg [.list 1 (s.1.map eRgs), .bool false]]), some (2, [.agg [.nils, .bool false]])]) (fun k => 4 - k) 0 (by omega) ⟨[0, 1], by decide, rfl, ?_, ?_⟩ ?_
        · simp +contextual -implicitDefEqProofs (maxSteps := 1000000) only [sm, sn, seval, eSt, eDoms, hb]
          try rfl
        · simp +contextual -implicitDefEqProofs (maxSteps := 1000000) only [sm, sn, seval, eSt, eDoms, hb, qK, Int.natCast_zero]
          try rfl
        · intro k hk
          have hcs : k = 0 ∨ k = 1 ∨ k = 2 ∨ k = 3 ∨ k = 4 := by omega
          rcases hcs with rfl | rfl | rfl | rfl | rfl
          · simp +contextual -implicitDefEqProofs (maxSteps := 1000000) only [sm, sn, seval, eSt, eDoms, hb, qK]
            refine callA_rule (hLz) (by simp +contextual -implicitDefEqProofs (maxSteps := 1000000) only [sm, sn, seval, eSt, eDoms, eRgs, hb]) rfl ?_
            simp +contextual -implicitDefEqProofs (maxSteps := 1000000) only [sm, sn, seval, eSt, eDoms, eRgs, hb]
            refine callA_rule (hLy) (by simp +contextual -implicitDefEqProofs (maxSteps := 1000000) only [sm, sn, seval, eSt, eDoms, eRgs, hb]) rfl ?_
            simp +contextual -implicitDefEqProofs (maxSteps := 1000000) only [sm, sn, seval, eSt, eDoms, eRgs, hb]
            refine callA_rule (ref01_Ceil za ya (by omega) hneya) (by simp +contextual -implicitDefEqProofs (maxSteps := 1000000) only [sm, sn, seval, eSt, eDoms, eRgs, hb]) rfl ?_
            simp +contextual -implicitDefEqProofs (maxSteps := 1000000) only [sm, sn, seval, eSt, eDoms, eRgs, hb]
            refine callA_rule (ref01_Floor za ya (by omega) hneya) (by simp +contextual -implicitDefEqProofs (maxSteps := 1000000) only [sm, sn, seval, eSt, eDoms, eRgs, hb]) rfl ?_
            simp +contextual -implicitDefEqProofs (maxSteps := 1000000) only [sm, sn, seval, eSt, eDoms, eRgs, hb, Int.reduceAdd]
            refine ⟨1, by omega, by omega, [0, 1], by decide, rfl, ?_, ?_⟩
            · simp +contextual -implicitDefEqProofs (maxSteps := 1000000) only [sm, sn, seval, qK, eSt, eDoms, hb]
              try rfl
            · simp +contextual -implicitDefEqProofs (maxSteps := 1000000) only [sm, sn, seval, eSt, eDoms, hb]
              try rfl
          · simp +contextual -implicitDefEqProofs (maxSteps := 1000000) only [sm, sn, seval, eSt, eDoms, hb, qK]
            refine callA_rule (hLz) (by simp +contextual -implicitDefEqProofs (maxSteps := 1000000) only [sm, sn, seval, eSt, eDoms, eRgs, hb]) rfl ?_
            simp +contextual -implicitDefEqProofs (maxSteps := 1000000) only [sm, sn, seval, eSt, eDoms, eRgs, hb]
            refine callA_rule (hLy) (by simp +contextual -implicitDefEqProofs (maxSteps := 1000000) only [sm, sn, seval, eSt, eDoms, eRgs, hb]) rfl ?_
            simp +contextual -implicitDefEqProofs (maxSteps := 1000000) only [sm, sn, seval, eSt, eDoms, eRgs, hb]
            refine callA_rule (hHz) (by simp +contextual -implicitDefEqProofs (maxSteps := 1000000) only [sm, sn, seval, eSt, eDoms, eRgs, hb]) rfl ?_
            simp +contextual -implicitDefEqProofs (maxSteps := 1000000) only [sm, sn, seval, eSt, eDoms, eRgs, hb]
            refine callA_rule (ref01_Ceil zb ya (by omega) hneya) (by simp +contextual -implicitDefEqProofs (maxSteps := 1000000) only [sm, sn, seval, eSt, eDoms, eRgs, hb]) rfl ?_
            simp +contextual -implicitDefEqProofs (maxSteps := 1000000) only [sm, sn, seval, eSt, eDoms, eRgs, hb]
            refine callA_rule (ref01_Floor zb ya (by omega) hneya) (by simp +contextual -implicitDefEqProofs (maxSteps := 1000000) only [sm, sn, seval, eSt, eDoms, eRgs, hb]) rfl ?_
            simp +contextual -implicitDefEqProofs (maxSteps := 1000000) only [sm, sn, seval, eSt, eDoms, eRgs, hb, Int.reduceAdd]
            refine ⟨2, by omega, by omega, [0, 1], by decide, rfl, ?_, ?_⟩
            · simp +contextual -implicitDefEqProofs (maxSteps := 1000000) only [sm, sn, seval, qK, eSt, eDoms, hb]
              try rfl
            · simp +contextual -implicitDefEqProofs (maxSteps := 1000000) only [sm, sn, seval, eSt, eDoms, hb]
              try rfl
          · simp +contextual -implicitDefEqProofs (maxSteps := 1000000) only [sm, sn, seval, eSt, eDoms, hb, qK]
            refine callA_rule (hLz) (by simp +contextual -implicitDefEqProofs (maxSteps := 1000000) only [sm, sn, seval, eSt, eDoms, eRgs, hb]) rfl ?_
            simp +contextual -implicitDefEqProofs (maxSteps := 1000000) only [sm, sn, seval, eSt, eDoms, eRgs, hb]
            refine callA_rule (hLy) (by simp +contextual -implicitDefEqProofs (maxSteps := 1000000) only [sm, sn, seval, eSt, eDoms, eRgs, hb]) rfl ?_
            simp +contextual -implicitDefEqProofs (maxSteps := 1000000) only [sm, sn, seval, eSt, eDoms, eRgs, hb]
            refine callA_rule (hHy) (by simp +contextual -implicitDefEqProofs (maxSteps := 1000000) only [sm, sn, seval, eSt, eDoms, eRgs, hb]) rfl ?_
            simp +contextual -implicitDefEqProofs (maxSteps := 1000000) only [sm, sn, seval, eSt, eDoms, eRgs, hb]
            refine callA_rule (ref01_Ceil za yb (by omega) hneyb) (by simp +contextual -implicitDefEqProofs (maxSteps := 1000000) only [sm, sn, seval, eSt, eDoms, eRgs, hb]) rfl ?_
            simp +contextual -implicitDefEqProofs (maxSteps := 1000000) only [sm, sn, seval, eSt, eDoms, eRgs, hb]
            refine callA_rule (ref01_Floor za yb (by omega) hneyb) (by simp +contextual -implicitDefEqProofs (maxSteps := 1000000) only [sm, sn, seval, eSt, eDoms, eRgs, hb]) rfl ?_
            simp +contextual -implicitDefEqProofs (maxSteps := 1000000) only [sm, sn, seval, eSt, eDoms, eRgs, hb, Int.reduceAdd]
            refine ⟨3, by omega, by omega, [0, 1], by decide, rfl, ?_, ?_⟩
            · simp +contextual -implicitDefEqProofs (maxSteps := 1000000) only [sm, sn, seval, qK, eSt, eDoms, hb]
              try rfl
            · simp +contextual -implicitDefEqProofs (maxSteps := 1000000) only [sm, sn, seval, eSt, eDoms, hb]
              try rfl
          · simp +contextual -implicitDefEqProofs (maxSteps := 1000000) only [sm, sn, seval, eSt, eDoms, hb, qK]
            refine callA_rule (hLz) (by simp +contextual -implicitDefEqProofs (maxSteps := 1000000) only [sm, sn, seval, eSt, eDoms, eRgs, hb]) rfl ?_
            simp +contextual -implicitDefEqProofs (maxSteps := 1000000) only [sm, sn, seval, eSt, eDoms, eRgs, hb]
            refine callA_rule (hLy) (by simp +contextual -implicitDefEqProofs (maxSteps := 1000000) only [sm, sn, seval, eSt, eDoms, eRgs, hb]) rfl ?_
            simp +contextual -implicitDefEqProofs (maxSteps := 1000000) only [sm, sn, seval, eSt, eDoms, eRgs, hb]
            refine callA_rule (hHz) (by simp +contextual -implicitDefEqProofs (maxSteps := 1000000) only [sm, sn, seval, eSt, eDoms, eRgs, hb]) rfl ?_
            simp +contextual -implicitDefEqProofs (maxSteps := 1000000) only [sm, sn, seval, eSt, eDoms, eRgs, hb]
            refine callA_rule (hHy) (by simp +contextual -implicitDefEqProofs (maxSteps := 1000000) only [sm, sn, seval, eSt, eDoms, eRgs, hb]) rfl ?_
            simp +contextual -implicitDefEqProofs (maxSteps := 1000000) only [sm, sn, seval, eSt, eDoms, eRgs, hb]
            refine callA_rule (ref01_Ceil zb yb (by omega) hneyb) (by simp +contextual -implicitDefEqProofs (maxSteps := 1000000) only [sm, sn, seval, eSt, eDoms, eRgs, hb]) rfl ?_
            simp +contextual -implicitDefEqProofs (maxSteps := 1000000) only [sm, sn, seval, eSt, eDoms, eRgs, hb]
            refine callA_rule (ref01_Floor zb yb (by omega) hneyb) (by simp +contextual -implicitDefEqProofs (maxSteps := 1000000) only [sm, sn, seval, eSt, eDoms, eRgs, hb]) rfl ?_
            simp +contextual -implicitDefEqProofs (maxSteps := 1000000) only [sm, sn, seval, eSt, eDoms, eRgs, hb, Int.reduceAdd]
            refine ⟨4, by omega, by omega, [0, 1], by decide, rfl, ?_, ?_⟩
            · simp +contextual -implicitDefEqProofs (maxSteps := 1000000) only [sm, sn, seval, qK, eSt, eDoms, hb]
              try rfl
            · simp +contextual -implicitDefEqProofs (maxSteps := 1000000) only [sm, sn, seval, eSt, eDoms, hb]
              try rfl
          · have hC := hC (qK cel min 1099511627776 (za, zb) (ya, yb) 4) (qK flr max (-1099511627776) (za, zb) (ya, yb) 4)
            simp +contextual -implicitDefEqProofs (maxSteps := 1000000) only [sm, sn, seval, eSt, eDoms, hb]
            refine callA_rule hC (by simp +contextual -implicitDefEqProofs (maxSteps := 1000000) only [sm, sn, seval, eSt, eDoms, eRgs, hb]) rfl ?_
            simp +contextual -implicitDefEqProofs (maxSteps := 1000000) only [sm, sn, seval, eSt, eDoms, hb]
  · rw [if_pos (.inl rfl)]
    simp +contextual -implicitDefEqProofs (maxSteps := 1000000) only [c_ref14_quotient, eSt, eDoms, eRgs, hb, sm, sn, seval]
end Go.Proofs.Ytbhigfllanblpaa
