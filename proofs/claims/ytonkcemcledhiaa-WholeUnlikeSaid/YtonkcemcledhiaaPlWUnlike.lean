/- Plain laws: two variables that are to be unlike, and a difference that may not be nought. -/
import Derived.Test.YtonkcemcledhiaaPlHall4
import Derived.Test.YtonkcemcledhiaaPlKpHall
import Derived.Test.YtonkcemcledhiaaGLinLaw
namespace Go.Proofs.Ytonkcemcledhiaa
open Av
attribute [local irreducible] awp awpOpers
set_option linter.unusedSimpArgs false
set_option linter.unusedVariables false
def unC (x y : Int) : Con := (18, [x, y], [], 0)
def dfC (x y : Int) : Con := (3, [x, y], [1, -1], 0)
theorem df_mod {x y : Int} {D : List (List Rg)} (hm : modB (D, [unC x y], 0, 0) = true) : modB (D, [dfC x y], 0, 0) = true := by
  have e1 : (shp 18).2.2.2.2 = 0 := by decide
  have e2 : (shp 3).2.2.2.2 = 0 := by decide
  obtain ⟨-, -, f3⟩ := one_facts hm
  have g : mayB D (dfC x y) = true := by
    unfold mayB unC at f3
    unfold mayB dfC
    simp only [Bool.and_eq_true, e1] at f3
    simp only [Bool.and_eq_true, e2]
    obtain ⟨⟨⟨⟨⟨h1, h2⟩, h3⟩, h4⟩, h5⟩, h6⟩ := f3
    exact ⟨⟨⟨⟨⟨rfl, h2⟩, rfl⟩, rfl⟩, h5⟩, rfl⟩
  unfold modB at hm ⊢
  simp only [Bool.and_eq_true, List.all_cons, List.all_nil, Bool.and_true] at hm ⊢
  exact ⟨⟨⟨⟨hm.1.1.1.1, hm.1.1.1.2⟩, hm.1.1.2⟩, g⟩, hm.2⟩
theorem ends_pick {D : List (List Rg)} {z : Int} (hD : DOk D) (hz : 0 ≤ z ∧ z < D.length) :
    Mem (rowOf D z) (eAt D z).1 ∧ Mem (rowOf D z) (eAt D z).2 ∧ (∀ v, Mem (rowOf D z) v → (eAt D z).1 ≤ v ∧ v ≤ (eAt D z).2) ∧ (¬ (eAt D z).1 = (eAt D z).2 → ∀ v, ∃ w, Mem (rowOf D z) w ∧ w ≠ v) := by
  obtain ⟨h1, h2, h3, -⟩ := ends_facts (hD z hz.1 hz.2)
  refine ⟨h1, h2, h3, fun h v => ?_⟩
  by_cases e : (eAt D z).1 = v
  · exact ⟨_, h2, fun e2 => h (by unfold eAt at e ⊢; omega)⟩
  · exact ⟨_, h1, e⟩
/-- what the difference leaves has a partner -/
def Part (D b : List (List Rg)) (x y : Int) : Prop :=
  (∀ v, Mem (rowOf b x) v → ∃ w, Mem (rowOf D y) w ∧ w ≠ v) ∧ (∀ v, Mem (rowOf b y) v → ∃ w, Mem (rowOf D x) w ∧ w ≠ v) ∧ (∀ z, 0 ≤ z → z ≠ x → z ≠ y → rowOf b z = rowOf D z) ∧ ∃ v w, Mem (rowOf D x) v ∧ Mem (rowOf D y) w ∧ w ≠ v
theorem df_part {x y : Int} {D b : List (List Rg)} (hxy : x ≠ y) (hm : modB (D, [unC x y], 0, 0) = true) (h : linearL (dfC x y) D = (b, 0)) : Part D b x y := by
  obtain ⟨-, hD, -, hX⟩ := hall_idx hm
  have hx : 0 ≤ x ∧ x < D.length := hX 0 (by simp [unC])
  have hy : 0 ≤ y ∧ y < D.length := hX 1 (by simp [unC])
  obtain ⟨x1, x2, x3, x4⟩ := ends_pick hD hx
  obtain ⟨y1, y2, y3, y4⟩ := ends_pick hD hy
  have hrx := (dom_right (hD x hx.1 hx.2)).1
  have hry := (dom_right (hD y hy.1 hy.2)).1
  have hl : linearL (dfC x y) D = tell (notS D [(1, x), (-1, y)] 0) := by
    unfold linearL
    rw [if_pos (df_mod hm)]
    rfl
  rw [hl] at h
  have t0 : tX [((1 : Int), x), (-1, y)] 0 = (1, x) := rfl
  have t1 : tX [((1 : Int), x), (-1, y)] 1 = (-1, y) := rfl
  by_cases cx : (eAt D x).1 = (eAt D x).2
  · by_cases cy : (eAt D y).1 = (eAt D y).2
    · have ho : openK D [((1 : Int), x), (-1, y)] 2 = ([], (eAt D x).1 - (eAt D y).1) := by
        simp [openK, t0, t1, cx, cy]; omega
      have hn : notS D [((1 : Int), x), (-1, y)] 0 = (D, decide (¬ 0 - ((eAt D x).1 - (eAt D y).1) = 0)) := by
        unfold notS
        simp only [List.length_cons, List.length_nil, Nat.zero_add, Nat.reduceAdd, ho]
        rfl
      rw [hn] at h
      by_cases e : 0 - ((eAt D x).1 - (eAt D y).1) = 0
      · rw [decide_eq_false (by omega)] at h
        simp [tell] at h
      · rw [decide_eq_true e] at h
        simp only [tell, Prod.mk.injEq, and_true] at h
        subst h
        refine ⟨fun v hv => ⟨_, y1, ?_⟩, fun v hv => ⟨_, x1, ?_⟩, fun _ _ _ _ => rfl, _, _, x1, y1, by omega⟩
        · have := x3 v hv; omega
        · have := y3 v hv; omega
    · have ho : openK D [((1 : Int), x), (-1, y)] 2 = ([(-1, y)], (eAt D x).1) := by
        simp [openK, t0, t1, cx, cy]
      have hn : notS D [((1 : Int), x), (-1, y)] 0 = (D.set y.toNat (withoutS (eAt D x).1 (rowOf D y)), wholeB (D.set y.toNat (withoutS (eAt D x).1 (rowOf D y)))) := by
        unfold notS
        have q1 : tX [((-1 : Int), y)] 0 = (-1, y) := rfl
        simp only [List.length_cons, List.length_nil, Nat.zero_add, Nat.reduceAdd, ho, q1]
        rw [if_neg (by omega), if_neg (by omega), if_neg (by simp [Int.tmod_neg]), show (0 - (eAt D x).1).tdiv (-1) = (eAt D x).1 by rw [Int.tdiv_neg, Int.tdiv_one]; omega]
      rw [hn] at h
      cases hw : wholeB (D.set y.toNat (withoutS (eAt D x).1 (rowOf D y))) <;> rw [hw] at h
      · simp [tell] at h
      simp only [tell, Prod.mk.injEq, and_true] at h
      subst h
      have hrow : ∀ z, 0 ≤ z → rowOf (D.set y.toNat (withoutS (eAt D x).1 (rowOf D y))) z = if y = z then withoutS (eAt D x).1 (rowOf D y) else rowOf D z := fun z hz => row_set hy.1 hy.2 hz
      refine ⟨fun v hv => y4 cy v, fun v hv => ⟨_, x1, ?_⟩, fun z h0 h1 h2 => ?_, ?_⟩
      · rw [hrow y hy.1, if_pos rfl] at hv
        exact fun e => (((withoutS_facts _ hry).2 v).1 hv).2 e.symm
      · rw [hrow z h0, if_neg (fun e => h2 e.symm)]
      · obtain ⟨w, hw1, hw2⟩ := y4 cy (eAt D x).1
        exact ⟨_, w, x1, hw1, hw2⟩
  · by_cases cy : (eAt D y).1 = (eAt D y).2
    · have ho : openK D [((1 : Int), x), (-1, y)] 2 = ([(1, x)], -(eAt D y).1) := by
        simp [openK, t0, t1, cx, cy]
      have hn : notS D [((1 : Int), x), (-1, y)] 0 = (D.set x.toNat (withoutS (eAt D y).1 (rowOf D x)), wholeB (D.set x.toNat (withoutS (eAt D y).1 (rowOf D x)))) := by
        unfold notS
        have q1 : tX [((1 : Int), x)] 0 = (1, x) := rfl
        simp only [List.length_cons, List.length_nil, Nat.zero_add, Nat.reduceAdd, ho, q1]
        rw [if_neg (by omega), if_neg (by omega), if_neg (by simp), show (0 - -(eAt D y).1).tdiv 1 = (eAt D y).1 by rw [Int.tdiv_one]; omega]
      rw [hn] at h
      cases hw : wholeB (D.set x.toNat (withoutS (eAt D y).1 (rowOf D x))) <;> rw [hw] at h
      · simp [tell] at h
      simp only [tell, Prod.mk.injEq, and_true] at h
      subst h
      have hrow : ∀ z, 0 ≤ z → rowOf (D.set x.toNat (withoutS (eAt D y).1 (rowOf D x))) z = if x = z then withoutS (eAt D y).1 (rowOf D x) else rowOf D z := fun z hz => row_set hx.1 hx.2 hz
      refine ⟨fun v hv => ⟨_, y1, ?_⟩, fun v hv => x4 cx v, fun z h0 h1 h2 => ?_, ?_⟩
      · rw [hrow x hx.1, if_pos rfl] at hv
        exact fun e => (((withoutS_facts _ hrx).2 v).1 hv).2 e.symm
      · rw [hrow z h0, if_neg (fun e => h1 e.symm)]
      · obtain ⟨w, hw1, hw2⟩ := x4 cx (eAt D y).1
        exact ⟨w, _, hw1, y1, fun e => hw2 e.symm⟩
    · have ho : openK D [((1 : Int), x), (-1, y)] 2 = ([(1, x), (-1, y)], 0) := by
        simp [openK, t0, t1, cx, cy]
      have hn : notS D [((1 : Int), x), (-1, y)] 0 = (D, true) := by
        unfold notS
        simp only [List.length_cons, List.length_nil, Nat.zero_add, Nat.reduceAdd, ho]
        rfl
      rw [hn] at h
      simp only [tell, Prod.mk.injEq, and_true] at h
      subst h
      refine ⟨fun v _ => y4 cy v, fun v _ => x4 cx v, fun _ _ _ _ => rfl, ?_⟩
      obtain ⟨w, hw1, hw2⟩ := y4 cy (eAt D x).1
      exact ⟨_, w, x1, hw1, hw2⟩
def baseA (D : List (List Rg)) : List Int := D.map fun r => (endsV r).1
theorem base_len (D : List (List Rg)) : (baseA D).length = D.length := by unfold baseA; rw [List.length_map]
theorem base_get {D : List (List Rg)} {k : Nat} {r : List Rg} (h : D[k]? = some r) : (baseA D)[k]? = some (endsV r).1 := by unfold baseA; rw [List.getElem?_map, h]; rfl
/-- two unlike values stay -/
theorem un_pair {x y : Int} {D : List (List Rg)} (hxy : x ≠ y) (hm : modB (D, [unC x y], 0, 0) = true) {v w : Int} (hv : Mem (rowOf D x) v) (hw : Mem (rowOf D y) w) (hvw : w ≠ v) :
    ∃ E, hallL (unC x y) D = (E, 0) ∧ Mem (rowOf E x) v ∧ Mem (rowOf E y) w := by
  obtain ⟨f1, hD, -, hX⟩ := hall_idx hm
  have hx : 0 ≤ x ∧ x < D.length := hX 0 (by simp [unC])
  have hy : 0 ≤ y ∧ y < D.length := hX 1 (by simp [unC])
  have g2 := (one_facts hm).2.1
  have hF := full_dom g2
  have hxn : x.toNat ≠ y.toNat := by omega
  obtain ⟨p, hp, hpx, hpy⟩ : ∃ p : List Int, InBox D p ∧ p[x.toNat]? = some v ∧ p[y.toNat]? = some w := by
    refine ⟨((baseA D).set x.toNat v).set y.toNat w, ⟨by simp [base_len], ?_⟩, ?_, ?_⟩
    · intro i r u hr hu
      have hi := (List.getElem?_eq_some_iff.1 hr).1
      by_cases e1 : y.toNat = i
      · subst e1
        rw [List.getElem?_set_self (by simp [base_len]; omega)] at hu
        injection hu with hu; subst hu
        have := row_get hy
        rw [this] at hr; injection hr with hr; subst hr
        exact hw
      · rw [List.getElem?_set_ne e1] at hu
        by_cases e2 : x.toNat = i
        · subst e2
          rw [List.getElem?_set_self (by simp [base_len]; omega)] at hu
          injection hu with hu; subst hu
          have := row_get hx
          rw [this] at hr; injection hr with hr; subst hr
          exact hv
        · rw [List.getElem?_set_ne e2, base_get hr] at hu
          injection hu with hu; subst hu
          exact (ends_facts (g2 r (List.mem_of_getElem? hr))).1
    · rw [List.getElem?_set_ne (fun e => hxn e.symm), List.getElem?_set_self (by rw [base_len]; omega)]
    · rw [List.getElem?_set_self (by simp [base_len]; omega)]
  obtain ⟨o1, o2⟩ := one_le hF hp
  have hmS := mod_sub o1 o2 hm
  have hvx : xat p x.toNat = v := by unfold xat; rw [hpx]; rfl
  have hvy : xat p y.toNat = w := by unfold xat; rw [hpy]; rfl
  have hone := hall_one (c := unC x y) (a := p) rfl (box_bound hF hp) hmS (by
    show (valsOf [x, y] p).Nodup
    simp only [valsOf, List.map_cons, List.map_nil, hvx, hvy]
    simp [hvw.symm])
  have hpl : p.length = D.length := hp.1
  rcases order_hall (c := unC x y) rfl hm hmS o1 with ⟨E, hE, h2⟩ | ⟨-, h2⟩
  · rw [hone] at h2
    rcases h2 with h2 | ⟨E', h2, hle⟩
    · simp at h2
    · injection h2 with h2; subst h2
      refine ⟨E, hE, ?_, ?_⟩
      · have hE2 := hle.1
        rw [one_len] at hE2
        have := (hle.2 x hx.1 (by omega)).2.2 v
        rw [row_one (by omega), hvx] at this
        exact this ⟨(v, v), by simp, by simp⟩
      · have hE2 := hle.1
        rw [one_len] at hE2
        have := (hle.2 y hy.1 (by omega)).2.2 w
        rw [row_one (by omega), hvy] at this
        exact this ⟨(w, w), by simp, by simp⟩
  · rw [hone] at h2
    simp at h2
theorem un_under {x y : Int} {D : List (List Rg)} (hxy : x ≠ y) (hm : modB (D, [unC x y], 0, 0) = true) :
    (∃ b a, linearL (dfC x y) D = (b, 0) ∧ hallL (unC x y) D = (a, 0) ∧ LeD b a ∧ LeD b D ∧ LeD a D) ∨ (linearL (dfC x y) D = ([], 12) ∧ (hallL (unC x y) D = ([], 12) ∨ ∃ a, hallL (unC x y) D = (a, 0) ∧ LeD a D)) := by
  have hh := hall_res (c := unC x y) rfl hm
  rcases linear_res (c := dfC x y) (by simp [dfC]) (df_mod hm) with h | ⟨b, h, hle, -⟩
  · right
    refine ⟨h, ?_⟩
    rcases hh with hh | ⟨a, hh, hl, -⟩
    · exact .inl hh
    · exact .inr ⟨a, hh, hl⟩
  · left
    obtain ⟨p1, p2, p3, v, w, hv, hw, hvw⟩ := df_part hxy hm h
    obtain ⟨a, ha, -, -⟩ := un_pair hxy hm hv hw hvw
    rcases hh with hh | ⟨a', hh, hl, -⟩
    · rw [ha] at hh; simp at hh
    rw [ha] at hh
    injection hh with hh; subst hh
    obtain ⟨f1, hD, -, hX⟩ := hall_idx hm
    have hx : 0 ≤ x ∧ x < D.length := hX 0 (by simp [unC])
    have hy : 0 ≤ y ∧ y < D.length := hX 1 (by simp [unC])
    have hkp := (hall_kp ha).1
    have key : ∀ {v w : Int}, Mem (rowOf D x) v → Mem (rowOf D y) w → w ≠ v → Mem (rowOf a x) v ∧ Mem (rowOf a y) w := by
      intro v w h1 h2 h3
      obtain ⟨E, hE, k1, k2⟩ := un_pair hxy hm h1 h2 h3
      rw [ha] at hE; injection hE with hE; subst hE
      exact ⟨k1, k2⟩
    refine ⟨b, a, h, ha, ⟨by rw [hle.1, hl.1], fun z h0 h1 => ?_⟩, hle, hl⟩
    have hz : z < D.length := by have := hl.1; omega
    have sb := hle.2 z h0 hz
    have sa := hl.2 z h0 hz
    refine ⟨sb.1, sa.1, fun u hu => ?_⟩
    by_cases e1 : z = x
    · subst e1
      obtain ⟨w, hw1, hw2⟩ := p1 u hu
      exact (key (sb.2.2 u hu) hw1 hw2).1
    · by_cases e2 : z = y
      · subst e2
        obtain ⟨w, hw1, hw2⟩ := p2 u hu
        exact (key hw1 (sb.2.2 u hu) hw2.symm).2
      · have ea : rowOf a z = rowOf D z := by
          unfold rowOf
          rw [hkp z.toNat]
          intro q hq
          simp only [unC, List.mem_cons, List.not_mem_nil, or_false] at hq
          rcases hq with rfl | rfl <;> omega
        rw [ea, ← p3 z h0 e1 e2]
        exact hu
end Go.Proofs.Ytonkcemcledhiaa
