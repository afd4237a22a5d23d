/- Plain laws for tasks: smaller domains, more of what is shared, one value each. -/
import Derived.Test.YtnhedjpghpdbdaaPlTask2
import Derived.Test.YtnhedjpghpdbdaaGEvery
import Derived.Test.YtnhedjpghpdbdaaGRef11
import Derived.Test.YtnhedjpghpdbdaaPlKp
namespace Go.Proofs.Ytnhedjpghpdbdaa
open Av
attribute [local irreducible] awp awpOpers
set_option linter.unusedSimpArgs false
set_option linter.unusedVariables false
theorem tellor (s : List (List Rg) × Bool) : tell s = ([], 12) ∨ ∃ E, tell s = (E, 0) := by
  obtain ⟨E, b⟩ := s
  cases b
  · exact .inl rfl
  · exact .inr ⟨E, rfl⟩
theorem over_iff {E : List Rg} {A : List Int} {C : Int} (h : TaskOk E A C) : overT E A C = true ↔ ∃ t, C < ldV E A (-1) t := by
  unfold overT
  rw [List.any_eq_true]
  constructor
  · rintro ⟨k, -, hk⟩
    exact ⟨_, of_decide_eq_true hk⟩
  · rintro ⟨t, ht⟩
    have hC := h.2.2.2.1.1
    obtain ⟨j, j1, j2, j3⟩ := rise h (Int.le_refl t) (show 0 < ldV E A (-1) t by omega)
    obtain ⟨i, i1, i2, i3⟩ := rise h (show (edAt E j).2 ≤ t from j2) (show 0 < ldV E A (-1) t by omega)
    obtain ⟨m, m1, m2, m3, m4⟩ := last_run _ (ldN_run E.length (show 0 < ldN E A (-1) t E.length from (show 0 < ldV E A (-1) t by omega)))
    refine ⟨m, List.mem_range.2 m1, decide_eq_true ?_⟩
    have hmono : ldV E A (-1) t ≤ ldV E A (-1) (edAt E m).2 := ldV_mono h rfl fun k hk h1 h2 => by
      have := m4 k hk h1 h2
      have e := sureT_iff.1 h2
      have e2 := sureT_iff.1 m3
      rw [sureT_iff]
      omega
    omega
/-- ends of smaller domains, with more of what is shared -/
def LeT (E' E : List Rg) : Prop := E'.length = E.length ∧ ∀ k, k < E.length → (edAt E k).1 ≤ (edAt E' k).1 ∧ (edAt E' k).2 ≤ (edAt E k).2
theorem ld_le {E' E : List Rg} {A : List Int} {C : Int} (h : TaskOk E A C) (hle : LeT E' E) (but t : Int) : ldV E A but t ≤ ldV E' A but t :=
  ldV_mono h hle.1 fun j hj h1 h2 => by
    have := hle.2 j hj
    have e := sureT_iff.1 h2
    rw [sureT_iff]
    omega
theorem free_le {E' E : List Rg} {A : List Int} {C C' : Int} (h : TaskOk E A C) (hle : LeT E' E) (hC : C' ≤ C) {i : Nat} {s : Int} (hf : Free E' A C' i s) : Free E A C i s := fun t h1 h2 => by
  have a := hf t h1 h2
  have b := ld_le h hle i t
  unfold needT at a ⊢
  rw [hle.1] at a
  omega
theorem over_le {E' E : List Rg} {A : List Int} {C C' : Int} (h : TaskOk E A C) (h' : TaskOk E' A C') (hle : LeT E' E) (hC : C' ≤ C) (ho : overT E A C = true) : overT E' A C' = true := by
  obtain ⟨t, ht⟩ := (over_iff h).1 ho
  have := ld_le h hle (-1) t
  exact (over_iff h').2 ⟨t, by omega⟩
theorem tasksN_le {E' E : List Rg} {A : List Int} {C C' : Int} {S D : List (List Rg)} {X : List Int} (h : TaskOk E A C) (h' : TaskOk E' A C') (hR : LeT E' E) (hC : C' ≤ C) (hle : LeD S D) (hX : InD D X) (hl : E.length = X.length) :
    ∀ k, k ≤ X.length → LeD (tasksN E' A C' S X k) (tasksN E A C D X k)
  | 0, _ => hle
  | k + 1, hk => by
    have ih := tasksN_le h h' hR hC hle hX hl k (by omega)
    have hx := hX k (by omega)
    have hx' : 0 ≤ xat X k ∧ xat X k < (tasksN E A C D X k).length := by rw [tasksN_len]; exact hx
    have hn : needT E' A k = needT E A k := by unfold needT; rw [hR.1]
    unfold tasksN
    rw [hn]
    split
    · have hs := ih.2 _ hx'.1 hx'.2
      refine setrow_le ih hx' ?_
      by_cases hne : (placeT E' A C' k).1 ≤ (placeT E' A C' k).2
      · have hw := place_wide (placeT_ok h' k) (placeT_ok h k) (hR.2 k (by omega)).1 (hR.2 k (by omega)).2 (fun s hf => free_le h hR hC hf) hne
        exact cut_sub2 hs hw.1 hw.2
      · rw [cut_none hs.1 (by omega)]
        exact sub_nil (cut_sub hs.2.1 _ _).1
    · exact ih
theorem ed_le {S D : List (List Rg)} {X : List Int} (hle : LeD S D) (hS : DOk S) (hD : DOk D) (hX : InD D X) : LeT (edRows S X) (edRows D X) := by
  refine ⟨by rw [edRows_len, edRows_len], fun k hk => ?_⟩
  rw [edRows_len] at hk
  rw [edRows_at hk, edRows_at hk]
  have := eAt_le hle hS hD (hX k hk)
  unfold eAt at this
  exact ⟨this.1, this.2.2⟩
theorem tasks_l {X A : List Int} {C : Int} {D : List (List Rg)} (hm : modB (D, [(19, X, A, C)], 0, 0) = true) :
    tasksL (19, X, A, C) D = if overT (edRows D X) A C = true then ([], 12) else tell (tasksN (edRows D X) A C D X X.length, wholeB (tasksN (edRows D X) A C D X X.length)) := by
  unfold tasksL
  rw [if_pos hm, if_pos rfl]
theorem both_le {X A : List Int} {C C' : Int} {S D : List (List Rg)} (hm : modB (D, [(19, X, A, C)], 0, 0) = true) (hmS : modB (S, [(19, X, A, C')], 0, 0) = true) (hC : C' ≤ C) (hle : LeD S D) :
    (∃ E, tasksL (19, X, A, C) D = (E, 0) ∧ (tasksL (19, X, A, C') S = ([], 12) ∨ ∃ E', tasksL (19, X, A, C') S = (E', 0) ∧ LeD E' E)) ∨ (tasksL (19, X, A, C) D = ([], 12) ∧ tasksL (19, X, A, C') S = ([], 12)) := by
  rw [tasks_l hm, tasks_l hmS]
  obtain ⟨f1, hD, h32, hX, hl, hT⟩ := task_facts hm
  obtain ⟨-, hS, -, -, -, hT'⟩ := task_facts hmS
  have hR := ed_le hle hS hD hX
  by_cases ho : overT (edRows D X) A C = true
  · rw [if_pos ho, if_pos (over_le hT hT' hR hC ho)]
    exact .inr ⟨rfl, rfl⟩
  · rw [if_neg ho]
    by_cases ho' : overT (edRows S X) A C' = true
    · rw [if_pos ho']
      rcases tellor (tasksN (edRows D X) A C D X X.length, wholeB (tasksN (edRows D X) A C D X X.length)) with h | ⟨E, h⟩
      · exact .inr ⟨h, rfl⟩
      · exact .inl ⟨E, h, .inl rfl⟩
    · rw [if_neg ho']
      have hN := tasksN_le hT hT' hR hC hle hX (edRows_len D X) X.length (Nat.le_refl _)
      exact tell_up ⟨fun k => whole_up hN k, fun _ => hN⟩
theorem order_tasks {c : Con} {S D : List (List Rg)} (hK : c.1 = 19) (hm : modB (D, [c], 0, 0) = true) (hmS : modB (S, [c], 0, 0) = true) (hle : LeD S D) :
    (∃ E, tasksL c D = (E, 0) ∧ (tasksL c S = ([], 12) ∨ ∃ E', tasksL c S = (E', 0) ∧ LeD E' E)) ∨ (tasksL c D = ([], 12) ∧ tasksL c S = ([], 12)) := by
  obtain ⟨K, X, A, C⟩ := c
  simp only at hK
  subst hK
  exact both_le hm hmS (Int.le_refl _) hle
theorem tasks_res {c : Con} {D : List (List Rg)} (hK : c.1 = 19) (hm : modB (D, [c], 0, 0) = true) : tasksL c D = ([], 12) ∨ ∃ E, tasksL c D = (E, 0) ∧ LeD E D ∧ ∀ r ∈ E, 0 < r.length := by
  obtain ⟨K, X, A, C⟩ := c
  simp only at hK
  subst hK
  rw [tasks_l hm]
  obtain ⟨f1, hD, h32, hX, hl, hT⟩ := task_facts hm
  by_cases ho : overT (edRows D X) A C = true
  · rw [if_pos ho]; exact .inl rfl
  · rw [if_neg ho]
    have hN := tasksN_sub (E := edRows D X) (A := A) (C := C) hD hX X.length (Nat.le_refl _)
    cases hw : wholeB (tasksN (edRows D X) A C D X X.length)
    · exact .inl rfl
    · refine .inr ⟨_, rfl, hN, fun r hr => ?_⟩
      unfold wholeB at hw
      simp only [Bool.not_eq_true', List.any_eq_false, decide_eq_true_eq] at hw
      exact Nat.pos_of_ne_zero (hw r hr)
theorem size_tasks {c : Con} {D : List (List Rg)} (hK : c.1 = 19) (hm : modB (D, [c], 0, 0) = true) : (tasksL c D).1.length ≤ 1000000000000 := by
  have := (one_facts hm).1
  rcases tasks_res hK hm with h | ⟨E, h, hle, -⟩
  · rw [h]; simp
  · rw [h]; have := hle.1; simp only; omega
theorem tasks_small {c : Con} {D : List (List Rg)} (hD : D.length ≤ 1000000000000) (hd : ∀ d ∈ D, d.length ≤ 1000000000000) : (tasksL c D).1.length ≤ 1000000000000 ∧ ∀ d ∈ (tasksL c D).1, d.length ≤ 1000000000000 := by
  by_cases hm : modB (D, [c], 0, 0) = true
  · by_cases hK : c.1 = 19
    · rcases tasks_res hK hm with h | ⟨E, h, hle, hpos⟩
      · rw [h]; simp
      · rw [h]
        show E.length ≤ 1000000000000 ∧ ∀ d ∈ E, d.length ≤ 1000000000000
        refine ⟨by rw [hle.1]; exact hD, fun r hr => ?_⟩
        obtain ⟨k, hk, rfl⟩ := List.getElem_of_mem hr
        have hkD : k < D.length := by rw [← hle.1]; exact hk
        have hs := (hle.2 (k : Int) (by omega) (by omega)).1
        have hro : rowOf E (k : Int) = E[k] := by
          unfold rowOf
          rw [Int.toNat_natCast, List.getElem?_eq_getElem hk]
          rfl
        rw [hro] at hs
        have hp := hpos _ (List.getElem_mem hk)
        have := dom_len (d := E[k]) (by unfold domB; rw [hs]; simp; omega)
        omega
    · unfold tasksL
      rw [if_pos hm, if_neg hK]; simp
  · unfold tasksL
    rw [if_neg hm]; simp
/-! one value each -/
theorem ed_one {a X : List Int} (hb : ∀ v ∈ a, -1048576 ≤ v ∧ v ≤ 1048576) (hX : InD (oneD a) X) : edRows (oneD a) X = (valsOf X a).map fun v => (v, v) := by
  refine List.ext_getElem? fun k => ?_
  rw [List.getElem?_map]
  by_cases hk : k < X.length
  · have hx := hX k hk
    rw [one_len] at hx
    rw [edRows_get hk, vals_get (xat_get hk), Option.map_some]
    have := eAt_one hb hx
    unfold eAt at this
    rw [this]
  · rw [List.getElem?_eq_none (by rw [edRows_len]; omega), List.getElem?_eq_none (by unfold valsOf; rw [List.length_map]; omega)]; rfl
theorem ed_at1 (V : List Int) (k : Nat) : edAt (V.map fun v => (v, v)) k = (xat V k, xat V k) := by
  unfold edAt xat
  rw [List.getElem?_map]
  cases V[k]? <;> rfl
theorem ld_one (V A : List Int) (t : Int) : ∀ k : Nat, ldN (V.map fun v => (v, v)) A (-1) t k = loadN A V t k
  | 0 => rfl
  | k + 1 => by
    unfold ldN loadN
    rw [ld_one V A t k]
    congr 1
    have e1 : ((k : Int) ≠ -1 ∧ sureT (V.map fun v => (v, v)) A k t = true) ↔ (xat V k ≤ t ∧ t < xat V k + xat A k) := by
      rw [sureT_iff, ed_at1]
      constructor
      · rintro ⟨-, h⟩; exact h
      · intro h; exact ⟨by omega, h⟩
    unfold needT
    rw [List.length_map]
    by_cases h : xat V k ≤ t ∧ t < xat V k + xat A k
    · rw [if_pos h, if_pos (e1.2 h)]
    · rw [if_neg h, if_neg (fun h2 => h (e1.1 h2))]
/-- what a task itself needs where it runs -/
theorem ld_but {E : List Rg} {A : List Int} {t : Int} {i : Nat} (hs : sureT E A i t = true) : ∀ k : Nat, ldN E A (-1) t k = ldN E A i t k + if i < k then needT E A i else 0
  | 0 => by simp [ldN]
  | k + 1 => by
    have ih := ld_but hs k
    unfold ldN
    by_cases hik : k = i
    · subst hik
      rw [if_neg (Nat.lt_irrefl k)] at ih
      rw [if_pos ⟨by omega, hs⟩, if_neg (by intro h; exact h.1 rfl), if_pos (by omega), ih]
      try omega
    · have e : ((k : Int) ≠ -1 ∧ sureT E A k t = true) ↔ ((k : Int) ≠ (i : Int) ∧ sureT E A k t = true) := by
        constructor
        · rintro ⟨-, h⟩; exact ⟨by omega, h⟩
        · rintro ⟨-, h⟩; exact ⟨by omega, h⟩
      have e2 : (i < k + 1) ↔ i < k := by omega
      rw [ih]
      simp only [e, e2]
      generalize (if (k : Int) ≠ (i : Int) ∧ sureT E A k t = true then needT E A k else 0) = q
      generalize (if i < k then needT E A i else 0) = p
      omega
theorem over_one {V A : List Int} {C : Int} (h : TaskOk (V.map fun v => (v, v)) A C) : overT (V.map fun v => (v, v)) A C = !tasksB A C V := by
  have hl : ∀ t, ldV (V.map fun v => (v, v)) A (-1) t = loadN A V t V.length := fun t => by
    have := ld_one V A t V.length
    unfold ldV
    rw [List.length_map]
    exact this
  rw [Bool.eq_iff_iff, Bool.not_eq_true']
  unfold tasksB
  rw [List.all_eq_false]
  constructor
  · intro ho
    obtain ⟨t, ht⟩ := (over_iff h).1 ho
    have hC := h.2.2.2.1.1
    obtain ⟨m, m1, m2, m3, m4⟩ := last_run _ (ldN_run _ (show 0 < ldN (V.map fun v => (v, v)) A (-1) t (V.map fun v => (v, v)).length from (show 0 < ldV (V.map fun v => (v, v)) A (-1) t by omega)))
    have e2 := sureT_iff.1 m3
    rw [ed_at1] at e2
    simp only at e2
    have hmono : ldV (V.map fun v => (v, v)) A (-1) t ≤ ldV (V.map fun v => (v, v)) A (-1) (xat V m) := ldV_mono h rfl fun k hk h1 h2 => by
      have h3 := m4 k hk h1 h2
      have e := sureT_iff.1 h2
      rw [sureT_iff]
      rw [ed_at1] at e h3 ⊢
      rw [ed_at1] at h3
      simp only at e h3 ⊢
      omega
    rw [hl] at ht
    rw [hl, hl] at hmono
    rw [List.length_map] at m1
    refine ⟨m, List.mem_range.2 m1, ?_⟩
    have p1 : 0 < xat A m := by omega
    have p2 : C < loadN A V (xat V m) V.length := by omega
    simp [p1, p2]
  · rintro ⟨k, hk, h1⟩
    simp at h1
    exact (over_iff h).2 ⟨xat V k, by rw [hl]; exact h1.2⟩
theorem tasksN_one {a X A : List Int} {C : Int} (hb : ∀ v ∈ a, -1048576 ≤ v ∧ v ≤ 1048576) (hX : InD (oneD a) X) (hT : TaskOk (edRows (oneD a) X) A C) (ho : overT (edRows (oneD a) X) A C = false) : ∀ k, k ≤ X.length → tasksN (edRows (oneD a) X) A C (oneD a) X k = oneD a
  | 0, _ => rfl
  | k + 1, h => by
    have ih := tasksN_one hb hX hT ho k (by omega)
    have hx := hX k (by omega)
    have hx' := hx
    rw [one_len] at hx'
    unfold tasksN
    rw [ih]
    split
    · have he := eAt_one hb hx'
      unfold eAt at he
      have hea := edRows_at (D := oneD a) (X := X) (k := k) (by omega)
      rw [he] at hea
      have hfree : Free (edRows (oneD a) X) A C k (xat a (xat X k).toNat) := by
        intro t h1 h2
        have hs : sureT (edRows (oneD a) X) A k t = true := by
          rw [sureT_iff, hea]
          exact ⟨h1, h2⟩
        have hld := ld_but hs (edRows (oneD a) X).length
        rw [edRows_len, if_pos (by omega)] at hld
        have hld2 : ldV (edRows (oneD a) X) A (-1) t = ldV (edRows (oneD a) X) A k t + needT (edRows (oneD a) X) A k := by
          unfold ldV
          rw [edRows_len]
          exact hld
        rcases Int.lt_or_le C (ldV (edRows (oneD a) X) A (-1) t) with h3 | h3
        · rw [(over_iff hT).2 ⟨t, h3⟩] at ho; cases ho
        · omega
      have hp := placeT_ok hT k
      have h1 := hp.1 (xat a (xat X k).toNat) (by rw [hea]; exact Int.le_refl _) (by rw [hea]; exact Int.le_refl _) hfree
      have h2 := hp.2 (by omega)
      rw [hea] at h2
      simp only at h2
      have hd : domB [(xat a (xat X k).toNat, xat a (xat X k).toNat)] = true := dom_one (hb _ (List.mem_of_getElem? (xat_get (by omega))))
      have hrt := (dom_right hd).1
      have hw := cut_within (r := [(xat a (xat X k).toNat, xat a (xat X k).toNat)]) ⟨hrt, hrt, fun v hv => hv⟩ hd
      rw [← row_one hx', he, row_one hx'] at hw
      have e1 : (placeT (edRows (oneD a) X) A C k).1 = xat a (xat X k).toNat := by omega
      have e2 : (placeT (edRows (oneD a) X) A C k).2 = xat a (xat X k).toNat := by omega
      rw [e1, e2, row_one hx', hw, ← row_one hx']
      exact set_self hx
    · rfl
theorem tasks_one {X A : List Int} {C : Int} {a : List Int} (hb : ∀ v ∈ a, -1048576 ≤ v ∧ v ≤ 1048576) (hm : modB (oneD a, [(19, X, A, C)], 0, 0) = true) :
    tasksL (19, X, A, C) (oneD a) = if tasksB A C (valsOf X a) = true then (oneD a, 0) else ([], 12) := by
  rw [tasks_l hm]
  obtain ⟨f1, hD, h32, hX, hl, hT⟩ := task_facts hm
  have e := ed_one hb hX
  have hov : overT (edRows (oneD a) X) A C = !tasksB A C (valsOf X a) := by rw [e] at hT ⊢; exact over_one hT
  cases hB : tasksB A C (valsOf X a)
  · rw [hB, Bool.not_false] at hov
    rw [if_pos hov, if_neg (by simp)]
  · rw [hB, Bool.not_true] at hov
    rw [if_neg (by rw [hov]; simp), if_pos rfl, tasksN_one hb hX hT hov _ (Nat.le_refl _), whole_one]
    rfl
theorem tasks_holds {X A : List Int} {C : Int} {V : List Int} : holdsB (19, X, A, C) V = tasksB A C V := by
  simp [holdsB]
theorem tasks_kept {c : Con} {D : List (List Rg)} (hK : c.1 = 19) (hm : modB (D, [c], 0, 0) = true) :
    KeptP (fun a => askdB c a && holdsB c (valsOf c.2.1 a)) D (tasksL c D).1 (tasksL c D).2 := by
  have g2 := (one_facts hm).2.1
  have hF := full_dom g2
  refine kept_of (fun a ha => ?_) (fun a ha hh => ?_) (tasks_res hK hm)
  · obtain ⟨o1, o2⟩ := one_le hF ha
    exact order_tasks hK hm (mod_sub o1 o2 hm) o1
  · obtain ⟨o1, o2⟩ := one_le hF ha
    rw [Bool.and_eq_true] at hh
    obtain ⟨K, X, A, C⟩ := c
    simp only at hK
    subst hK
    rw [tasks_one (box_bound hF ha) (mod_sub o1 o2 hm)]
    have h2 := hh.2
    rw [tasks_holds] at h2
    rw [if_pos h2]
/-! rows of other variables -/
theorem tasksN_kp (E : List Rg) (A : List Int) (C : Int) (D : List (List Rg)) (X : List Int) : ∀ k, k ≤ X.length → Kp X D (tasksN E A C D X k)
  | 0, _ => kp_refl X D
  | k + 1, h => by
    unfold tasksN
    split
    · exact kp_set (xat_mem (by omega)) _ (tasksN_kp E A C D X k (by omega))
    · exact tasksN_kp E A C D X k (by omega)
theorem telled {s : List (List Rg) × Bool} {G : List (List Rg)} (h : tell s = (G, 0)) : G = s.1 := by
  obtain ⟨E, b⟩ := s
  cases b
  · simp [tell] at h
  · simp [tell] at h
    exact h.symm
theorem tasks_kp {c : Con} {D G : List (List Rg)} (h : tasksL c D = (G, 0)) : Kp c.2.1 D G ∧ G.length = D.length ∧ InD D c.2.1 := by
  unfold tasksL at h
  by_cases hm : modB (D, [c], 0, 0) = true
  · rw [if_pos hm] at h
    have g3 := (may_facts (one_facts hm).2.2).2.2.1
    by_cases hK : c.1 = 19
    · rw [if_pos hK] at h
      by_cases hr : overT (edRows D c.2.1) c.2.2.1 c.2.2.2 = true
      · rw [if_pos hr] at h; simp at h
      · rw [if_neg hr] at h
        have e := telled h
        refine ⟨tell_kp h (tasksN_kp _ _ _ _ _ _ (Nat.le_refl _)), ?_, g3⟩
        rw [e]
        exact tasksN_len _ _ _ _ _ _
    · rw [if_neg hK] at h; simp at h
  · rw [if_neg hm] at h; simp at h
end Go.Proofs.Ytnhedjpghpdbdaa
