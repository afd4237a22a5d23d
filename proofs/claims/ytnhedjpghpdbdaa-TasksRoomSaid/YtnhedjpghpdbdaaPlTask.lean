/- Plain laws for tasks: loads, stretches, places. -/
import Derived.Test.YtnhedjpghpdbdaaPlMod
namespace Go.Proofs.Ytnhedjpghpdbdaa
open Av
attribute [local irreducible] awp awpOpers
set_option linter.unusedSimpArgs false
set_option linter.unusedVariables false
def edAt (l : List Rg) (k : Nat) : Rg := (l[k]?).getD (0, 0)
theorem edAt_get {l : List Rg} {k : Nat} (h : k < l.length) : l[k]? = some (edAt l k) := by unfold edAt; rw [List.getElem?_eq_getElem h]; rfl
def edRows (D : List (List Rg)) (X : List Int) : List Rg := X.map fun x => endsV (rowOf D x)
theorem edRows_len (D : List (List Rg)) (X : List Int) : (edRows D X).length = X.length := by unfold edRows; rw [List.length_map]
theorem edRows_get {D : List (List Rg)} {X : List Int} {k : Nat} (h : k < X.length) : (edRows D X)[k]? = some (endsV (rowOf D (xat X k))) := by
  unfold edRows; rw [List.getElem?_map, xat_get h]; rfl
theorem edRows_at {D : List (List Rg)} {X : List Int} {k : Nat} (h : k < X.length) : edAt (edRows D X) k = endsV (rowOf D (xat X k)) := by
  unfold edAt; rw [edRows_get h]; rfl
/-- does task k run for sure at a time? (E: the ends of the tasks' domains; A: how long they last, then what they need) -/
def sureT (E : List Rg) (A : List Int) (k : Nat) (t : Int) : Bool := decide ((edAt E k).2 ≤ t) && decide (t < (edAt E k).1 + xat A k)
def needT (E : List Rg) (A : List Int) (k : Nat) : Int := xat A (E.length + k)
def ldN (E : List Rg) (A : List Int) (but t : Int) : Nat → Int
  | 0 => 0
  | k + 1 => ldN E A but t k + if (k : Int) ≠ but ∧ sureT E A k t = true then needT E A k else 0
def ldV (E : List Rg) (A : List Int) (but t : Int) : Int := ldN E A but t E.length
def overT (E : List Rg) (A : List Int) (C : Int) : Bool := (List.range E.length).any fun k => decide (C < ldV E A (-1) (edAt E k).2)
def markAt (E : List Rg) (A : List Int) (i k : Nat) : List Int := if k ≠ i ∧ (edAt E k).2 < (edAt E k).1 + xat A k then [(edAt E k).2, (edAt E k).1 + xat A k] else []
def marksN (E : List Rg) (A : List Int) (i : Nat) : Nat → List Int
  | 0 => []
  | k + 1 => marksN E A i k ++ markAt E A i k
/-- the stretches of a row of marks at which a task has no room -/
def strN (E : List Rg) (A : List Int) (C : Int) (i : Nat) (ms : List Int) : Nat → List Rg
  | 0 => []
  | k + 1 => strN E A C i ms k ++ if C < ldV E A i (xat ms k) + needT E A i then [(xat ms k, xat ms (k + 1))] else []
def loF (long : Int) (S : List Rg) (l : Int) : Int := S.foldl (fun l x => if x.1 < l + long ∧ l < x.2 then x.2 else l) l
def hiF (long : Int) (S : List Rg) (h : Int) : Int := S.foldr (fun x h => if x.1 < h + long ∧ h < x.2 then x.1 - long else h) h
/-- a place, out of the stretches -/
def placeS (E : List Rg) (A : List Int) (C : Int) (i : Nat) (S : List Rg) : Rg :=
  if xat A i = 0 then edAt E i else if C < needT E A i then (1, 0) else (loF (xat A i) S (edAt E i).1, hiF (xat A i) S (edAt E i).2)
/-- numbers as a constraint on tasks may have -/
def TaskOk (E : List Rg) (A : List Int) (C : Int) : Prop := E.length ≤ 32 ∧ A.length = 2 * E.length ∧ (∀ a ∈ A, 0 ≤ a ∧ a ≤ 1048576) ∧ (0 ≤ C ∧ C ≤ 1048576) ∧ ∀ r ∈ E, (-1048576 ≤ r.1 ∧ r.1 ≤ 1048576) ∧ -1048576 ≤ r.2 ∧ r.2 ≤ 1048576
theorem task_at {E : List Rg} {A : List Int} {C : Int} (h : TaskOk E A C) (k : Nat) : 0 ≤ xat A k ∧ xat A k ≤ 1048576 := by
  unfold xat
  cases hg : A[k]? with
  | none => simp
  | some a => exact h.2.2.1 a (List.mem_of_getElem? hg)
theorem task_rg {E : List Rg} {A : List Int} {C : Int} (h : TaskOk E A C) (k : Nat) : (-1048576 ≤ (edAt E k).1 ∧ (edAt E k).1 ≤ 1048576) ∧ -1048576 ≤ (edAt E k).2 ∧ (edAt E k).2 ≤ 1048576 := by
  unfold edAt
  cases hg : E[k]? with
  | none => simp
  | some r =>
    have := h.2.2.2.2 r (List.mem_of_getElem? hg)
    simp only [Option.getD_some]
    omega
theorem sureT_iff {E : List Rg} {A : List Int} {k : Nat} {t : Int} : sureT E A k t = true ↔ (edAt E k).2 ≤ t ∧ t < (edAt E k).1 + xat A k := by simp [sureT]
theorem ldN_bound {E : List Rg} {A : List Int} {C : Int} (h : TaskOk E A C) (but t : Int) : ∀ k : Nat, 0 ≤ ldN E A but t k ∧ ldN E A but t k ≤ 1048576 * (k : Int)
  | 0 => by simp [ldN]
  | k + 1 => by
    have ih := ldN_bound h but t k
    have := task_at h (E.length + k)
    unfold ldN needT
    split <;> omega
theorem ldV_bound {E : List Rg} {A : List Int} {C : Int} (h : TaskOk E A C) (but t : Int) : 0 ≤ ldV E A but t ∧ ldV E A but t ≤ 33554432 := by
  have := ldN_bound h but t E.length
  have h1 := h.1
  unfold ldV
  omega
theorem ldN_mono {E' E : List Rg} {A : List Int} {C : Int} (h : TaskOk E A C) (hl : E'.length = E.length) {but t t' : Int} : ∀ k : Nat, (∀ j, j < k → (j : Int) ≠ but → sureT E A j t = true → sureT E' A j t' = true) → ldN E A but t k ≤ ldN E' A but t' k
  | 0, _ => by simp [ldN]
  | k + 1, hs => by
    have ih := ldN_mono h hl k fun j hj => hs j (by omega)
    have h1 := hs k (by omega)
    have := task_at h (E.length + k)
    unfold ldN needT
    rw [hl]
    by_cases hb : (k : Int) ≠ but ∧ sureT E A k t = true
    · rw [if_pos hb, if_pos ⟨hb.1, h1 hb.1 hb.2⟩]; omega
    · rw [if_neg hb]
      split <;> omega
theorem ldV_mono {E' E : List Rg} {A : List Int} {C : Int} (h : TaskOk E A C) (hl : E'.length = E.length) {but t t' : Int} (hs : ∀ j, j < E.length → (j : Int) ≠ but → sureT E A j t = true → sureT E' A j t' = true) : ldV E A but t ≤ ldV E' A but t' := by
  unfold ldV
  rw [hl]
  exact ldN_mono h hl _ hs
theorem ldN_run {E : List Rg} {A : List Int} {but t : Int} : ∀ k : Nat, 0 < ldN E A but t k → ∃ j, j < k ∧ (j : Int) ≠ but ∧ sureT E A j t = true
  | 0, h => by simp [ldN] at h
  | k + 1, h => by
    by_cases hb : (k : Int) ≠ but ∧ sureT E A k t = true
    · exact ⟨k, by omega, hb⟩
    · unfold ldN at h
      rw [if_neg hb, Int.add_zero] at h
      obtain ⟨j, h1, h2⟩ := ldN_run k h
      exact ⟨j, by omega, h2⟩
/-- of what runs at a time, what began last -/
theorem last_run {E : List Rg} {A : List Int} {but t : Int} (n : Nat) (hn : ∃ j, j < n ∧ (j : Int) ≠ but ∧ sureT E A j t = true) :
    ∃ j, j < n ∧ (j : Int) ≠ but ∧ sureT E A j t = true ∧ ∀ k, k < n → (k : Int) ≠ but → sureT E A k t = true → (edAt E k).2 ≤ (edAt E j).2 := by
  induction n with
  | zero => obtain ⟨j, h, -⟩ := hn; omega
  | succ n ih =>
    by_cases hp : ∃ j, j < n ∧ (j : Int) ≠ but ∧ sureT E A j t = true
    · obtain ⟨j, j1, j2, j3, j4⟩ := ih hp
      by_cases hb : (n : Int) ≠ but ∧ sureT E A n t = true
      · by_cases hle : (edAt E n).2 ≤ (edAt E j).2
        · refine ⟨j, by omega, j2, j3, fun k hk h1 h2 => ?_⟩
          rcases Nat.lt_succ_iff_lt_or_eq.1 hk with h | rfl
          · exact j4 k h h1 h2
          · exact hle
        · refine ⟨n, by omega, hb.1, hb.2, fun k hk h1 h2 => ?_⟩
          rcases Nat.lt_succ_iff_lt_or_eq.1 hk with h | rfl
          · have := j4 k h h1 h2; omega
          · exact Int.le_refl _
      · refine ⟨j, by omega, j2, j3, fun k hk h1 h2 => ?_⟩
        rcases Nat.lt_succ_iff_lt_or_eq.1 hk with h | rfl
        · exact j4 k h h1 h2
        · exact absurd ⟨h1, h2⟩ hb
    · obtain ⟨j, j1, j2, j3⟩ := hn
      have : j = n := by
        rcases Nat.lt_succ_iff_lt_or_eq.1 j1 with h | h
        · exact absurd ⟨j, h, j2, j3⟩ hp
        · exact h
      subst this
      refine ⟨j, by omega, j2, j3, fun k hk h1 h2 => ?_⟩
      rcases Nat.lt_succ_iff_lt_or_eq.1 hk with h | rfl
      · exact absurd ⟨k, h, h1, h2⟩ hp
      · exact Int.le_refl _
/-- the load rises where a task begins for sure -/
theorem rise {E : List Rg} {A : List Int} {C : Int} (h : TaskOk E A C) {but t s : Int} (hs : s ≤ t) (h0 : 0 < ldV E A but t) :
    ∃ j, j < E.length ∧ (edAt E j).2 ≤ t ∧ ldV E A but t ≤ ldV E A but (max s (edAt E j).2) := by
  obtain ⟨j, j1, j2, j3, j4⟩ := last_run _ (ldN_run _ h0)
  have e := sureT_iff.1 j3
  refine ⟨j, j1, e.1, ldV_mono h rfl fun k hk h1 h2 => ?_⟩
  have := j4 k hk h1 h2
  have e2 := sureT_iff.1 h2
  rw [sureT_iff]
  omega
/-- is there room for a task that begins at a time? -/
def Free (E : List Rg) (A : List Int) (C : Int) (i : Nat) (s : Int) : Prop := ∀ t, s ≤ t → t < s + xat A i → ldV E A i t + needT E A i ≤ C
/-- what a place has to be -/
def PlaceOk (E : List Rg) (A : List Int) (C : Int) (i : Nat) (r : Rg) : Prop :=
  (∀ s, (edAt E i).1 ≤ s → s ≤ (edAt E i).2 → Free E A C i s → r.1 ≤ s ∧ s ≤ r.2) ∧ (r.1 ≤ r.2 → (edAt E i).1 ≤ r.1 ∧ r.2 ≤ (edAt E i).2 ∧ Free E A C i r.1 ∧ Free E A C i r.2)
theorem place_one {E : List Rg} {A : List Int} {C : Int} {i : Nat} {r q : Rg} (hr : PlaceOk E A C i r) (hq : PlaceOk E A C i q) : (r.1 ≤ r.2 ↔ q.1 ≤ q.2) ∧ (r.1 ≤ r.2 → r = q) := by
  have key : ∀ {r q : Rg}, PlaceOk E A C i r → PlaceOk E A C i q → r.1 ≤ r.2 → q.1 ≤ r.1 ∧ r.2 ≤ q.2 := by
    intro r q hr hq h
    obtain ⟨h1, h2, h3, h4⟩ := hr.2 h
    have a := hq.1 r.1 h1 (by omega) h3
    have b := hq.1 r.2 (by omega) h2 h4
    omega
  refine ⟨⟨fun h => ?_, fun h => ?_⟩, fun h => ?_⟩
  · have := key hr hq h; omega
  · have := key hq hr h; omega
  · have a := key hr hq h
    have b := key hq hr (by omega)
    exact Prod.ext (by omega) (by omega)
theorem place_wide {E' E : List Rg} {A : List Int} {C C' : Int} {i : Nat} {r' r : Rg} (h' : PlaceOk E' A C' i r') (h : PlaceOk E A C i r) (h1 : (edAt E i).1 ≤ (edAt E' i).1) (h2 : (edAt E' i).2 ≤ (edAt E i).2)
    (hF : ∀ s, Free E' A C' i s → Free E A C i s) (hne : r'.1 ≤ r'.2) : r.1 ≤ r'.1 ∧ r'.2 ≤ r.2 := by
  obtain ⟨a1, a2, a3, a4⟩ := h'.2 hne
  have a := h.1 r'.1 (by omega) (by omega) (hF _ a3)
  have b := h.1 r'.2 (by omega) (by omega) (hF _ a4)
  omega
/-! stretches -/
def hitR (long : Int) (x : Rg) (s : Int) : Prop := x.1 < s + long ∧ s < x.2
/-- ascending stretches that do not meet -/
def Rise : List Rg → Prop
  | [] => True
  | x :: S => x.1 < x.2 ∧ (∀ y ∈ S, x.2 ≤ y.1) ∧ Rise S
theorem rise_lt : ∀ {S : List Rg}, Rise S → ∀ x ∈ S, x.1 < x.2
  | [], _, x, hx => by simp at hx
  | y :: S, h, x, hx => by
    rcases List.mem_cons.1 hx with rfl | hx
    · exact h.1
    · exact rise_lt h.2.2 x hx
theorem loF_cons (long : Int) (x : Rg) (S : List Rg) (l : Int) : loF long (x :: S) l = loF long S (if x.1 < l + long ∧ l < x.2 then x.2 else l) := rfl
theorem hiF_cons (long : Int) (x : Rg) (S : List Rg) (h : Int) : hiF long (x :: S) h = if x.1 < hiF long S h + long ∧ hiF long S h < x.2 then x.1 - long else hiF long S h := rfl
theorem loF_stay {long : Int} : ∀ {S : List Rg} {l : Int}, (∀ x ∈ S, l + long ≤ x.1) → loF long S l = l
  | [], l, _ => rfl
  | x :: S, l, h => by
    rw [loF_cons, if_neg (by have := h x List.mem_cons_self; omega)]
    exact loF_stay fun y hy => h y (List.mem_cons_of_mem _ hy)
theorem loF_facts {long : Int} (h0 : 0 < long) : ∀ {S : List Rg} {l : Int}, Rise S → l ≤ loF long S l ∧ (∀ s, l ≤ s → s < loF long S l → ∃ x ∈ S, hitR long x s) ∧ ∀ x ∈ S, ¬ hitR long x (loF long S l)
  | [], l, _ => ⟨Int.le_refl _, fun s h1 h2 => by simp only [loF, List.foldl_nil] at h2; omega, by simp⟩
  | x :: S, l, h => by
    rw [loF_cons]
    by_cases hc : x.1 < l + long ∧ l < x.2
    · rw [if_pos hc]
      obtain ⟨a1, a2, a3⟩ := loF_facts h0 (l := x.2) h.2.2
      refine ⟨by omega, fun s h1 h2 => ?_, fun y hy => ?_⟩
      · by_cases hs : s < x.2
        · exact ⟨x, List.mem_cons_self, by omega, hs⟩
        · obtain ⟨y, hy, h3⟩ := a2 s (by omega) h2
          exact ⟨y, List.mem_cons_of_mem _ hy, h3⟩
      · rcases List.mem_cons.1 hy with rfl | hy
        · intro hh; have := hh.2; omega
        · exact a3 y hy
    · rw [if_neg hc]
      obtain ⟨a1, a2, a3⟩ := loF_facts h0 (l := l) h.2.2
      refine ⟨a1, fun s h1 h2 => ?_, fun y hy => ?_⟩
      · obtain ⟨y, hy, h3⟩ := a2 s h1 h2
        exact ⟨y, List.mem_cons_of_mem _ hy, h3⟩
      · rcases List.mem_cons.1 hy with rfl | hy
        · by_cases h3 : l < y.2
          · have hst : loF long S l = l := loF_stay fun z hz => by
              have := h.2.1 z hz
              have := h.1
              omega
            rw [hst]; exact hc
          · intro hh; have := hh.2; omega
        · exact a3 y hy
theorem hiF_facts {long : Int} (h0 : 0 < long) : ∀ {S : List Rg} {h : Int}, Rise S → hiF long S h ≤ h ∧ (∀ s, hiF long S h < s → s ≤ h → ∃ x ∈ S, hitR long x s) ∧ ∀ x ∈ S, ¬ hitR long x (hiF long S h)
  | [], h, _ => ⟨Int.le_refl _, fun s h1 h2 => by simp only [hiF, List.foldr_nil] at h1; omega, by simp⟩
  | x :: S, h, hr => by
    rw [hiF_cons]
    obtain ⟨a1, a2, a3⟩ := hiF_facts h0 (h := h) hr.2.2
    by_cases hc : x.1 < hiF long S h + long ∧ hiF long S h < x.2
    · rw [if_pos hc]
      refine ⟨by omega, fun s h1 h2 => ?_, fun y hy => ?_⟩
      · by_cases hs : hiF long S h < s
        · obtain ⟨y, hy, h3⟩ := a2 s hs h2
          exact ⟨y, List.mem_cons_of_mem _ hy, h3⟩
        · exact ⟨x, List.mem_cons_self, by omega, by omega⟩
      · rcases List.mem_cons.1 hy with rfl | hy
        · intro hh; have := hh.1; omega
        · intro hh
          have h1 := hh.1
          have h2 := hr.2.1 y hy
          have := hr.1
          omega
    · rw [if_neg hc]
      refine ⟨a1, fun s h1 h2 => ?_, fun y hy => ?_⟩
      · obtain ⟨y, hy, h3⟩ := a2 s h1 h2
        exact ⟨y, List.mem_cons_of_mem _ hy, h3⟩
      · rcases List.mem_cons.1 hy with rfl | hy
        · exact hc
        · exact a3 y hy
/-- the stretches tell where there is no room -/
def Tells (E : List Rg) (A : List Int) (C : Int) (i : Nat) (S : List Rg) : Prop := Rise S ∧ ∀ u, C < ldV E A i u + needT E A i ↔ ∃ x ∈ S, x.1 ≤ u ∧ u < x.2
theorem free_iff {E : List Rg} {A : List Int} {C : Int} {i : Nat} {S : List Rg} (hS : Tells E A C i S) (h0 : 0 < xat A i) (s : Int) : Free E A C i s ↔ ∀ x ∈ S, ¬ hitR (xat A i) x s := by
  constructor
  · rintro hf x hx ⟨h1, h2⟩
    have hlt := rise_lt hS.1 x hx
    have := hf (max s x.1) (by omega) (by omega)
    have := (hS.2 (max s x.1)).2 ⟨x, hx, by omega, by omega⟩
    omega
  · intro h t h1 h2
    by_cases hc : C < ldV E A i t + needT E A i
    · obtain ⟨x, hx, h3, h4⟩ := (hS.2 t).1 hc
      exact absurd ⟨by omega, by omega⟩ (h x hx)
    · omega
theorem place_ok {E : List Rg} {A : List Int} {C : Int} (h : TaskOk E A C) {i : Nat} {S : List Rg} (hS : needT E A i ≤ C → Tells E A C i S) : PlaceOk E A C i (placeS E A C i S) := by
  have ha := task_at h i
  unfold placeS
  by_cases h0 : xat A i = 0
  · rw [if_pos h0]
    have hf : ∀ s, Free E A C i s := fun s t h1 h2 => by omega
    exact ⟨fun s h1 h2 _ => ⟨h1, h2⟩, fun _ => ⟨Int.le_refl _, Int.le_refl _, hf _, hf _⟩⟩
  rw [if_neg h0]
  by_cases hn : C < needT E A i
  · rw [if_pos hn]
    refine ⟨fun s _ _ hf => ?_, fun h => by simp at h⟩
    have := hf s (Int.le_refl _) (by omega)
    have := ldV_bound h i s
    omega
  rw [if_neg hn]
  have hT := hS (by omega)
  obtain ⟨a1, a2, a3⟩ := loF_facts (long := xat A i) (by omega) (l := (edAt E i).1) hT.1
  obtain ⟨b1, b2, b3⟩ := hiF_facts (long := xat A i) (by omega) (h := (edAt E i).2) hT.1
  refine ⟨fun s h1 h2 hf => ?_, fun _ => ⟨a1, b1, (free_iff hT (by omega) _).2 a3, (free_iff hT (by omega) _).2 b3⟩⟩
  have hf' := (free_iff hT (by omega) s).1 hf
  constructor
  · rcases Int.lt_or_le s (loF (xat A i) S (edAt E i).1) with h3 | h3
    · obtain ⟨x, hx, h4⟩ := a2 s h1 h3
      exact absurd h4 (hf' x hx)
    · exact h3
  · rcases Int.lt_or_le (hiF (xat A i) S (edAt E i).2) s with h3 | h3
    · obtain ⟨x, hx, h4⟩ := b2 s h3 h2
      exact absurd h4 (hf' x hx)
    · exact h3
/-! stretches out of marks -/
theorem mem_markAt {E : List Rg} {A : List Int} {i k : Nat} {v : Int} : v ∈ markAt E A i k ↔ k ≠ i ∧ (edAt E k).2 < (edAt E k).1 + xat A k ∧ (v = (edAt E k).2 ∨ v = (edAt E k).1 + xat A k) := by
  unfold markAt
  split
  · rename_i h
    simp [h.1, h.2]
  · rename_i h
    constructor
    · simp
    · rintro ⟨h1, h2, -⟩; exact absurd ⟨h1, h2⟩ h
theorem mem_marksN {E : List Rg} {A : List Int} {i : Nat} {v : Int} : ∀ n : Nat, v ∈ marksN E A i n ↔ ∃ k, k < n ∧ v ∈ markAt E A i k
  | 0 => by simp [marksN]
  | n + 1 => by
    unfold marksN
    rw [List.mem_append, mem_marksN n]
    constructor
    · rintro (⟨k, h1, h2⟩ | h)
      · exact ⟨k, by omega, h2⟩
      · exact ⟨n, by omega, h⟩
    · rintro ⟨k, h1, h2⟩
      rcases Nat.lt_succ_iff_lt_or_eq.1 h1 with h | rfl
      · exact .inl ⟨k, h, h2⟩
      · exact .inr h2
theorem marks_in {E : List Rg} {A : List Int} {C : Int} (h : TaskOk E A C) {i n : Nat} : ∀ v ∈ marksN E A i n, -2097152 ≤ v ∧ v ≤ 2097152 := by
  intro v hv
  obtain ⟨k, -, hk⟩ := (mem_marksN n).1 hv
  obtain ⟨-, -, h3⟩ := mem_markAt.1 hk
  have := task_rg h k
  have := task_at h k
  omega
theorem marksN_len (E : List Rg) (A : List Int) (i : Nat) : ∀ n, (marksN E A i n).length ≤ 2 * n
  | 0 => by simp [marksN]
  | n + 1 => by
    have := marksN_len E A i n
    unfold marksN markAt
    rw [List.length_append]
    split <;> simp <;> omega
/-- between two marks the load is one -/
theorem flat_load {E : List Rg} {A : List Int} {C : Int} (h : TaskOk E A C) {i : Nat} {f u : Int} (hfu : f ≤ u) (hm : ∀ v ∈ marksN E A i E.length, v ≤ f ∨ u < v) : ldV E A i f = ldV E A i u := by
  have key : ∀ j, j < E.length → (j : Int) ≠ (i : Int) → (sureT E A j f = true ↔ sureT E A j u = true) := by
    intro j hj hji
    rw [sureT_iff, sureT_iff]
    have hji' : j ≠ i := by omega
    by_cases hs : (edAt E j).2 < (edAt E j).1 + xat A j
    · have m1 := hm (edAt E j).2 ((mem_marksN _).2 ⟨j, hj, mem_markAt.2 ⟨hji', hs, .inl rfl⟩⟩)
      have m2 := hm ((edAt E j).1 + xat A j) ((mem_marksN _).2 ⟨j, hj, mem_markAt.2 ⟨hji', hs, .inr rfl⟩⟩)
      omega
    · omega
  have a := ldV_mono (t := f) (t' := u) (but := i) h rfl fun j hj h1 h2 => (key j hj h1).1 h2
  have b := ldV_mono (t := u) (t' := f) (but := i) h rfl fun j hj h1 h2 => (key j hj h1).2 h2
  omega
theorem mem_strN {E : List Rg} {A : List Int} {C : Int} {i : Nat} {ms : List Int} {x : Rg} : ∀ n : Nat, x ∈ strN E A C i ms n ↔ ∃ k, k < n ∧ C < ldV E A i (xat ms k) + needT E A i ∧ x = (xat ms k, xat ms (k + 1))
  | 0 => by simp [strN]
  | n + 1 => by
    unfold strN
    rw [List.mem_append, mem_strN n]
    constructor
    · rintro (⟨k, h1, h2⟩ | h)
      · exact ⟨k, by omega, h2⟩
      · split at h
        · rename_i hc
          exact ⟨n, by omega, hc, List.mem_singleton.1 h⟩
        · simp at h
    · rintro ⟨k, h1, h2, h3⟩
      rcases Nat.lt_succ_iff_lt_or_eq.1 h1 with h | rfl
      · exact .inl ⟨k, h, h2, h3⟩
      · right; rw [if_pos h2, h3]; exact List.mem_singleton.2 rfl
theorem rise_snoc : ∀ {S : List Rg} {x : Rg}, Rise S → x.1 < x.2 → (∀ y ∈ S, y.2 ≤ x.1) → Rise (S ++ [x])
  | [], x, _, h, _ => ⟨h, by simp, trivial⟩
  | z :: S, x, hr, h, hy => by
    refine ⟨hr.1, fun y hm => ?_, rise_snoc hr.2.2 h fun y hm => hy y (List.mem_cons_of_mem _ hm)⟩
    rcases List.mem_append.1 hm with hm | hm
    · exact hr.2.1 y hm
    · rw [List.mem_singleton.1 hm]; exact hy z List.mem_cons_self
def Asc1 (ms : List Int) : Prop := ∀ i j, i < j → j < ms.length → xat ms i < xat ms j
theorem strN_rise {E : List Rg} {A : List Int} {C : Int} {i : Nat} {ms : List Int} (ha : Asc1 ms) : ∀ n : Nat, n + 1 ≤ ms.length → Rise (strN E A C i ms n)
  | 0, _ => trivial
  | n + 1, h => by
    have ih := strN_rise (E := E) (A := A) (C := C) (i := i) ha n (by omega)
    unfold strN
    split
    · refine rise_snoc ih (ha n (n + 1) (by omega) (by omega)) fun y hy => ?_
      obtain ⟨k, h1, -, rfl⟩ := (mem_strN n).1 hy
      simp only
      rcases Nat.lt_or_ge (k + 1) n with h2 | h2
      · have := ha (k + 1) n h2 (by omega); omega
      · have : k + 1 = n := by omega
        rw [this]; exact Int.le_refl _
    · rw [List.append_nil]; exact ih
/-- the greatest mark up to a time, the next one behind it -/
theorem between {ms : List Int} (ha : Asc1 ms) {u : Int} (h1 : ∃ v ∈ ms, v ≤ u) (h2 : ∃ v ∈ ms, u < v) : ∃ k, k + 1 < ms.length ∧ xat ms k ≤ u ∧ u < xat ms (k + 1) := by
  have at0 : ∀ {v}, v ∈ ms → ∃ k, k < ms.length ∧ xat ms k = v := by
    intro v hv
    obtain ⟨k, hk⟩ := List.getElem?_of_mem hv
    exact ⟨k, (List.getElem?_eq_some_iff.1 hk).1, xat_eq hk⟩
  obtain ⟨v, hv, hvu⟩ := h1
  obtain ⟨w, hw, hwu⟩ := h2
  obtain ⟨a, ha1, rfl⟩ := at0 hv
  obtain ⟨b, hb1, rfl⟩ := at0 hw
  have hab : a < b := by
    rcases Nat.lt_or_ge a b with h | h
    · exact h
    · exfalso
      rcases Nat.lt_or_ge b a with h3 | h3
      · have := ha b a h3 ha1; omega
      · have : a = b := by omega
        subst this; omega
  have key : ∀ d a, a + d = b → xat ms a ≤ u → ∃ k, k + 1 < ms.length ∧ xat ms k ≤ u ∧ u < xat ms (k + 1) := by
    intro d
    induction d with
    | zero => intro a e h; have : a = b := by omega
              subst this; omega
    | succ d ih =>
      intro a e h
      by_cases hc : xat ms (a + 1) ≤ u
      · exact ih (a + 1) (by omega) hc
      · exact ⟨a, by omega, h, by omega⟩
  exact key (b - a) a (by omega) hvu
theorem str_tells {E : List Rg} {A : List Int} {C : Int} (h : TaskOk E A C) {i : Nat} {ms : List Int} (ha : Asc1 ms) (hm : ∀ v, v ∈ ms ↔ v ∈ marksN E A i E.length) (hn : needT E A i ≤ C) : Tells E A C i (strN E A C i ms (ms.length - 1)) := by
  have at0 : ∀ {v}, v ∈ ms → ∃ k, k < ms.length ∧ xat ms k = v := by
    intro v hv
    obtain ⟨k, hk⟩ := List.getElem?_of_mem hv
    exact ⟨k, (List.getElem?_eq_some_iff.1 hk).1, xat_eq hk⟩
  have gap : ∀ k u, k + 1 < ms.length → xat ms k ≤ u → u < xat ms (k + 1) → ldV E A i (xat ms k) = ldV E A i u := by
    intro k u hk h1 h2
    refine flat_load h h1 fun v hv => ?_
    obtain ⟨j, hj, rfl⟩ := at0 ((hm v).2 hv)
    rcases Nat.lt_or_ge k j with h3 | h3
    · right
      rcases Nat.lt_or_ge (k + 1) j with h4 | h4
      · have := ha (k + 1) j h4 hj; omega
      · have : j = k + 1 := by omega
        subst this; exact h2
    · left
      rcases Nat.lt_or_ge j k with h4 | h4
      · have := ha j k h4 (by omega); omega
      · have : j = k := by omega
        subst this; exact Int.le_refl _
  refine ⟨?_, fun u => ⟨fun hu => ?_, ?_⟩⟩
  · rcases Nat.eq_zero_or_pos ms.length with h0 | h0
    · rw [h0]; exact trivial
    · exact strN_rise ha _ (by omega)
  · obtain ⟨j, j1, j2, j3⟩ := ldN_run (E := E) (A := A) (but := i) (t := u) E.length (by
      have : ldN E A i u E.length = ldV E A i u := rfl
      omega)
    have e := sureT_iff.1 j3
    have hji : j ≠ i := by omega
    obtain ⟨k, k1, k2, k3⟩ := between ha (u := u) ⟨(edAt E j).2, (hm _).2 ((mem_marksN _).2 ⟨j, j1, mem_markAt.2 ⟨hji, by omega, .inl rfl⟩⟩), e.1⟩ ⟨(edAt E j).1 + xat A j, (hm _).2 ((mem_marksN _).2 ⟨j, j1, mem_markAt.2 ⟨hji, by omega, .inr rfl⟩⟩), e.2⟩
    refine ⟨_, (mem_strN _).2 ⟨k, by omega, ?_, rfl⟩, k2, k3⟩
    rw [gap k u k1 k2 k3]; exact hu
  · rintro ⟨x, hx, h1, h2⟩
    obtain ⟨k, k1, k2, rfl⟩ := (mem_strN _).1 hx
    simp only at h1 h2
    rw [← gap k u (by omega) h1 h2]; exact k2
end Go.Proofs.Ytnhedjpghpdbdaa
