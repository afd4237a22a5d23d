/- The walks of the package set: what each function returns. -/
import Derived.Test.YtjdlfmcnjpiaoaaProg
import Derived.Test.YtjdlfmcnjpiaoaaBase
import Derived.LoopTactic
import Derived.Deep.RegionHeld3
namespace Go.Proofs.Ytjdlfmcnjpiaoaa
open Go.RowKit
set_option linter.unusedVariables false

def cmpI (a b : Int) : Int := if a < b then -1 else if b < a then 1 else 0

set_option maxHeartbeats 400000 in
theorem cmp_compare (a b : Int) (w : World) : Calls Try.prog 59 #[.int .i64 a, .int .i64 b] w (RetQ (.int .i64 (cmpI a b)) w) := by
  go_enter Try.func59, Try.ntmps59
  go_wp2
  all_goals go_ret
  all_goals exact ⟨ret1_eq (by unfold cmpI; simp_all; try omega), 0, rfl⟩

set_option maxHeartbeats 400000 in
theorem set_from1 (a b v : Int) (w : World) : Calls Try.prog 72 #[.agg #[.int .i64 a, .int .i64 b], .int .i64 v] w (RetB (.int .i64 (cmpI b v)) w) := by
  go_enter Try.func72, Try.ntmps72
  go_wp2_with (go_at_call 59; refine (cmp_compare _ _ _).mono ?_; rintro e w' ⟨rfl, n1, rfl⟩)
  go_ret
  exact ⟨rfl, below_drewN ((Below.refl _ _).alloc (Nat.le_refl _) _) _⟩

/-- Where the first range stands that ends at v or behind it. -/
def fromN (v : Int) : List Rg → Nat
  | [] => 0
  | r :: l => if r.2 < v then fromN v l + 1 else 0
theorem fromN_le (v : Int) : ∀ l : List Rg, fromN v l ≤ l.length
  | [] => Nat.le_refl _
  | r :: l => by
    unfold fromN
    split
    · have := fromN_le v l; simp; omega
    · simp
theorem fromN_eq {v : Int} : ∀ {l : List Rg} {i : Nat}, i ≤ l.length → (∀ j x y, j < i → l[j]? = some (x, y) → y < v) → (∀ x y, l[i]? = some (x, y) → v ≤ y) → fromN v l = i
  | [], i, h, _, _ => by simp at h; simp [fromN, h]
  | r :: l, 0, _, _, h2 => by
    unfold fromN
    have := h2 r.1 r.2 (by simp)
    rw [if_neg (by omega)]
  | r :: l, i + 1, h, h1, h2 => by
    unfold fromN
    have h3 := h1 0 r.1 r.2 (by omega) (by simp)
    rw [if_pos h3, fromN_eq (i := i) (by simpa using h) (fun j x y hj hl => h1 (j + 1) x y (by omega) (by simpa using hl)) (fun x y hl => h2 x y (by simpa using hl))]
theorem fromN_before {v : Int} : ∀ {l : List Rg} {j : Nat} {x y : Int}, j < fromN v l → l[j]? = some (x, y) → y < v
  | [], j, x, y, h, _ => by simp [fromN] at h
  | r :: l, 0, x, y, h, hl => by
    unfold fromN at h
    simp at hl
    subst hl
    split at h
    · assumption
    · omega
  | r :: l, j + 1, x, y, h, hl => by
    unfold fromN at h
    split at h
    · exact fromN_before (l := l) (j := j) (x := x) (by omega) (by simpa using hl)
    · omega
theorem fromN_at {v : Int} : ∀ {l : List Rg} {x y : Int}, l[fromN v l]? = some (x, y) → v ≤ y
  | [], x, y, hl => by simp at hl
  | r :: l, x, y, hl => by
    unfold fromN at hl
    split at hl
    · exact fromN_at (l := l) (x := x) (by simpa using hl)
    · simp at hl; subst hl; simp at *; omega
/-- The ranges' ends rise. -/
def Rises (l : List Rg) : Prop := ∀ (i j : Nat) (x y x' y' : Int), i ≤ j → l[i]? = some (x, y) → l[j]? = some (x', y') → y ≤ y'

theorem half_lt (i j : Nat) (h : i < j) : i ≤ (i + j) / 2 ∧ (i + j) / 2 < j := by omega
set_option maxRecDepth 100000 in
set_option maxHeartbeats 1000000 in
theorem bsearch (A : Option Addr) (l : List Rg) (c : Nat) (v : Int) (w : World) (hl : l.length ≤ 2000000) (hr : Rises l) (hx : RngsR w 0 w.heap.size (.slice A l.length c) l) :
    Calls Try.prog 71 #[.slice A l.length c, .int .i64 v, .func (.func 72) #[] #[]] w
      (RetP (fun u _ => ∃ b : Bool, u = .tuple #[.int .i64 (fromN v l : Int), .bool b]) w) := by
  have HX := hid hx; clear hx
  have HR := hid hr; clear hr
  go_enter Try.func71, Try.ntmps71
  go_wp2_with fail
  go_loopw [9, 10] (fun vi vj wr => ∃ i j : Nat, i ≤ j ∧ j ≤ l.length ∧ vi = .int .i64 i ∧ vj = .int .i64 j ∧ Hid (∀ k x y, k < i → l[k]? = some (x, y) → y < v) ∧ Hid (∀ k x y, j ≤ k → l[k]? = some (x, y) → v ≤ y) ∧ Hid (Below w.heap.size w wr)) (fun vi vj wr => (intOf vj - intOf vi).toNat)
  case atStart => exact ⟨0, l.length, by omega, by omega, rfl, rfl, hid (fun k x y hk => by omega), hid (fun k x y hk h => by have := (List.getElem?_eq_some_iff.1 h).1; omega), Below.refl _ _⟩
  case round =>
    obtain ⟨i, j, hij, hj, rfl, rfl, hlo, hhi2, hB⟩ := hrel
    by_cases hlt : i < j
    · have hh := half_lt i j hlt
      obtain ⟨x, y, hxy⟩ := at_rg (l := l) (k := (i + j) / 2) (by omega)
      obtain ⟨a, rfl, _, hab, hc⟩ := (HX.out.below hB.out).get (k := (i + j) / 2) (by omega)
      obtain ⟨h1, h2⟩ := hc _ _ _ hxy
      clear hc
      have Hxy := hid hxy; clear hxy
      cases hv : decide (cmpI y v < 0)
      all_goals
        go_wp2_with fail
        refine (set_from1 x y v _).mono ?_
        rintro e w1 ⟨rfl, b1⟩
        go_wp2_with fail
        go_roundw
        case rel =>
          first
            | exact ⟨i, (i + j) / 2, by omega, by omega, by go_num, by go_num, hlo, hid (fun k x' y' hk hx' => by
                have h3 := HR.out _ _ _ _ _ _ hk Hxy.out hx'
                unfold cmpI at hv; simp at hv; split at hv <;> omega), hid (hB.out.trans (b1.mono (by have := hB.out.size; exact this)))⟩
            | exact ⟨(i + j) / 2 + 1, j, by omega, by omega, by go_num, by go_num, hid (fun k x' y' hk hx' => by
                have h3 := HR.out _ _ _ _ _ _ (show k ≤ (i + j) / 2 by omega) hx' Hxy.out
                unfold cmpI at hv; simp at hv; split at hv <;> omega), hhi2, hid (hB.out.trans (b1.mono (by have := hB.out.size; exact this)))⟩
        case measure => simp [intOf]; omega
    · have e : i = j := by omega
      subst e
      have hf : fromN v l = i := fromN_eq hj (fun k x y hk h => hlo.out k x y hk h) (fun x y h => hhi2.out i x y (Nat.le_refl _) h)
      have HF := hid hf; clear hf
      by_cases hn : i < l.length
      · obtain ⟨x, y, hxy⟩ := at_rg (l := l) (k := i) hn
        obtain ⟨a, rfl, _, hab, hc⟩ := (HX.out.below hB.out).get (k := i) hn
        obtain ⟨h1, h2⟩ := hc _ _ _ hxy
        clear hc
        have Hxy := hid hxy; clear hxy
        go_wp2_with fail
        refine (set_from1 x y v _).mono ?_
        rintro e w1 ⟨rfl, b1⟩
        go_wp2_with fail
        go_ret2
        exact ⟨_, rfl, hB.out.trans (b1.mono (by have := hB.out.size; exact this)), _, by rw [HF.out]; exact rfl⟩
      · go_wp2_with fail
        go_ret2
        exact ⟨_, rfl, hB.out, _, by rw [HF.out]; exact rfl⟩

theorem set_from (u : Value) (l : List Rg) (v : Int) (w : World) (hl : l.length ≤ 2000000) (hr : Rises l) (hx : RngsR w 0 w.heap.size u l) :
    Calls Try.prog 62 #[u, .int .i64 v] w (RetB (.int .i64 (fromN v l : Int)) w) := by
  obtain ⟨A, c, rfl, h1, h2, _⟩ := hx.open_
  have C := hid (bsearch A l c v w hl hr hx)
  clear h1 h2
  go_enter Try.func62, Try.ntmps62
  go_wp2_with fail
  refine C.out.mono ?_
  rintro e w1 ⟨_, rfl, b1, b, rfl⟩
  go_wp2_with fail
  go_ret
  exact ⟨rfl, b1⟩

/-! ### Right -/
def withinB (n : Int) : Bool := decide (-1048576 ≤ n) && decide (n ≤ 1048576)
theorem withinB_iff {n : Int} : withinB n = true ↔ -1048576 ≤ n ∧ n ≤ 1048576 := by unfold withinB; simp
theorem withinB_no {n : Int} : withinB n = false ↔ n < -1048576 ∨ 1048576 < n := by unfold withinB; simp; omega
/-- The range at place k may stand there. -/
def okAt (l : List Rg) (k : Nat) : Bool :=
  match l[k]? with
  | none => true
  | some r => !decide (r.2 < r.1) && withinB r.1 && withinB r.2 && (k == 0 || (match l[k - 1]? with | none => true | some p => !decide (r.1 - p.2 < 2)))
def rightB (l : List Rg) : Bool := (List.range l.length).all (okAt l)
theorem rightB_no {l : List Rg} {k : Nat} (hk : k < l.length) (h : okAt l k = false) : rightB l = false := by
  unfold rightB
  rw [List.all_eq_false]
  exact ⟨k, List.mem_range.2 hk, by simp [h]⟩
theorem rightB_yes {l : List Rg} (h : ∀ k, k < l.length → okAt l k = true) : rightB l = true := by
  unfold rightB
  rw [List.all_eq_true]
  exact fun k hk => h k (List.mem_range.1 hk)
theorem rightB_at {l : List Rg} (h : rightB l = true) {k : Nat} (hk : k < l.length) : okAt l k = true := by
  unfold rightB at h
  rw [List.all_eq_true] at h
  exact h k (List.mem_range.2 hk)

set_option maxHeartbeats 400000 in
theorem set_within (n : Int) (w : World) : Calls Try.prog 56 #[.int .i64 n] w (RetQ (.bool (withinB n)) w) := by
  go_enter Try.func56, Try.ntmps56
  go_wp2
  all_goals go_ret
  all_goals exact ⟨retb_eq (by unfold withinB; simp; omega), 0, rfl⟩

theorem ok_more {l : List Rg} {k : Nat} (h : ∀ j, j < k → okAt l j = true) (hk : okAt l k = true) : ∀ j, j < k + 1 → okAt l j = true := by
  intro j hj
  rcases Nat.lt_or_ge j k with h' | h'
  · exact h j h'
  · have e : j = k := by omega
    subst e
    exact hk
theorem ok_1 {l : List Rg} {k : Nat} {x y : Int} (h : l[k]? = some (x, y)) (h1 : decide (y < x) = true) : okAt l k = false := by unfold okAt; rw [h]; simp only [h1]; rfl
theorem ok_2 {l : List Rg} {k : Nat} {x y : Int} (h : l[k]? = some (x, y)) (h1 : decide (y < x) = false) (h2 : withinB x = false) : okAt l k = false := by unfold okAt; rw [h]; simp only [h1, h2]; rfl
theorem ok_3 {l : List Rg} {k : Nat} {x y : Int} (h : l[k]? = some (x, y)) (h1 : decide (y < x) = false) (h2 : withinB x = true) (h3 : withinB y = false) : okAt l k = false := by unfold okAt; rw [h]; simp only [h1, h2, h3]; rfl
theorem ok_4 {l : List Rg} {k : Nat} {x y : Int} (h : l[k]? = some (x, y)) (h1 : decide (y < x) = false) (h2 : withinB x = true) (h3 : withinB y = true) (h0 : k = 0) : okAt l k = true := by
  unfold okAt; rw [h]; simp only [h1, h2, h3, h0]; rfl
theorem ok_5 {l : List Rg} {k : Nat} {x y x' y' : Int} {b : Bool} (h : l[k]? = some (x, y)) (h1 : decide (y < x) = false) (h2 : withinB x = true) (h3 : withinB y = true) (h0 : ¬ k = 0) (hp : l[k - 1]? = some (x', y')) (hb : decide (x - y' < 2) = b) : okAt l k = !b := by
  unfold okAt; rw [h, hp]; simp only [h1, h2, h3, hb]; simp [h0]
theorem ok_within {l : List Rg} {k : Nat} {x y : Int} (h : okAt l k = true) (hk : l[k]? = some (x, y)) : withinB y = true := by
  unfold okAt at h
  rw [hk] at h
  simp at h
  exact h.1.2

set_option maxRecDepth 100000 in
set_option maxHeartbeats 1000000 in
theorem set_right_run (A : Option Addr) (l : List Rg) (c : Nat) (w : World) (hl : l.length ≤ 9223372036854775807) (hx : RngsR w 0 w.heap.size (.slice A l.length c) l) :
    Calls Try.prog 18 #[.slice A l.length c] w (RetB (.bool (rightB l)) w) := by
  have HX := hid hx; clear hx
  go_enter Try.func18, Try.ntmps18
  go_wp2_with fail
  go_loopw [7] (fun vi wr => ∃ k : Nat, k ≤ l.length ∧ vi = .int .i64 k ∧ Hid (∀ j, j < k → okAt l j = true) ∧ Hid (Below w.heap.size w wr)) (fun vi wr => (l.length - (intOf vi).toNat))
  case atStart => exact ⟨0, by omega, rfl, hid (fun j hj => by omega), Below.refl _ _⟩
  case round =>
    obtain ⟨k, hk, rfl, hall, hB⟩ := hrel
    by_cases hlt : k < l.length
    · obtain ⟨x, y, hxy⟩ := at_rg hlt
      obtain ⟨a, rfl, _, hab, hc⟩ := (HX.out.below hB.out).get hlt
      obtain ⟨g1, g2⟩ := hc _ _ _ hxy
      have Hxy := hid hxy; clear hxy
      cases h1 : decide (y < x)
      · cases h2 : withinB x
        · clear hc
          go_wp2_with fail
          go_quiet ((go_at_call 56; first | exact quiet2 (set_within _ _) | exact quiet1 (set_within _ _)))
          go_wp2_with fail
          go_ret
          exact ⟨retb_eq (rightB_no hlt (ok_2 Hxy.out h1 h2)).symm, below_drewN (hB.out.alloc (hB.out.size) _) _⟩
        · cases h3 : withinB y
          · clear hc
            go_wp2_with fail
            go_quiet ((go_at_call 56; first | exact quiet2 (set_within _ _) | exact quiet1 (set_within _ _)))
            go_wp2_with fail
            go_ret
            exact ⟨retb_eq (rightB_no hlt (ok_3 Hxy.out h1 h2 h3)).symm, below_drewN (hB.out.alloc (hB.out.size) _) _⟩
          · obtain ⟨bx1, bx2⟩ := withinB_iff.1 h2
            by_cases h0 : k = 0
            · have h4 : decide (0 < k) = false := by simp; omega
              have H0 := hid h0; clear h0 hc
              go_wp2_with fail
              go_quiet ((go_at_call 56; first | exact quiet2 (set_within _ _) | exact quiet1 (set_within _ _)))
              go_wp2_with fail
              go_roundw
              case rel => exact ⟨k + 1, by omega, by go_num, hid (ok_more hall.out (ok_4 Hxy.out h1 h2 h3 H0.out)), hid (below_drewN (hB.out.alloc (hB.out.size) _) _)⟩
              case measure => simp [intOf]; omega
            · have h4 : decide (0 < k) = true := by simp; omega
              obtain ⟨x', y', hxy'⟩ := at_rg (l := l) (k := k - 1) (by omega)
              obtain ⟨g3, g4⟩ := hc _ _ _ hxy'
              obtain ⟨by1, by2⟩ := withinB_iff.1 (ok_within (hall.out (k - 1) (by omega)) hxy')
              have Hxy' := hid hxy'; clear hxy'
              have e5 : (1 : Int) ≤ (k : Int) := by omega
              have H0 := hid h0; clear h0 hc
              have e6 : (k : Int) - 1 < (l.length : Int) := by omega
              have e4 : (a.add ((k - 1) * 2)).block < wr.heap.size := by rw [block_add]; have := hB.out.size; omega
              have e7 : ((k : Int) - 1).toNat = k - 1 := by omega
              have e8 : IntKind.i64.wrap ((k : Int) - 1) = (k : Int) - 1 := IntWalk.i64_in _ (by omega)
              have e9 : IntKind.i64.wrap (x - y') = x - y' := IntWalk.i64_in _ (by omega)
              cases h6 : decide (x - y' < 2)
              · clear g3
                go_wp2_with fail
                go_quiet ((go_at_call 56; first | exact quiet2 (set_within _ _) | exact quiet1 (set_within _ _)))
                clear e4 e5 e6 e7 e8 e9
                go_wp2_with fail
                go_roundw
                case rel => exact ⟨k + 1, by omega, by go_num, hid (ok_more hall.out (ok_5 Hxy.out h1 h2 h3 H0.out Hxy'.out h6)), hid (below_drewN (hB.out.alloc (hB.out.size) _) _)⟩
                case measure => simp [intOf]; omega
              · clear g3
                go_wp2_with fail
                go_quiet ((go_at_call 56; first | exact quiet2 (set_within _ _) | exact quiet1 (set_within _ _)))
                clear e4 e5 e6 e7 e8 e9
                go_wp2_with fail
                go_ret
                exact ⟨retb_eq (rightB_no hlt (ok_5 Hxy.out h1 h2 h3 H0.out Hxy'.out h6)).symm, below_drewN (hB.out.alloc (hB.out.size) _) _⟩
      · clear hc
        go_wp2_with fail
        go_quiet ((go_at_call 56; first | exact quiet2 (set_within _ _) | exact quiet1 (set_within _ _)))
        go_wp2_with fail
        go_ret
        exact ⟨retb_eq (rightB_no hlt (ok_1 Hxy.out h1)).symm, below_drewN (hB.out.alloc (hB.out.size) _) _⟩
    · go_wp2_with fail
      go_ret
      exact ⟨retb_eq (rightB_yes (fun j hj => hall.out j (by omega))).symm, hB.out⟩
theorem set_right (u : Value) (l : List Rg) (w : World) (hx : RngsR w 0 w.heap.size u l) : Calls Try.prog 18 #[u] w (RetB (.bool (rightB l)) w) := by
  obtain ⟨A, c, rfl, h1, h2, _⟩ := hx.open_
  exact set_right_run A l c w (by omega) hx


end Go.Proofs.Ytjdlfmcnjpiaoaa
