/- Old walks over sets (SetW, SetW2, SetW3, SetW4, SetW5, SetW6). -/
import Derived.Test.YtjdlfmcnjpiaoaaProg
import Derived.LoopTactic
import Derived.Deep.RegionHeld3
import Derived.Lib.BufferMore
import Derived.Lib.SliceRun
import Derived.Laws.AppendOwnNone
import Derived.Test.YtjdlfmcnjpiaoaaOldA
/- The walks of the package set: what each function returns. -/
namespace Go.Proofs.Ytjdlfmcnjpiaoaa.Old
open Go.RowKit
set_option linter.unusedVariables false

def cmpI (a b : Int) : Int := if a < b then -1 else if b < a then 1 else 0

set_option maxHeartbeats 400000 in
theorem cmp_compare (a b : Int) (w : World) : Calls Try.prog 59 #[.int .i64 a, .int .i64 b] w (RetQ (.int .i64 (cmpI a b)) w) := by
  go_enter Try.func59, Try.ntmps59
  go_wp2
  all_goals go_ret
  all_goals exact ⟨ret1_eq (by unfold cmpI; simp_all; try omega), 0, rfl⟩

set_option maxHeartbeats 400000 in
theorem set_from1 (a b v : Int) (w : World) : Calls Try.prog 72 #[.agg #[.int .i64 a, .int .i64 b], .int .i64 v] w (RetB (.int .i64 (cmpI b v)) w) := by
  go_enter Try.func72, Try.ntmps72
  go_wp2_with (go_at_call 59; refine (cmp_compare _ _ _).mono ?_; rintro e w' ⟨rfl, n1, rfl⟩)
  go_ret
  exact ⟨rfl, below_drewN ((Below.refl _ _).alloc (Nat.le_refl _) _) _⟩

/-- Where the first range stands that ends at v or behind it. -/
def fromN (v : Int) : List Rg → Nat
  | [] => 0
  | r :: l => if r.2 < v then fromN v l + 1 else 0
theorem fromN_le (v : Int) : ∀ l : List Rg, fromN v l ≤ l.length
  | [] => Nat.le_refl _
  | r :: l => by
    unfold fromN
    split
    · have := fromN_le v l; simp; omega
    · simp
theorem fromN_eq {v : Int} : ∀ {l : List Rg} {i : Nat}, i ≤ l.length → (∀ j x y, j < i → l[j]? = some (x, y) → y < v) → (∀ x y, l[i]? = some (x, y) → v ≤ y) → fromN v l = i
  | [], i, h, _, _ => by simp at h; simp [fromN, h]
  | r :: l, 0, _, _, h2 => by
    unfold fromN
    have := h2 r.1 r.2 (by simp)
    rw [if_neg (by omega)]
  | r :: l, i + 1, h, h1, h2 => by
    unfold fromN
    have h3 := h1 0 r.1 r.2 (by omega) (by simp)
    rw [if_pos h3, fromN_eq (i := i) (by simpa using h) (fun j x y hj hl => h1 (j + 1) x y (by omega) (by simpa using hl)) (fun x y hl => h2 x y (by simpa using hl))]
theorem fromN_before {v : Int} : ∀ {l : List Rg} {j : Nat} {x y : Int}, j < fromN v l → l[j]? = some (x, y) → y < v
  | [], j, x, y, h, _ => by simp [fromN] at h
  | r :: l, 0, x, y, h, hl => by
    unfold fromN at h
    simp at hl
    subst hl
    split at h
    · assumption
    · omega
  | r :: l, j + 1, x, y, h, hl => by
    unfold fromN at h
    split at h
    · exact fromN_before (l := l) (j := j) (x := x) (by omega) (by simpa using hl)
    · omega
theorem fromN_at {v : Int} : ∀ {l : List Rg} {x y : Int}, l[fromN v l]? = some (x, y) → v ≤ y
  | [], x, y, hl => by simp at hl
  | r :: l, x, y, hl => by
    unfold fromN at hl
    split at hl
    · exact fromN_at (l := l) (x := x) (by simpa using hl)
    · simp at hl; subst hl; simp at *; omega
/-- The ranges' ends rise. -/
def Rises (l : List Rg) : Prop := ∀ (i j : Nat) (x y x' y' : Int), i ≤ j → l[i]? = some (x, y) → l[j]? = some (x', y') → y ≤ y'

theorem half_lt (i j : Nat) (h : i < j) : i ≤ (i + j) / 2 ∧ (i + j) / 2 < j := by omega
set_option maxRecDepth 100000 in
set_option maxHeartbeats 1000000 in
theorem bsearch (A : Option Addr) (l : List Rg) (c : Nat) (v : Int) (w : World) (hl : l.length ≤ 2000000) (hr : Rises l) (hx : RngsR w 0 w.heap.size (.slice A l.length c) l) :
    Calls Try.prog 71 #[.slice A l.length c, .int .i64 v, .func (.func 72) #[] #[]] w
      (RetP (fun u _ => ∃ b : Bool, u = .tuple #[.int .i64 (fromN v l : Int), .bool b]) w) := by
  have HX := hid hx; clear hx
  have HR := hid hr; clear hr
  go_enter Try.func71, Try.ntmps71
  go_wp2_with fail
  go_loopw [9, 10] (fun vi vj wr => ∃ i j : Nat, i ≤ j ∧ j ≤ l.length ∧ vi = .int .i64 i ∧ vj = .int .i64 j ∧ Hid (∀ k x y, k < i → l[k]? = some (x, y) → y < v) ∧ Hid (∀ k x y, j ≤ k → l[k]? = some (x, y) → v ≤ y) ∧ Hid (Below w.heap.size w wr)) (fun vi vj wr => (intOf vj - intOf vi).toNat)
  case atStart => exact ⟨0, l.length, by omega, by omega, rfl, rfl, hid (fun k x y hk => by omega), hid (fun k x y hk h => by have := (List.getElem?_eq_some_iff.1 h).1; omega), Below.refl _ _⟩
  case round =>
    obtain ⟨i, j, hij, hj, rfl, rfl, hlo, hhi2, hB⟩ := hrel
    by_cases hlt : i < j
    · have hh := half_lt i j hlt
      obtain ⟨x, y, hxy⟩ := at_rg (l := l) (k := (i + j) / 2) (by omega)
      obtain ⟨a, rfl, _, hab, hc⟩ := (HX.out.below hB.out).get (k := (i + j) / 2) (by omega)
      obtain ⟨h1, h2⟩ := hc _ _ _ hxy
      clear hc
      have Hxy := hid hxy; clear hxy
      cases hv : decide (cmpI y v < 0)
      all_goals
        go_wp2_with fail
        refine (set_from1 x y v _).mono ?_
        rintro e w1 ⟨rfl, b1⟩
        go_wp2_with fail
        go_roundw
        case rel =>
          first
            | exact ⟨i, (i + j) / 2, by omega, by omega, by go_num, by go_num, hlo, hid (fun k x' y' hk hx' => by
                have h3 := HR.out _ _ _ _ _ _ hk Hxy.out hx'
                unfold cmpI at hv; simp at hv; split at hv <;> omega), hid (hB.out.trans (b1.mono (by have := hB.out.size; exact this)))⟩
            | exact ⟨(i + j) / 2 + 1, j, by omega, by omega, by go_num, by go_num, hid (fun k x' y' hk hx' => by
                have h3 := HR.out _ _ _ _ _ _ (show k ≤ (i + j) / 2 by omega) hx' Hxy.out
                unfold cmpI at hv; simp at hv; split at hv <;> omega), hhi2, hid (hB.out.trans (b1.mono (by have := hB.out.size; exact this)))⟩
        case measure => simp [intOf]; omega
    · have e : i = j := by omega
      subst e
      have hf : fromN v l = i := fromN_eq hj (fun k x y hk h => hlo.out k x y hk h) (fun x y h => hhi2.out i x y (Nat.le_refl _) h)
      have HF := hid hf; clear hf
      by_cases hn : i < l.length
      · obtain ⟨x, y, hxy⟩ := at_rg (l := l) (k := i) hn
        obtain ⟨a, rfl, _, hab, hc⟩ := (HX.out.below hB.out).get (k := i) hn
        obtain ⟨h1, h2⟩ := hc _ _ _ hxy
        clear hc
        have Hxy := hid hxy; clear hxy
        go_wp2_with fail
        refine (set_from1 x y v _).mono ?_
        rintro e w1 ⟨rfl, b1⟩
        go_wp2_with fail
        go_ret2
        exact ⟨_, rfl, hB.out.trans (b1.mono (by have := hB.out.size; exact this)), _, by rw [HF.out]; exact rfl⟩
      · go_wp2_with fail
        go_ret2
        exact ⟨_, rfl, hB.out, _, by rw [HF.out]; exact rfl⟩

theorem set_from (u : Value) (l : List Rg) (v : Int) (w : World) (hl : l.length ≤ 2000000) (hr : Rises l) (hx : RngsR w 0 w.heap.size u l) :
    Calls Try.prog 62 #[u, .int .i64 v] w (RetB (.int .i64 (fromN v l : Int)) w) := by
  obtain ⟨A, c, rfl, h1, h2, _⟩ := hx.open_
  have C := hid (bsearch A l c v w hl hr hx)
  clear h1 h2
  go_enter Try.func62, Try.ntmps62
  go_wp2_with fail
  refine C.out.mono ?_
  rintro e w1 ⟨_, rfl, b1, b, rfl⟩
  go_wp2_with fail
  go_ret
  exact ⟨rfl, b1⟩

/-! ### Right -/
def withinB (n : Int) : Bool := decide (-1048576 ≤ n) && decide (n ≤ 1048576)
theorem withinB_iff {n : Int} : withinB n = true ↔ -1048576 ≤ n ∧ n ≤ 1048576 := by unfold withinB; simp
theorem withinB_no {n : Int} : withinB n = false ↔ n < -1048576 ∨ 1048576 < n := by unfold withinB; simp; omega
/-- The range at place k may stand there. -/
def okAt (l : List Rg) (k : Nat) : Bool :=
  match l[k]? with
  | none => true
  | some r => !decide (r.2 < r.1) && withinB r.1 && withinB r.2 && (k == 0 || (match l[k - 1]? with | none => true | some p => !decide (r.1 - p.2 < 2)))
def rightB (l : List Rg) : Bool := (List.range l.length).all (okAt l)
theorem rightB_no {l : List Rg} {k : Nat} (hk : k < l.length) (h : okAt l k = false) : rightB l = false := by
  unfold rightB
  rw [List.all_eq_false]
  exact ⟨k, List.mem_range.2 hk, by simp [h]⟩
theorem rightB_yes {l : List Rg} (h : ∀ k, k < l.length → okAt l k = true) : rightB l = true := by
  unfold rightB
  rw [List.all_eq_true]
  exact fun k hk => h k (List.mem_range.1 hk)
theorem rightB_at {l : List Rg} (h : rightB l = true) {k : Nat} (hk : k < l.length) : okAt l k = true := by
  unfold rightB at h
  rw [List.all_eq_true] at h
  exact h k (List.mem_range.2 hk)

set_option maxHeartbeats 400000 in
theorem set_within (n : Int) (w : World) : Calls Try.prog 56 #[.int .i64 n] w (RetQ (.bool (withinB n)) w) := by
  go_enter Try.func56, Try.ntmps56
  go_wp2
  all_goals go_ret
  all_goals exact ⟨retb_eq (by unfold withinB; simp; omega), 0, rfl⟩

theorem ok_more {l : List Rg} {k : Nat} (h : ∀ j, j < k → okAt l j = true) (hk : okAt l k = true) : ∀ j, j < k + 1 → okAt l j = true := by
  intro j hj
  rcases Nat.lt_or_ge j k with h' | h'
  · exact h j h'
  · have e : j = k := by omega
    subst e
    exact hk
theorem ok_1 {l : List Rg} {k : Nat} {x y : Int} (h : l[k]? = some (x, y)) (h1 : decide (y < x) = true) : okAt l k = false := by unfold okAt; rw [h]; simp only [h1]; rfl
theorem ok_2 {l : List Rg} {k : Nat} {x y : Int} (h : l[k]? = some (x, y)) (h1 : decide (y < x) = false) (h2 : withinB x = false) : okAt l k = false := by unfold okAt; rw [h]; simp only [h1, h2]; rfl
theorem ok_3 {l : List Rg} {k : Nat} {x y : Int} (h : l[k]? = some (x, y)) (h1 : decide (y < x) = false) (h2 : withinB x = true) (h3 : withinB y = false) : okAt l k = false := by unfold okAt; rw [h]; simp only [h1, h2, h3]; rfl
theorem ok_4 {l : List Rg} {k : Nat} {x y : Int} (h : l[k]? = some (x, y)) (h1 : decide (y < x) = false) (h2 : withinB x = true) (h3 : withinB y = true) (h0 : k = 0) : okAt l k = true := by
  unfold okAt; rw [h]; simp only [h1, h2, h3, h0]; rfl
theorem ok_5 {l : List Rg} {k : Nat} {x y x' y' : Int} {b : Bool} (h : l[k]? = some (x, y)) (h1 : decide (y < x) = false) (h2 : withinB x = true) (h3 : withinB y = true) (h0 : ¬ k = 0) (hp : l[k - 1]? = some (x', y')) (hb : decide (x - y' < 2) = b) : okAt l k = !b := by
  unfold okAt; rw [h, hp]; simp only [h1, h2, h3, hb]; simp [h0]
theorem ok_within {l : List Rg} {k : Nat} {x y : Int} (h : okAt l k = true) (hk : l[k]? = some (x, y)) : withinB y = true := by
  unfold okAt at h
  rw [hk] at h
  simp at h
  exact h.1.2

set_option maxRecDepth 100000 in
set_option maxHeartbeats 1000000 in
theorem set_right_run (A : Option Addr) (l : List Rg) (c : Nat) (w : World) (hl : l.length ≤ 9223372036854775807) (hx : RngsR w 0 w.heap.size (.slice A l.length c) l) :
    Calls Try.prog 18 #[.slice A l.length c] w (RetB (.bool (rightB l)) w) := by
  have HX := hid hx; clear hx
  go_enter Try.func18, Try.ntmps18
  go_wp2_with fail
  go_loopw [7] (fun vi wr => ∃ k : Nat, k ≤ l.length ∧ vi = .int .i64 k ∧ Hid (∀ j, j < k → okAt l j = true) ∧ Hid (Below w.heap.size w wr)) (fun vi wr => (l.length - (intOf vi).toNat))
  case atStart => exact ⟨0, by omega, rfl, hid (fun j hj => by omega), Below.refl _ _⟩
  case round =>
    obtain ⟨k, hk, rfl, hall, hB⟩ := hrel
    by_cases hlt : k < l.length
    · obtain ⟨x, y, hxy⟩ := at_rg hlt
      obtain ⟨a, rfl, _, hab, hc⟩ := (HX.out.below hB.out).get hlt
      obtain ⟨g1, g2⟩ := hc _ _ _ hxy
      have Hxy := hid hxy; clear hxy
      cases h1 : decide (y < x)
      · cases h2 : withinB x
        · clear hc
          go_wp2_with fail
          go_quiet ((go_at_call 56; first | exact quiet2 (set_within _ _) | exact quiet1 (set_within _ _)))
          go_wp2_with fail
          go_ret
          exact ⟨retb_eq (rightB_no hlt (ok_2 Hxy.out h1 h2)).symm, below_drewN (hB.out.alloc (hB.out.size) _) _⟩
        · cases h3 : withinB y
          · clear hc
            go_wp2_with fail
            go_quiet ((go_at_call 56; first | exact quiet2 (set_within _ _) | exact quiet1 (set_within _ _)))
            go_wp2_with fail
            go_ret
            exact ⟨retb_eq (rightB_no hlt (ok_3 Hxy.out h1 h2 h3)).symm, below_drewN (hB.out.alloc (hB.out.size) _) _⟩
          · obtain ⟨bx1, bx2⟩ := withinB_iff.1 h2
            by_cases h0 : k = 0
            · have h4 : decide (0 < k) = false := by simp; omega
              have H0 := hid h0; clear h0 hc
              go_wp2_with fail
              go_quiet ((go_at_call 56; first | exact quiet2 (set_within _ _) | exact quiet1 (set_within _ _)))
              go_wp2_with fail
              go_roundw
              case rel => exact ⟨k + 1, by omega, by go_num, hid (ok_more hall.out (ok_4 Hxy.out h1 h2 h3 H0.out)), hid (below_drewN (hB.out.alloc (hB.out.size) _) _)⟩
              case measure => simp [intOf]; omega
            · have h4 : decide (0 < k) = true := by simp; omega
              obtain ⟨x', y', hxy'⟩ := at_rg (l := l) (k := k - 1) (by omega)
              obtain ⟨g3, g4⟩ := hc _ _ _ hxy'
              obtain ⟨by1, by2⟩ := withinB_iff.1 (ok_within (hall.out (k - 1) (by omega)) hxy')
              have Hxy' := hid hxy'; clear hxy'
              have e5 : (1 : Int) ≤ (k : Int) := by omega
              have H0 := hid h0; clear h0 hc
              have e6 : (k : Int) - 1 < (l.length : Int) := by omega
              have e4 : (a.add ((k - 1) * 2)).block < wr.heap.size := by rw [block_add]; have := hB.out.size; omega
              have e7 : ((k : Int) - 1).toNat = k - 1 := by omega
              have e8 : IntKind.i64.wrap ((k : Int) - 1) = (k : Int) - 1 := IntWalk.i64_in _ (by omega)
              have e9 : IntKind.i64.wrap (x - y') = x - y' := IntWalk.i64_in _ (by omega)
              cases h6 : decide (x - y' < 2)
              · clear g3
                go_wp2_with fail
                go_quiet ((go_at_call 56; first | exact quiet2 (set_within _ _) | exact quiet1 (set_within _ _)))
                clear e4 e5 e6 e7 e8 e9
                go_wp2_with fail
                go_roundw
                case rel => exact ⟨k + 1, by omega, by go_num, hid (ok_more hall.out (ok_5 Hxy.out h1 h2 h3 H0.out Hxy'.out h6)), hid (below_drewN (hB.out.alloc (hB.out.size) _) _)⟩
                case measure => simp [intOf]; omega
              · clear g3
                go_wp2_with fail
                go_quiet ((go_at_call 56; first | exact quiet2 (set_within _ _) | exact quiet1 (set_within _ _)))
                clear e4 e5 e6 e7 e8 e9
                go_wp2_with fail
                go_ret
                exact ⟨retb_eq (rightB_no hlt (ok_5 Hxy.out h1 h2 h3 H0.out Hxy'.out h6)).symm, below_drewN (hB.out.alloc (hB.out.size) _) _⟩
      · clear hc
        go_wp2_with fail
        go_quiet ((go_at_call 56; first | exact quiet2 (set_within _ _) | exact quiet1 (set_within _ _)))
        go_wp2_with fail
        go_ret
        exact ⟨retb_eq (rightB_no hlt (ok_1 Hxy.out h1)).symm, below_drewN (hB.out.alloc (hB.out.size) _) _⟩
    · go_wp2_with fail
      go_ret
      exact ⟨retb_eq (rightB_yes (fun j hj => hall.out j (by omega))).symm, hB.out⟩
theorem set_right (u : Value) (l : List Rg) (w : World) (hx : RngsR w 0 w.heap.size u l) : Calls Try.prog 18 #[u] w (RetB (.bool (rightB l)) w) := by
  obtain ⟨A, c, rfl, h1, h2, _⟩ := hx.open_
  exact set_right_run A l c w (by omega) hx


end Go.Proofs.Ytjdlfmcnjpiaoaa.Old
/- The walks of the package set, continued: Next, Has, Size, Ends, Cut. -/
namespace Go.Proofs.Ytjdlfmcnjpiaoaa.Old
open Go.RowKit
set_option linter.unusedVariables false

theorem rng_info : (Try.prog.info? 36).map (fun i => (i.zero, i.size, i.bytes)) = some (some (.agg #[.int .i64 0, .int .i64 0]), 2, 16) := by kernel_rfl

/-! ### what a set's ranges are -/
theorem right_rg {l : List Rg} (h : rightB l = true) {k : Nat} {x y : Int} (hk : l[k]? = some (x, y)) : x ≤ y ∧ -1048576 ≤ x ∧ x ≤ 1048576 ∧ -1048576 ≤ y ∧ y ≤ 1048576 := by
  have h1 := rightB_at h (List.getElem?_eq_some_iff.1 hk).1
  unfold okAt at h1
  rw [hk] at h1
  simp [withinB] at h1
  omega
theorem right_gap {l : List Rg} (h : rightB l = true) {k : Nat} {x y x' y' : Int} (hk : l[k]? = some (x, y)) (hk' : l[k + 1]? = some (x', y')) : y + 2 ≤ x' := by
  have h1 := rightB_at h (List.getElem?_eq_some_iff.1 hk').1
  unfold okAt at h1
  rw [hk', show k + 1 - 1 = k by omega, hk] at h1
  simp [withinB] at h1
  omega
theorem right_apart {l : List Rg} (h : rightB l = true) : ∀ {d k : Nat} {x y x' y' : Int}, l[k]? = some (x, y) → l[k + d + 1]? = some (x', y') → y + 2 ≤ x'
  | 0, k, x, y, x', y', h1, h2 => right_gap h h1 h2
  | d + 1, k, x, y, x', y', h1, h2 => by
    have hl := (List.getElem?_eq_some_iff.1 h2).1
    obtain ⟨p, q, h3⟩ := at_rg (l := l) (k := k + d + 1) (by omega)
    have h4 := right_apart h h1 h3
    have h5 := right_gap h h3 (by rw [show k + d + 1 + 1 = k + (d + 1) + 1 by omega]; exact h2)
    have h6 := right_rg h h3
    omega
theorem right_rises {l : List Rg} (h : rightB l = true) : Rises l := by
  intro i j x y x' y' hij h1 h2
  rcases Nat.lt_or_ge i j with h3 | h3
  · have h4 := right_apart (d := j - i - 1) h h1 (by rw [show i + (j - i - 1) + 1 = j by omega]; exact h2)
    have := right_rg h h2
    omega
  · have e : i = j := by omega
    subst e
    rw [h1] at h2
    simp at h2
    omega
theorem right_length {l : List Rg} (h : rightB l = true) : l.length ≤ 1048577 := by
  rcases Nat.lt_or_ge l.length 2 with h2 | h2
  · omega
  · have key : ∀ d, d + 1 < l.length → ∀ x y x' y', l[0]? = some (x, y) → l[d + 1]? = some (x', y') → y + 2 * (d + 1 : Nat) ≤ x' := by
      intro d
      induction d with
      | zero => intro _ x y x' y' h3 h4; have := right_gap h h3 h4; omega
      | succ d ih =>
        intro hd x y x' y' h3 h4
        obtain ⟨p, q, h5⟩ := at_rg (l := l) (k := d + 1) (by omega)
        have h6 := ih (by omega) x y p q h3 h5
        have h7 := right_gap h h5 h4
        have h8 := right_rg h h5
        omega
    obtain ⟨x, y, h3⟩ := at_rg (l := l) (k := 0) (by omega)
    obtain ⟨x', y', h4⟩ := at_rg (l := l) (k := l.length - 1) (by omega)
    have h5 := key (l.length - 2) (by omega) x y x' y' h3 (by rw [show l.length - 2 + 1 = l.length - 1 by omega]; exact h4)
    have h6 := right_rg h h3
    have h7 := right_rg h h4
    omega

/-! ### Next, Has -/
def nextV (l : List Rg) (v : Int) : Int := if rightB l = true then (match l[fromN v l]? with | some r => max v r.1 | none => 0) else 0
def nextB (l : List Rg) (v : Int) : Bool := rightB l && decide (fromN v l < l.length)

set_option maxHeartbeats 1000000 in
theorem set_next (u : Value) (l : List Rg) (v : Int) (w : World) (hx : RngsR w 0 w.heap.size u l) :
    Calls Try.prog 21 #[u, .int .i64 v] w (RetB (.tuple #[.int .i64 (nextV l v), .bool (nextB l v)]) w) := by
  obtain ⟨A, c, rfl, h1, h2, _⟩ := hx.open_
  have HX := hid hx; clear hx
  cases hr : rightB l
  · have e1 : nextV l v = 0 := by unfold nextV; rw [hr]; rfl
    have e2 : nextB l v = false := by unfold nextB; rw [hr]; rfl
    rw [e1, e2]
    clear e1 e2
    go_enter Try.func21, Try.ntmps21
    go_wp2_with fail
    refine (set_right _ l _ HX.out).mono ?_
    rintro e w1 ⟨rfl, b1⟩
    go_wp2_with fail
    go_ret2
    exact ⟨rfl, b1⟩
  · have hl := right_length hr
    have hf := fromN_le v l
    obtain ⟨i, hi⟩ : ∃ i, fromN v l = i := ⟨_, rfl⟩
    have C := fun w1 (b1 : Below w.heap.size w w1) => set_from (.slice A l.length c) l v w1 (by omega) (right_rises hr) ((HX.out.below b1).mono (Nat.le_refl _) b1.size)
    rw [hi] at C hf
    have C := hid C
    by_cases hn : i < l.length
    · obtain ⟨x, y, hxy⟩ := at_rg hn
      have e1 : nextV l v = max v x := by unfold nextV; rw [hr, hi, hxy]; rfl
      have e2 : nextB l v = true := by unfold nextB; rw [hr, hi]; simpa using hn
      rw [e1, e2]
      clear e1 e2
      have Hi := hid hi; clear hi
      have Hr := hid hr
      have hne : ((i : Int) == (l.length : Int)) = false := by simp; omega
      have Hxy := hid hxy; clear hxy
      go_enter Try.func21, Try.ntmps21
      go_wp2_with fail
      refine (set_right _ l _ HX.out).mono ?_
      rintro e w1 ⟨rfl, b1⟩
      have B1 := hid b1; clear b1
      go_wp2_with fail
      refine (C.out w1 B1.out).mono ?_
      rintro e w2 ⟨rfl, b2⟩
      have b3 := B1.out.trans (b2.mono B1.out.size)
      obtain ⟨a, rfl, _, hab, hc⟩ := (HX.out.below b3).get hn
      obtain ⟨g1, g2⟩ := hc _ _ _ Hxy.out
      clear hc g2
      have B3 := hid b3; clear b3 b2
      go_wp2_with fail
      all_goals
        go_ret2
        exact ⟨retib_eq (by omega), B3.out⟩
    · have e0 : i = l.length := by omega
      have e1 : nextV l v = 0 := by unfold nextV; rw [hr, hi, e0]; simp
      have e2 : nextB l v = false := by unfold nextB; rw [hr, hi]; simp; omega
      rw [e1, e2]
      clear e1 e2
      have Hi := hid hi; clear hi
      have hne : ((i : Int) == (l.length : Int)) = true := by simp; omega
      clear e0
      go_enter Try.func21, Try.ntmps21
      go_wp2_with fail
      refine (set_right _ l _ HX.out).mono ?_
      rintro e w1 ⟨rfl, b1⟩
      have B1 := hid b1; clear b1
      go_wp2_with fail
      refine (C.out w1 B1.out).mono ?_
      rintro e w2 ⟨rfl, b2⟩
      go_wp2_with fail
      go_ret2
      exact ⟨rfl, B1.out.trans (b2.mono B1.out.size)⟩

def hasB (l : List Rg) (v : Int) : Bool := nextB l v && (nextV l v == v)
set_option maxHeartbeats 1000000 in
theorem set_has (u : Value) (l : List Rg) (v : Int) (w : World) (hx : RngsR w 0 w.heap.size u l) :
    Calls Try.prog 22 #[u, .int .i64 v] w (RetB (.bool (hasB l v)) w) := by
  have C := hid (set_next u l v w hx)
  unfold hasB
  cases hb : nextB l v
  all_goals
    rw [hb] at C
    go_enter Try.func22, Try.ntmps22
    go_wp2_with fail
    refine C.out.mono ?_
    rintro e w1 ⟨rfl, b1⟩
    go_wp2_with fail
    go_ret
    exact ⟨by simp, b1⟩

/-! ### Size, Ends -/
def sizeGo (n : Int) : List Rg → Int
  | [] => n
  | r :: l => sizeGo (n + (r.2 - r.1 + 1)) l
def sizeV (l : List Rg) : Int := if rightB l = true then sizeGo 0 l else 0

set_option maxHeartbeats 1000000 in
theorem set_size (u : Value) (l : List Rg) (w : World) (hx : RngsR w 0 w.heap.size u l) :
    Calls Try.prog 20 #[u] w (RetB (.int .i64 (sizeV l)) w) := by
  obtain ⟨A, c, rfl, h1, h2, _⟩ := hx.open_
  have HX := hid hx; clear hx
  cases hr : rightB l
  · have e1 : sizeV l = 0 := by unfold sizeV; rw [hr]; rfl
    rw [e1]
    clear e1
    go_enter Try.func20, Try.ntmps20
    go_wp2_with fail
    refine (set_right _ l _ HX.out).mono ?_
    rintro e w1 ⟨rfl, b1⟩
    go_wp2_with fail
    go_ret
    exact ⟨rfl, b1⟩
  · obtain ⟨R, hR⟩ : ∃ R, R = sizeV l := ⟨_, rfl⟩
    rw [← hR]
    have hl := right_length hr
    have e0 := hid (show sizeGo 0 (l.drop 0) = R by rw [hR]; unfold sizeV; rw [hr]; rfl)
    clear hR
    have Hr := hid hr
    go_enter Try.func20, Try.ntmps20
    go_wp2_with fail
    refine (set_right _ l _ HX.out).mono ?_
    rintro e w1 ⟨rfl, b1⟩
    have B1 := hid b1; clear b1
    go_wp2_with fail
    go_loopw [3, 11] (fun vn vi wr => ∃ (k : Nat) (n : Int), k ≤ l.length ∧ 0 ≤ n ∧ n ≤ 2097153 * (k : Int) ∧ vi = .int .i64 k ∧ vn = .int .i64 n ∧ Hid (sizeGo n (l.drop k) = R) ∧ Hid (Below w.heap.size w wr)) (fun vn vi wr => (l.length - (intOf vi).toNat))
    case atStart => exact ⟨0, 0, by omega, by omega, by omega, rfl, rfl, e0, B1⟩
    case round =>
      obtain ⟨k, n, hk, hn0, hn1, rfl, rfl, hs, hB⟩ := hrel
      by_cases hlt : k < l.length
      · obtain ⟨x, y, hxy⟩ := at_rg hlt
        obtain ⟨a, rfl, _, hab, hc⟩ := (HX.out.below hB.out).get hlt
        obtain ⟨g1, g2⟩ := hc _ _ _ hxy
        clear hc
        obtain ⟨r1, r2, r3, r4, r5⟩ := right_rg Hr.out hxy
        have hs := hs.out
        rw [drop_at hxy] at hs
        have Hs := hid hs; clear hs
        clear hxy
        go_wp2_with fail
        go_roundw
        case rel => exact ⟨k + 1, n + (y - x + 1), by omega, by omega, by omega, by go_num, by go_num, Hs, hid (hB.out.alloc hB.out.size _)⟩
        case measure => simp [intOf]; omega
      · go_wp2_with fail
        go_ret
        have hs := hs.out
        rw [List.drop_eq_nil_of_le (by omega)] at hs
        rw [← hs]
        exact ⟨rfl, hB.out⟩

end Go.Proofs.Ytjdlfmcnjpiaoaa.Old
/- The walks of the package set, continued: Ends, Cut. -/
namespace Go.Proofs.Ytjdlfmcnjpiaoaa.Old
open Go.RowKit
set_option linter.unusedVariables false

/-- The least and the greatest value; whether there are some. -/
def endsV (l : List Rg) : Rg := if rightB l = true then (match l.head?, l.getLast? with | some a, some b => (a.1, b.2) | _, _ => (0, 0)) else (0, 0)
def endsB (l : List Rg) : Bool := rightB l && !l.isEmpty
theorem last_at {l : List Rg} {n : Nat} (h : l.length = n + 1) : l.getLast? = l[n]? := by
  rw [List.getLast?_eq_getElem?, h]; rfl

set_option maxHeartbeats 1000000 in
theorem set_ends (u : Value) (l : List Rg) (w : World) (hx : RngsR w 0 w.heap.size u l) :
    Calls Try.prog 23 #[u] w (RetB (.tuple #[.agg #[.int .i64 (endsV l).1, .int .i64 (endsV l).2], .bool (endsB l)]) w) := by
  obtain ⟨A, c, rfl, h1, h2, _⟩ := hx.open_
  have HX := hid hx; clear hx
  have hB0 := (Below.refl w.heap.size w).alloc (Nat.le_refl _) (.cells #[.int .i64 0, .int .i64 0] 36)
  have HX1 := hid ((HX.out.below hB0).mono (Nat.le_refl _) hB0.size)
  have HB0 := hid hB0; clear hB0
  cases hr : rightB l
  · have e1 : endsV l = (0, 0) := by unfold endsV; rw [hr]; rfl
    have e2 : endsB l = false := by unfold endsB; rw [hr]; rfl
    rw [e1, e2]
    clear e1 e2
    go_enter Try.func23, Try.ntmps23
    go_wp2_with fail
    refine (set_right _ l _ HX1.out).mono ?_
    rintro e w1 ⟨rfl, b1⟩
    obtain ⟨c0, c1, f0, f1⟩ := ((Blk.new w _ _).below b1 (by simp)).two
    have hz := b1.size
    have B1 := hid b1; clear b1
    go_wp2_with fail
    refine bodyPost_ret (v := .tuple #[.agg #[.int .i64 0, .int .i64 0], .bool false]) (by simp [results, Try.results23, go_sem, c0, c1]) rfl ?_
    exact ⟨rfl, (HB0.out.trans (B1.out.mono (by simp))).setCell (Nat.le_refl _) _ |>.setCell (Nat.le_refl _) _⟩
  · by_cases hn : l.length = 0
    · have e0 : l = [] := List.eq_nil_of_length_eq_zero hn
      have e1 : endsV l = (0, 0) := by unfold endsV; rw [hr, e0]; rfl
      have e2 : endsB l = false := by unfold endsB; rw [hr, e0]; rfl
      rw [e1, e2]
      clear e1 e2
      have hz0 : ((l.length : Int) == 0) = true := by simp; omega
      clear e0 hn
      go_enter Try.func23, Try.ntmps23
      go_wp2_with fail
      refine (set_right _ l _ HX1.out).mono ?_
      rintro e w1 ⟨rfl, b1⟩
      obtain ⟨c0, c1, f0, f1⟩ := ((Blk.new w _ _).below b1 (by simp)).two
      have hz := b1.size
      have B1 := hid b1; clear b1
      go_wp2_with fail
      refine bodyPost_ret (v := .tuple #[.agg #[.int .i64 0, .int .i64 0], .bool false]) (by simp [results, Try.results23, go_sem, c0, c1]) rfl ?_
      exact ⟨rfl, (HB0.out.trans (B1.out.mono (by simp))).setCell (Nat.le_refl _) _ |>.setCell (Nat.le_refl _) _⟩
    · obtain ⟨x, y, hxy⟩ := at_rg (l := l) (k := 0) (by omega)
      obtain ⟨x', y', hxy'⟩ := at_rg (l := l) (k := l.length - 1) (by omega)
      have hll : l.length ≤ 9223372036854775807 := by omega
      have e1 : endsV l = (x, y') := by
        unfold endsV; rw [hr, List.head?_eq_getElem?, List.getLast?_eq_getElem?, hxy, hxy']; rfl
      have e2 : endsB l = true := by unfold endsB; rw [hr]; cases l with | nil => simp at hn | cons a b => rfl
      rw [e1, e2]
      clear e1 e2
      have hz0 : ((l.length : Int) == 0) = false := eqf (by omega)
      go_enter Try.func23, Try.ntmps23
      go_wp2_with fail
      refine (set_right _ l _ HX1.out).mono ?_
      rintro e w1 ⟨rfl, b1⟩
      obtain ⟨c0, c1, f0, f1⟩ := ((Blk.new w _ _).below b1 (by simp)).two
      have hz := b1.size
      obtain ⟨a, rfl, _, hab, hc⟩ := (HX.out.below (HB0.out.trans (b1.mono (by simp)))).get (k := 0) (by omega)
      obtain ⟨g1, _⟩ := hc _ _ _ hxy
      have g1 : w1.cell? a = some (.int .i64 x) := g1
      obtain ⟨_, g2⟩ := hc _ _ _ hxy'
      have B1 := hid b1; clear b1 hc hxy hxy'
      have e3 : 0 < l.length := by omega
      have e5 : (1 : Int) ≤ (l.length : Int) := by omega
      have e6 : (l.length : Int) - 1 < (l.length : Int) := by omega
      have e7 : ((l.length : Int) - 1).toNat = l.length - 1 := by omega
      have e8 : IntKind.i64.wrap ((l.length : Int) - 1) = (l.length : Int) - 1 := IntWalk.i64_in _ (by omega)
      have n0 : ∀ (W : World) (u : Value) (j : Nat), (W.setCell ⟨w.heap.size, j, none⟩ u).cell? a = W.cell? a := fun W u j => cell_far u (by simp; omega)
      have n1 : ∀ (W : World) (u : Value) (j : Nat), (W.setCell ⟨w.heap.size, j, none⟩ u).cell? { block := (a.add ((l.length - 1) * 2)).block, off := (a.add ((l.length - 1) * 2)).off + 1 } = W.cell? { block := (a.add ((l.length - 1) * 2)).block, off := (a.add ((l.length - 1) * 2)).off + 1 } := fun W u j => cell_far u (by simp [block_add]; omega)
      clear hn
      go_wp2_with fail
      go_region_held3 (fun w' => w'.cell? a = some (.int .i64 x) ∧ w'.cell? { block := (a.add ((l.length - 1) * 2)).block, off := (a.add ((l.length - 1) * 2)).off + 1 } = some (.int .i64 y')) (go_keep) (fail)
      go_wp2_with fail
      refine bodyPost_ret (v := .tuple #[.agg #[.int .i64 x, .int .i64 y'], .bool true]) (by simp [results, Try.results23, go_sem, c0, c1]) rfl ?_
      exact ⟨rfl, ((HB0.out.trans (B1.out.mono (by simp))).setCell (Nat.le_refl _) _ |>.setCell (Nat.le_refl _) _).drew⟩

/-! ### Cut -/
def cutGo (lo hi : Int) : List Rg → List Rg
  | [] => []
  | r :: l => if hi < r.1 then [] else if max r.1 lo ≤ min r.2 hi then (max r.1 lo, min r.2 hi) :: cutGo lo hi l else cutGo lo hi l
def cutS (lo hi : Int) (l : List Rg) : List Rg := if rightB l = true then cutGo lo hi (l.drop (fromN lo l)) else []

set_option maxRecDepth 100000 in
set_option maxHeartbeats 1000000 in
theorem set_cut (u : Value) (l : List Rg) (lo hi : Int) (w : World) (hx : RngsR w 0 w.heap.size u l) :
    Calls Try.prog 30 #[u, .int .i64 lo, .int .i64 hi] w (RetP (fun v w' => w'.ownsRow w.heap.size 36 2 v (cutS lo hi l).length (rcells (cutS lo hi l))) w) := by
  obtain ⟨A, c, rfl, h1, h2, _⟩ := hx.open_
  have HX := hid hx; clear hx
  cases hr : rightB l
  · have e1 : cutS lo hi l = [] := by unfold cutS; rw [hr]; rfl
    rw [e1]
    clear e1
    go_enter Try.func30, Try.ntmps30
    go_wp2_with fail
    refine (set_right _ l _ HX.out).mono ?_
    rintro e w1 ⟨rfl, b1⟩
    go_wp2_with fail
    go_ret
    exact ⟨_, rfl, b1, World.ownsRow_nil _ _ _ _⟩
  · have hl := right_length hr
    have hf := fromN_le lo l
    obtain ⟨R, hR⟩ : ∃ R, R = cutS lo hi l := ⟨_, rfl⟩
    rw [← hR]
    obtain ⟨i, hi'⟩ : ∃ i, fromN lo l = i := ⟨_, rfl⟩
    have C := fun w1 (b1 : Below w.heap.size w w1) => set_from (.slice A l.length c) l lo w1 (by omega) (right_rises hr) ((HX.out.below b1).mono (Nat.le_refl _) b1.size)
    have e0 : cutGo lo hi ((l.drop i).drop 0) = R := by rw [hR]; unfold cutS; rw [hr, hi']; rfl
    rw [hi'] at C hf
    have C := hid C
    have E0 := hid e0; clear e0 hR
    have Hr := hid hr
    obtain ⟨m, hm⟩ : ∃ m, m = l.drop i := ⟨_, rfl⟩
    have hml : m.length = l.length - i := by rw [hm, List.length_drop]
    have ht := HX.out.tail i hf
    rw [← hm] at ht E0
    obtain ⟨A2, hA2⟩ : ∃ A2, A2 = (if c = i then A else A.map (·.add (i * 2))) := ⟨_, rfl⟩
    rw [← hA2, ← hml] at ht
    have HT := hid ht
    go_enter Try.func30, Try.ntmps30
    go_wp2_with fail
    refine (set_right _ l _ HX.out).mono ?_
    rintro e w1 ⟨rfl, b1⟩
    have B1 := hid b1; clear b1
    go_wp2_with fail
    refine (C.out w1 B1.out).mono ?_
    rintro e w2 ⟨rfl, b2⟩
    have B3 := hid (B1.out.trans (b2.mono B1.out.size)); clear b2
    have hmm : m.length ≤ 1048577 := by omega
    clear ht C B1
    have HI := hid hi'; clear hi'
    have HM := hid hm; clear hm
    have HF := hid hf; clear hf
    by_cases hck : c = i
    · have e1 : A2 = A := by rw [hA2, if_pos hck]
      have e2 : c - i = 0 := by omega
      rw [e1, e2] at HT
      clear hA2 e1 e2 HX
      go_wp2_with fail
      rw [← hml]
      clear hml
      go_loopw [7, 19] (fun vo vi wr => ∃ (k : Nat) (acc : List Rg), k ≤ m.length ∧ acc.length ≤ k ∧ vi = .int .i64 k ∧ Hid (wr.ownsRow w.heap.size 36 2 vo acc.length (rcells acc)) ∧ Hid (acc ++ cutGo lo hi (m.drop k) = R) ∧ Hid (Below w.heap.size w wr)) (fun vo vi wr => (m.length - (intOf vi).toNat))
      case atStart => exact ⟨0, [], by omega, by simp, rfl, World.ownsRow_nil _ _ _ _, E0, B3⟩
      case round =>
        obtain ⟨k, acc, hk, hak, rfl, hown, hs, hB⟩ := hrel
        by_cases hlt : k < m.length
        · obtain ⟨x, y, hxy⟩ := at_rg hlt
          obtain ⟨a, rfl, _, hab, hc⟩ := (HT.out.below hB.out).get hlt
          obtain ⟨g1, g2⟩ := hc _ _ _ hxy
          clear hc
          have hs := hs.out
          rw [drop_at hxy] at hs
          have hz := hB.out.size
          by_cases q1 : hi < x
          · have hs := hid (show acc = R by simpa [cutGo, q1] using hs)
            clear hxy
            go_wp2_with fail
            go_ret
            have e := hs.out
            subst e
            exact ⟨_, rfl, hB.out.alloc hz _, hown.out.alloc _⟩
          · obtain ⟨p, hp⟩ : ∃ p, p = max x lo := ⟨_, rfl⟩
            obtain ⟨q, hq⟩ : ∃ q, q = min y hi := ⟨_, rfl⟩
            have hp' : (if x < lo then lo else x) = p := by rw [hp]; split <;> omega
            have hq' : (if hi < y then hi else y) = q := by rw [hq]; split <;> omega
            by_cases q2 : p ≤ q
            · have hs := hid (show acc ++ [(p, q)] ++ cutGo lo hi (m.drop (k + 1)) = R by rw [← hs, cutGo, if_neg q1, ← hp, ← hq, if_pos q2, List.append_assoc]; rfl)
              clear hxy hp hq
              go_wp2_with (at_builtin; go_must (refine wpList_app_rng _ rfl (.tmp 41) (.tmp 43) 22 36 rfl Try.underlying22 rng_info w.heap.size _ acc rfl (by exact (hown.out.alloc _).alloc _) (wr.heap.size + 1) p q rfl (by exact Blk.at_ _ _ _ (by simp)) (by omega) (by simp; omega) ?_); intro v1 w3 own1 bw1)
              go_roundw
              case rel => exact ⟨k + 1, acc ++ [(p, q)], by omega, by simp; omega, by go_num, hid own1, hs, hid (((hB.out.alloc hz _).alloc (by simp; omega) _).trans bw1)⟩
              case measure => simp [intOf]; omega
            · have hs := hid (show acc ++ cutGo lo hi (m.drop (k + 1)) = R by rw [← hs, cutGo, if_neg q1, ← hp, ← hq, if_neg q2])
              clear hxy hp hq
              go_wp2_with fail
              go_roundw
              case rel => exact ⟨k + 1, acc, by omega, by omega, by go_num, hid (hown.out.alloc _), hs, hid (hB.out.alloc hz _)⟩
              case measure => simp [intOf]; omega
        · go_wp2_with fail
          go_ret
          have hs := hs.out
          rw [List.drop_eq_nil_of_le (by omega)] at hs
          simp [cutGo] at hs
          subst hs
          exact ⟨_, rfl, hB.out, hown.out⟩
    · have e1 : Option.map (fun x => x.add (i * 2)) A = A2 := by rw [hA2, if_neg hck]
      clear hA2 HX
      have E1 := hid e1; clear e1
      go_wp2_with fail
      rw [E1.out, ← hml]
      clear hml E1
      go_loopw [7, 19] (fun vo vi wr => ∃ (k : Nat) (acc : List Rg), k ≤ m.length ∧ acc.length ≤ k ∧ vi = .int .i64 k ∧ Hid (wr.ownsRow w.heap.size 36 2 vo acc.length (rcells acc)) ∧ Hid (acc ++ cutGo lo hi (m.drop k) = R) ∧ Hid (Below w.heap.size w wr)) (fun vo vi wr => (m.length - (intOf vi).toNat))
      case atStart => exact ⟨0, [], by omega, by simp, rfl, World.ownsRow_nil _ _ _ _, E0, B3⟩
      case round =>
        obtain ⟨k, acc, hk, hak, rfl, hown, hs, hB⟩ := hrel
        by_cases hlt : k < m.length
        · obtain ⟨x, y, hxy⟩ := at_rg hlt
          obtain ⟨a, rfl, _, hab, hc⟩ := (HT.out.below hB.out).get hlt
          obtain ⟨g1, g2⟩ := hc _ _ _ hxy
          clear hc
          have hs := hs.out
          rw [drop_at hxy] at hs
          have hz := hB.out.size
          by_cases q1 : hi < x
          · have hs := hid (show acc = R by simpa [cutGo, q1] using hs)
            clear hxy
            go_wp2_with fail
            go_ret
            have e := hs.out
            subst e
            exact ⟨_, rfl, hB.out.alloc hz _, hown.out.alloc _⟩
          · obtain ⟨p, hp⟩ : ∃ p, p = max x lo := ⟨_, rfl⟩
            obtain ⟨q, hq⟩ : ∃ q, q = min y hi := ⟨_, rfl⟩
            have hp' : (if x < lo then lo else x) = p := by rw [hp]; split <;> omega
            have hq' : (if hi < y then hi else y) = q := by rw [hq]; split <;> omega
            by_cases q2 : p ≤ q
            · have hs := hid (show acc ++ [(p, q)] ++ cutGo lo hi (m.drop (k + 1)) = R by rw [← hs, cutGo, if_neg q1, ← hp, ← hq, if_pos q2, List.append_assoc]; rfl)
              clear hxy hp hq
              go_wp2_with (at_builtin; go_must (refine wpList_app_rng _ rfl (.tmp 41) (.tmp 43) 22 36 rfl Try.underlying22 rng_info w.heap.size _ acc rfl (by exact (hown.out.alloc _).alloc _) (wr.heap.size + 1) p q rfl (by exact Blk.at_ _ _ _ (by simp)) (by omega) (by simp; omega) ?_); intro v1 w3 own1 bw1)
              go_roundw
              case rel => exact ⟨k + 1, acc ++ [(p, q)], by omega, by simp; omega, by go_num, hid own1, hs, hid (((hB.out.alloc hz _).alloc (by simp; omega) _).trans bw1)⟩
              case measure => simp [intOf]; omega
            · have hs := hid (show acc ++ cutGo lo hi (m.drop (k + 1)) = R by rw [← hs, cutGo, if_neg q1, ← hp, ← hq, if_neg q2])
              clear hxy hp hq
              go_wp2_with fail
              go_roundw
              case rel => exact ⟨k + 1, acc, by omega, by omega, by go_num, hid (hown.out.alloc _), hs, hid (hB.out.alloc hz _)⟩
              case measure => simp [intOf]; omega
        · go_wp2_with fail
          go_ret
          have hs := hs.out
          rw [List.drop_eq_nil_of_le (by omega)] at hs
          simp [cutGo] at hs
          subst hs
          exact ⟨_, rfl, hB.out, hown.out⟩
end Go.Proofs.Ytjdlfmcnjpiaoaa.Old
/- The walks: the very same ranges, slices.Equal, slices.Clone at ranges. -/
namespace Go.Proofs.Ytjdlfmcnjpiaoaa.Old
open Go.RowKit
set_option linter.unusedVariables false


theorem eq_more {l m : List Rg} {k : Nat} {r : Rg} (h : ∀ j, j < k → l[j]? = m[j]?) (h1 : l[k]? = some r) (h2 : m[k]? = some r) : ∀ j, j < k + 1 → l[j]? = m[j]? := by
  intro j hj
  rcases Nat.lt_or_ge j k with h' | h'
  · exact h j h'
  · have e : j = k := by omega
    subst e
    rw [h1, h2]
theorem eq_all {l m : List Rg} (hl : l.length = m.length) (h : ∀ j, j < l.length → l[j]? = m[j]?) : l = m := by
  apply List.ext_getElem?
  intro j
  rcases Nat.lt_or_ge j l.length with h' | h'
  · exact h j h'
  · rw [List.getElem?_eq_none h', List.getElem?_eq_none (by omega)]
theorem ne_at {l m : List Rg} {k : Nat} {r s : Rg} (h1 : l[k]? = some r) (h2 : m[k]? = some s) (hne : r ≠ s) : decide (l = m) = false := by
  simp
  rintro rfl
  rw [h1] at h2
  exact hne (by simpa using h2)
theorem rg_ne {x y x' y' : Int} (h : ¬ (x = x' ∧ y = y')) : ((x, y) : Rg) ≠ (x', y') := by
  intro e
  exact h (by simpa using e)
theorem eqf_nat {a b : Nat} (h : a ≠ b) : ((a : Int) == (b : Int)) = false := by simp; omega
theorem net_nat {a b : Nat} (h : a ≠ b) : ((a : Int) != (b : Int)) = true := by simp; omega
theorem nef_nat {a b : Nat} (h : a = b) : ((a : Int) != (b : Int)) = false := by simp [h]
set_option maxRecDepth 100000 in
set_option maxHeartbeats 1000000 in
theorem law_ranges_run (A B : Option Addr) (l m : List Rg) (c d : Nat) (w : World) (hl : l.length ≤ 9223372036854775807) (hm : m.length ≤ 9223372036854775807) (hx : RngsR w 0 w.heap.size (.slice A l.length c) l) (hy : RngsR w 0 w.heap.size (.slice B m.length d) m) :
    Calls Try.prog 17 #[.slice A l.length c, .slice B m.length d] w (RetQ (.bool (decide (l = m))) w) := by
  have HX := hid hx; clear hx
  have HY := hid hy; clear hy
  by_cases hlen : l.length = m.length
  · have hz := nef_nat hlen
    have HL := hid hlen; clear hlen
    go_enter Try.func17, Try.ntmps17
    go_wp2_with fail
    go_loopw [13] (fun vi wr => ∃ k q : Nat, k ≤ l.length ∧ vi = .int .i64 k ∧ Hid (∀ j, j < k → l[j]? = m[j]?) ∧ wr = w.drewN q) (fun vi wr => (l.length - (intOf vi).toNat))
    case atStart => exact ⟨0, 0, by omega, rfl, hid (fun j hj => by omega), rfl⟩
    case round =>
      obtain ⟨k, q, hk, rfl, hall, rfl⟩ := hrel
      by_cases hlt : k < l.length
      · have hlt' : k < m.length := by have := HL.out; omega
        obtain ⟨x, y, hxy⟩ := at_rg hlt
        obtain ⟨x', y', hxy'⟩ := at_rg hlt'
        obtain ⟨a, rfl, _, hab, hc⟩ := HX.out.get hlt
        obtain ⟨b, rfl, _, hbb, hd⟩ := HY.out.get hlt'
        obtain ⟨g1, g2⟩ := hc _ _ _ hxy
        obtain ⟨g3, g4⟩ := hd _ _ _ hxy'
        clear hc hd
        have Hxy := hid hxy; clear hxy
        have Hxy' := hid hxy'; clear hxy'
        by_cases he : x = x' ∧ y = y'
        · obtain ⟨rfl, rfl⟩ := he
          go_wp2_with fail
          go_quiet (fail)
          go_wp2_with fail
          go_roundw
          case rel => exact ⟨k + 1, _, by omega, by go_num, hid (eq_more hall.out Hxy.out Hxy'.out), rfl⟩
          case measure => simp [intOf]; omega
        · have HE := hid he
          rcases (show x ≠ x' ∨ y ≠ y' by omega) with hn | hn
          all_goals
            have hn' := eqf hn
            clear he hn
            go_wp2_with fail
            go_quiet (fail)
            go_wp2_with fail
            go_ret
            exact ⟨retb_eq (ne_at Hxy.out Hxy'.out (rg_ne HE.out)).symm, _, World.drewN_drewN _ _ _⟩
      · go_wp2_with fail
        go_ret
        exact ⟨retb_eq (by rw [decide_eq_true (eq_all HL.out (fun j hj => hall.out j (by omega)))]), _, rfl⟩
  · have hz := net_nat hlen
    have e : decide (l = m) = false := by simp; rintro rfl; exact hlen rfl
    rw [e]
    clear e hlen
    go_enter Try.func17, Try.ntmps17
    go_wp2_with fail
    go_ret
    exact ⟨rfl, 0, rfl⟩

theorem law_ranges (u v : Value) (l m : List Rg) (w : World) (hx : RngsR w 0 w.heap.size u l) (hy : RngsR w 0 w.heap.size v m) : Calls Try.prog 17 #[u, v] w (RetQ (.bool (decide (l = m))) w) := by
  obtain ⟨A, c, rfl, h1, h2, _⟩ := hx.open_
  obtain ⟨B, d, rfl, h3, h4, _⟩ := hy.open_
  exact law_ranges_run A B l m c d w (by omega) (by omega) hx hy

set_option maxRecDepth 100000 in
set_option maxHeartbeats 1000000 in
theorem slices_equal_run (A B : Option Addr) (l m : List Rg) (c d : Nat) (w : World) (hl : l.length ≤ 9223372036854775807) (hm : m.length ≤ 9223372036854775807) (hx : RngsR w 0 w.heap.size (.slice A l.length c) l) (hy : RngsR w 0 w.heap.size (.slice B m.length d) m) :
    Calls Try.prog 63 #[.slice A l.length c, .slice B m.length d] w (RetQ (.bool (decide (l = m))) w) := by
  have HX := hid hx; clear hx
  have HY := hid hy; clear hy
  by_cases hlen : l.length = m.length
  · have hz := nef_nat hlen
    have HL := hid hlen; clear hlen
    go_enter Try.func63, Try.ntmps63
    go_wp2_with fail
    go_loopw [13] (fun vi wr => ∃ k q : Nat, k ≤ l.length ∧ vi = .int .i64 k ∧ Hid (∀ j, j < k → l[j]? = m[j]?) ∧ wr = w.drewN q) (fun vi wr => (l.length - (intOf vi).toNat))
    case atStart => exact ⟨0, 0, by omega, rfl, hid (fun j hj => by omega), rfl⟩
    case round =>
      obtain ⟨k, q, hk, rfl, hall, rfl⟩ := hrel
      by_cases hlt : k < l.length
      · have hlt' : k < m.length := by have := HL.out; omega
        obtain ⟨x, y, hxy⟩ := at_rg hlt
        obtain ⟨x', y', hxy'⟩ := at_rg hlt'
        obtain ⟨a, rfl, _, hab, hc⟩ := HX.out.get hlt
        obtain ⟨b, rfl, _, hbb, hd⟩ := HY.out.get hlt'
        obtain ⟨g1, g2⟩ := hc _ _ _ hxy
        obtain ⟨g3, g4⟩ := hd _ _ _ hxy'
        clear hc hd
        have Hxy := hid hxy; clear hxy
        have Hxy' := hid hxy'; clear hxy'
        by_cases he : x = x' ∧ y = y'
        · obtain ⟨rfl, rfl⟩ := he
          go_wp2_with fail
          go_quiet (fail)
          go_wp2_with fail
          go_roundw
          case rel => exact ⟨k + 1, _, by omega, by go_num, hid (eq_more hall.out Hxy.out Hxy'.out), rfl⟩
          case measure => simp [intOf]; omega
        · have HE := hid he
          rcases (show x ≠ x' ∨ y ≠ y' by omega) with hn | hn
          all_goals
            have hn' := eqf hn
            clear he hn
            go_wp2_with fail
            go_quiet (fail)
            go_wp2_with fail
            go_ret
            exact ⟨retb_eq (ne_at Hxy.out Hxy'.out (rg_ne HE.out)).symm, _, World.drewN_drewN _ _ _⟩
      · go_wp2_with fail
        go_ret
        exact ⟨retb_eq (by rw [decide_eq_true (eq_all HL.out (fun j hj => hall.out j (by omega)))]), _, rfl⟩
  · have hz := net_nat hlen
    have e : decide (l = m) = false := by simp; rintro rfl; exact hlen rfl
    rw [e]
    clear e hlen
    go_enter Try.func63, Try.ntmps63
    go_wp2_with fail
    go_ret
    exact ⟨rfl, 0, rfl⟩

theorem slices_equal (u v : Value) (l m : List Rg) (w : World) (hx : RngsR w 0 w.heap.size u l) (hy : RngsR w 0 w.heap.size v m) : Calls Try.prog 63 #[u, v] w (RetQ (.bool (decide (l = m))) w) := by
  obtain ⟨A, c, rfl, h1, h2, _⟩ := hx.open_
  obtain ⟨B, d, rfl, h3, h4, _⟩ := hy.open_
  exact slices_equal_run A B l m c d w (by omega) (by omega) hx hy

set_option maxRecDepth 100000 in
set_option maxHeartbeats 1000000 in
theorem clone_rngs (u : Value) (l : List Rg) (w : World) (hl : l.length ≤ 2000000) (hx : RngsR w 0 w.heap.size u l) :
    Calls Try.prog 64 #[u] w (RetP (fun v w' => w'.ownsRow w.heap.size 36 2 v l.length (rcells l)) w) := by
  obtain ⟨A, c, rfl, h1, h2, _⟩ := hx.open_
  obtain ⟨i0, hi0, hz0, hz1, hz2⟩ := info_parts rng_info
  rcases A with _ | ad
  · obtain ⟨rfl, rfl⟩ := hx.nilcap
    have hq := fun w => Lib.run_eql_slice_nil_nil (P := Try.prog) w 0 0 Try.underlying22
    clear hx
    go_enter Try.func64, Try.ntmps64
    go_wp2_with fail
    go_ret
    exact ⟨_, rfl, Below.refl _ _, World.ownsRow_nil _ _ _ _⟩
  · have hq := fun w => Lib.run_eql_slice_nil (P := Try.prog) w 22 36 (some ad) l.length c 0 0 Try.underlying22
    obtain ⟨A', c', e1, _, _, e4, e5⟩ := hx
    injection e1 with e1 e2 e3
    subst e1 e3
    have hnews : ∀ (j : Nat) (u : Value), (rcells l)[j]? = some u → (w.alloc (.cells #[] 36)).cell? (ad.add j) = some u := by
      intro j u hu
      have hj := rcells_get hu
      obtain ⟨a, h6, h7, h8, h9⟩ := e5 (by omega)
      injection h6 with h6
      subst h6
      have := ((Below.refl w.heap.size w).alloc (Nat.le_refl _) (.cells #[] 36)).cell (p := ad.add j) (by rw [block_add]; exact h8)
      rw [this]
      exact h9 j u hu
    have HN := hid hnews
    clear hnews e5 e4
    go_enter Try.func64, Try.ntmps64
    go_wp2_with (at_builtin; refine wpList_append_own _ rfl (.tmp 5) (.tmp 6) 22 rfl w.heap.size 36 i0 _ 2 16 Try.underlying22 hi0 hz0 hz1 hz2 rfl (by omega) (.slice (some ⟨w.heap.size, 0, none⟩) 0 0) 0 [] rfl (by exact World.ownsRow_made w #[] 0 (Nat.le_refl _) (by decide) rfl) ad l.length c (rcells l) rfl (rcells_length l) HN.out (rcells_one l) (by unfold maxLen; omega) (by omega) (by simp) ?_; intro v1 w1 own1 hg1 _)
    go_ret
    refine ⟨_, rfl, ((Below.refl _ _).alloc (Nat.le_refl _) _).grown hg1 (by simp) (fun k hk => by simp [Value.ownBlock] at hk; omega), ?_⟩
    simpa using own1
end Go.Proofs.Ytjdlfmcnjpiaoaa.Old
/- The walks of the package set, continued: Without, Same. -/
namespace Go.Proofs.Ytjdlfmcnjpiaoaa.Old
open Go.RowKit
set_option linter.unusedVariables false


def withoutS (v : Int) (l : List Rg) : List Rg := if hasB l v = true then cutS (-1048576) (v - 1) l ++ cutS (v + 1) 1048576 l else if rightB l = true then l else []
theorem cutGo_length (lo hi : Int) : ∀ l : List Rg, (cutGo lo hi l).length ≤ l.length
  | [] => by simp [cutGo]
  | r :: l => by
    have := cutGo_length lo hi l
    unfold cutGo
    split
    · simp
    · split <;> simp <;> omega
theorem cutS_length (lo hi : Int) (l : List Rg) : (cutS lo hi l).length ≤ l.length := by
  unfold cutS
  split
  · have := cutGo_length lo hi (l.drop (fromN lo l))
    rw [List.length_drop] at this
    omega
  · simp
theorem next_right {l : List Rg} {v : Int} (h : nextB l v = true) : rightB l = true := by unfold nextB at h; simp at h; exact h.1
theorem has_within {l : List Rg} {v : Int} (h : hasB l v = true) : -1048576 ≤ v ∧ v ≤ 1048576 := by
  unfold hasB at h
  simp at h
  obtain ⟨h1, h2⟩ := h
  have hr := next_right h1
  unfold nextB at h1
  simp [hr] at h1
  obtain ⟨x, y, hxy⟩ := at_rg h1
  have h3 := right_rg hr hxy
  have h4 := fromN_at hxy
  unfold nextV at h2
  rw [if_pos hr, hxy] at h2
  simp at h2
  omega
theorem own_base {w : World} {b b' e size n : Nat} {v : Value} {xs : List Value} (h : w.ownsRow b e size v n xs) (hb : b' ≤ b) : w.ownsRow b' e size v n xs := by
  obtain ⟨h1, h2⟩ := h
  refine ⟨h1, ?_⟩
  rcases h2 with h2 | ⟨g, cap, cur, hv, hg, r⟩
  · exact .inl h2
  · exact .inr ⟨g, cap, cur, hv, by omega, r⟩
set_option maxRecDepth 100000 in
set_option maxHeartbeats 1000000 in
theorem set_without (u : Value) (l : List Rg) (v : Int) (w : World) (hl : l.length ≤ 1000000) (hx : RngsR w 0 w.heap.size u l) :
    Calls Try.prog 31 #[u, .int .i64 v] w (RetP (fun r w' => w'.ownsRow w.heap.size 36 2 r (withoutS v l).length (rcells (withoutS v l))) w) := by
  have C := hid (set_has u l v w hx)
  have HX := hid hx; clear hx
  cases hh : hasB l v
  · rw [hh] at C
    cases hr : rightB l
    · have e : withoutS v l = [] := by unfold withoutS; rw [hh, hr]; rfl
      rw [e]
      clear e
      go_enter Try.func31, Try.ntmps31
      go_wp2_with fail
      refine (C.out).mono ?_
      rintro e w1 ⟨rfl, b1⟩
      have B1 := hid b1; clear b1
      go_wp2_with fail
      refine (set_right u l _ (by exact (HX.out.below B1.out).mono (Nat.le_refl _) B1.out.size)).mono ?_
      rintro e w2 ⟨rfl, b2⟩
      go_wp2_with fail
      go_ret
      exact ⟨_, rfl, B1.out.trans (b2.mono B1.out.size), World.ownsRow_nil _ _ _ _⟩
    · have e : withoutS v l = l := by unfold withoutS; rw [hh, hr]; rfl
      rw [e]
      clear e
      go_enter Try.func31, Try.ntmps31
      go_wp2_with fail
      refine (C.out).mono ?_
      rintro e w1 ⟨rfl, b1⟩
      have B1 := hid b1; clear b1
      go_wp2_with fail
      refine (set_right u l _ (by exact (HX.out.below B1.out).mono (Nat.le_refl _) B1.out.size)).mono ?_
      rintro e w2 ⟨rfl, b2⟩
      have B2 := hid (B1.out.trans (b2.mono B1.out.size)); clear b2
      go_wp2_with fail
      refine (clone_rngs u l _ (by omega) (by exact (HX.out.below B2.out).mono (Nat.le_refl _) B2.out.size)).mono ?_
      rintro e w3 ⟨r, rfl, b3, own3⟩
      have B3 := hid (B2.out.trans (b3.mono B2.out.size)); clear b3
      have Own3 := hid own3; clear own3
      go_wp2_with fail
      go_ret
      exact ⟨_, rfl, B3.out, own_base Own3.out B2.out.size⟩
  · rw [hh] at C
    obtain ⟨hv1, hv2⟩ := has_within hh
    have e : withoutS v l = cutS (-1048576) (v - 1) l ++ cutS (v + 1) 1048576 l := by unfold withoutS; rw [hh]; rfl
    rw [e]
    clear e
    have hl1 := cutS_length (-1048576) (v - 1) l
    have hl2 := cutS_length (v + 1) 1048576 l
    obtain ⟨p, hp⟩ : ∃ p, p = cutS (-1048576) (v - 1) l := ⟨_, rfl⟩
    obtain ⟨q, hq⟩ : ∃ q, q = cutS (v + 1) 1048576 l := ⟨_, rfl⟩
    rw [← hp, ← hq]
    rw [← hp] at hl1
    rw [← hq] at hl2
    have C1 := fun w1 (b1 : Below w.heap.size w w1) => set_cut u l (-1048576) (v - 1) w1 ((HX.out.below b1).mono (Nat.le_refl _) b1.size)
    have C2 := fun w1 (b1 : Below w.heap.size w w1) => set_cut u l (v + 1) 1048576 w1 ((HX.out.below b1).mono (Nat.le_refl _) b1.size)
    rw [← hp] at C1
    rw [← hq] at C2
    have C1 := hid C1
    have C2 := hid C2
    clear hp hq
    obtain ⟨i0, hi0, hz0, hz1, hz2⟩ := info_parts rng_info
    have HH := hid hh; clear hh
    go_enter Try.func31, Try.ntmps31
    go_wp2_with fail
    refine (C.out).mono ?_
    rintro e w1 ⟨rfl, b1⟩
    have B1 := hid b1; clear b1
    go_wp2_with fail
    refine (C1.out w1 B1.out).mono ?_
    rintro e w2 ⟨r1, rfl, b2, own2⟩
    have B2 := hid (B1.out.trans (b2.mono B1.out.size)); clear b2
    have Own2 := hid (own_base own2 B1.out.size); clear own2
    go_wp2_with fail
    refine (C2.out w2 B2.out).mono ?_
    rintro e w3 ⟨r2, rfl, b3, own3⟩
    have Own2 := hid (own_below Own2.out b3)
    have B3 := hid (B2.out.trans (b3.mono B2.out.size)); clear b3
    have hs3 := B3.out.size
    have Own3 := hid own3
    rcases own3.2 with ⟨rfl, hn⟩ | ⟨g, cap, cur, rfl, hg, hgg, hnc, hm, _, _⟩
    · have e : q = [] := List.eq_nil_of_length_eq_zero hn
      subst e
      clear hn own3
      go_wp2_with (at_builtin; go_must (refine wpList_append_own_none rfl (.tmp 17) (.tmp 21) 22 rfl w.heap.size 36 i0 2 Try.underlying22 hi0 r1 p.length (rcells p) rfl Own2.out rfl ?_))
      go_ret
      rw [List.append_nil]
      exact ⟨_, rfl, B3.out, Own2.out⟩
    · have HC := hid (own3.cells (g := g) rfl); clear own3 hgg
      go_wp2_with (at_builtin; refine wpList_append_own _ rfl (.tmp 17) (.tmp 21) 22 rfl w.heap.size 36 i0 _ 2 16 Try.underlying22 hi0 hz0 hz1 hz2 rfl (by omega) r1 p.length (rcells p) rfl Own2.out ⟨g, 0, none⟩ q.length cap (rcells q) rfl (rcells_length q) HC.out (rcells_one q) (by unfold maxLen; omega) (by omega) hs3 ?_; intro v1 w4 own4 hg4 _)
      go_ret
      refine ⟨_, rfl, B3.out.grown hg4 hs3 (fun k hk => (Own2.out.lt k hk).1), ?_⟩
      rw [rcells_append, List.length_append]
      exact own4

set_option maxRecDepth 100000 in
set_option maxHeartbeats 1000000 in
theorem set_same (u v : Value) (l m : List Rg) (w : World) (hx : RngsR w 0 w.heap.size u l) (hy : RngsR w 0 w.heap.size v m) :
    Calls Try.prog 29 #[u, v] w (RetB (.bool (rightB l && decide (l = m))) w) := by
  have C := hid (set_right u l w hx)
  have HX := hid hx; clear hx
  have HY := hid hy; clear hy
  cases hr : rightB l
  · rw [hr] at C
    go_enter Try.func29, Try.ntmps29
    go_wp2_with fail
    refine (C.out).mono ?_
    rintro e w1 ⟨rfl, b1⟩
    go_wp2_with fail
    go_ret
    exact ⟨rfl, b1⟩
  · rw [hr] at C
    go_enter Try.func29, Try.ntmps29
    go_wp2_with fail
    refine (C.out).mono ?_
    rintro e w1 ⟨rfl, b1⟩
    have B1 := hid b1; clear b1
    go_wp2_with fail
    refine (slices_equal u v l m _ (by exact (HX.out.below B1.out).mono (Nat.le_refl _) B1.out.size) (by exact (HY.out.below B1.out).mono (Nat.le_refl _) B1.out.size)).mono ?_
    rintro e w2 ⟨rfl, n2, rfl⟩
    go_wp2_with fail
    go_ret
    exact ⟨rfl, below_drewN B1.out _⟩

end Go.Proofs.Ytjdlfmcnjpiaoaa.Old
/- The walk of set.Meet. -/
namespace Go.Proofs.Ytjdlfmcnjpiaoaa.Old
open Go.RowKit
set_option linter.unusedVariables false


def meetGo : Nat → List Rg → List Rg → List Rg
  | 0, _, _ => []
  | _ + 1, [], _ => []
  | _ + 1, _ :: _, [] => []
  | f + 1, x :: a', y :: b' =>
      (if max x.1 y.1 ≤ min x.2 y.2 then [(max x.1 y.1, min x.2 y.2)] else []) ++ (if x.2 < y.2 then meetGo f a' (y :: b') else meetGo f (x :: a') b')
def meetS (a b : List Rg) : List Rg := if (rightB a && rightB b) = true then meetGo (a.length + b.length) a b else []
theorem meetGo_nil1 (f : Nat) (b : List Rg) : meetGo f [] b = [] := by cases f <;> rfl
theorem meetGo_nil2 (f : Nat) (a : List Rg) : meetGo f a [] = [] := by cases f <;> cases a <;> rfl
def lenV : Value → Nat
  | .slice _ n _ => n
  | _ => 0
theorem meet_step {x y x' y' p q : Int} {a b : List Rg} (hp : p = max x x') (hq : q = min y y') :
    meetGo (((x, y) :: a).length + ((x', y') :: b).length) ((x, y) :: a) ((x', y') :: b) =
      (if p ≤ q then [(p, q)] else []) ++ (if y < y' then meetGo (a.length + ((x', y') :: b).length) a ((x', y') :: b) else meetGo (((x, y) :: a).length + b.length) ((x, y) :: a) b) := by
  subst hp hq
  rw [show ((x, y) :: a).length + ((x', y') :: b).length = (a.length + b.length + 1) + 1 by simp; omega, meetGo]
  rw [show a.length + ((x', y') :: b).length = a.length + b.length + 1 by simp; omega, show ((x, y) :: a).length + b.length = a.length + b.length + 1 by simp; omega]
theorem end_of {w : World} {lo hi n c : Nat} {a : Addr} {x y : Int} {l : List Rg} (h : RngsR w lo hi (.slice (some a) n c) ((x, y) :: l)) :
    w.cell? a = some (.int .i64 x) ∧ w.cell? { block := a.block, off := a.off + 1 } = some (.int .i64 y) := by
  obtain ⟨a', e, _, _, hc⟩ := h.get (k := 0) (by simp)
  injection e with e
  subst e
  exact hc 0 x y rfl
theorem rg_zero {l : List Rg} (h : ¬ 0 < l.length) : l = [] := List.eq_nil_of_length_eq_zero (by omega)
theorem meet_a {acc R u v : List Rg} {y y' : Int} (h : acc ++ (if y < y' then u else v) = R) (q : y < y') : acc ++ u = R := by rw [if_pos q] at h; exact h
theorem meet_b {acc R u v : List Rg} {y y' : Int} (h : acc ++ (if y < y' then u else v) = R) (q : ¬ y < y') : acc ++ v = R := by rw [if_neg q] at h; exact h
theorem own_drewN {w : World} {b e size n : Nat} {v : Value} {xs : List Value} (h : w.ownsRow b e size v n xs) (k : Nat) : (w.drewN k).ownsRow b e size v n xs := h
theorem rg_cons {l : List Rg} (h : 0 < l.length) : ∃ x y l', l = (x, y) :: l' := by cases l with | nil => simp at h | cons r l' => exact ⟨r.1, r.2, l', rfl⟩
set_option maxRecDepth 100000 in
set_option maxHeartbeats 1000000 in
theorem set_meet (u v : Value) (a b : List Rg) (w : World) (htl : a.length + b.length ≤ 2000000) (hx : RngsR w 0 w.heap.size u a) (hy : RngsR w 0 w.heap.size v b) :
    Calls Try.prog 28 #[u, v] w (RetP (fun r w' => w'.ownsRow w.heap.size 36 2 r (meetS a b).length (rcells (meetS a b))) w) := by
  obtain ⟨A, ca, rfl, a1, a2, _⟩ := hx.open_
  obtain ⟨B, cb, rfl, b1, b2, _⟩ := hy.open_
  have HX := hid hx; clear hx
  have HY := hid hy; clear hy
  have hz2 := World.ownsRow_nil w w.heap.size 36 2
  cases ha : rightB a
  · have e : meetS a b = [] := by unfold meetS; rw [ha]; rfl
    rw [e]
    clear e
    have C := hid (set_right _ a w HX.out)
    rw [ha] at C
    go_enter Try.func28, Try.ntmps28
    go_wp2_with fail
    refine (C.out).mono ?_
    rintro e w1 ⟨rfl, b1⟩
    go_wp2_with fail
    go_ret
    exact ⟨_, rfl, b1, World.ownsRow_nil _ _ _ _⟩
  · have C := hid (set_right _ a w HX.out)
    rw [ha] at C
    have D := fun w1 (b1 : Below w.heap.size w w1) => set_right _ b w1 ((HY.out.below b1).mono (Nat.le_refl _) b1.size)
    cases hb : rightB b
    · rw [hb] at D
      have D := hid D
      have e : meetS a b = [] := by unfold meetS; rw [ha, hb]; rfl
      rw [e]
      clear e
      go_enter Try.func28, Try.ntmps28
      go_wp2_with fail
      refine (C.out).mono ?_
      rintro e w1 ⟨rfl, b1⟩
      have B1 := hid b1; clear b1
      go_wp2_with fail
      refine (D.out w1 B1.out).mono ?_
      rintro e w2 ⟨rfl, b2⟩
      go_wp2_with fail
      go_ret
      exact ⟨_, rfl, B1.out.trans (b2.mono B1.out.size), World.ownsRow_nil _ _ _ _⟩
    · rw [hb] at D
      have D := hid D
      have hla := right_length ha
      have hlb := right_length hb
      obtain ⟨R, hR⟩ : ∃ R, R = meetS a b := ⟨_, rfl⟩
      rw [← hR]
      have e0 : [] ++ meetGo (a.length + b.length) a b = R := by rw [hR]; unfold meetS; rw [ha, hb]; rfl
      have E0 := hid e0; clear e0 hR
      go_enter Try.func28, Try.ntmps28
      go_wp2_with fail
      refine (C.out).mono ?_
      rintro e w1 ⟨rfl, b1⟩
      have B1 := hid b1; clear b1
      go_wp2_with fail
      refine (D.out w1 B1.out).mono ?_
      rintro e w2 ⟨rfl, b2⟩
      have B2 := hid (B1.out.trans (b2.mono B1.out.size)); clear b2
      go_wp2_with fail
      go_loopw [0, 1, 5] (fun va vb vo wr => ∃ la lb acc : List Rg, Hid (RngsR w 0 w.heap.size va la) ∧ Hid (RngsR w 0 w.heap.size vb lb) ∧ Hid (wr.ownsRow w.heap.size 36 2 vo acc.length (rcells acc)) ∧ Hid (acc ++ meetGo (la.length + lb.length) la lb = R) ∧ Hid (Below w.heap.size w wr) ∧ acc.length + la.length + lb.length ≤ 2000000) (fun va vb vo wr => lenV va + lenV vb)
      case atStart => exact ⟨a, b, [], HX, HY, World.ownsRow_nil _ _ _ _, E0, B2, by simp; omega⟩
      case round =>
        obtain ⟨la, lb, acc, HA, HB, hown, hs, hB, htot⟩ := hrel
        have hz := hB.out.size
        obtain ⟨A', ca', rfl, c1, c2, _⟩ := HA.out.open_
        obtain ⟨B', cb', rfl, c3, c4, _⟩ := HB.out.open_
        by_cases hpa : 0 < la.length
        · by_cases hpb : 0 < lb.length
          · obtain ⟨x, y, la', rfl⟩ := rg_cons hpa
            obtain ⟨x', y', lb', rfl⟩ := rg_cons hpb
            obtain ⟨ada, rfl, _, hab, hc⟩ := (HA.out.below hB.out).get hpa
            obtain ⟨adb, rfl, _, hbb, hd⟩ := (HB.out.below hB.out).get hpb
            obtain ⟨g1, g2⟩ := hc 0 x y rfl
            obtain ⟨g3, g4⟩ := hd 0 x' y' rfl
            clear hc hd
            obtain ⟨p, hp⟩ : ∃ p, p = max x x' := ⟨_, rfl⟩
            obtain ⟨q, hq⟩ : ∃ q, q = min y y' := ⟨_, rfl⟩
            have hs := hs.out
            rw [meet_step hp hq] at hs
            have hp' : (if x < x' then x' else x) = p := by rw [hp]; split <;> omega
            have hq' : (if y' < y then y' else y) = q := by rw [hq]; split <;> omega
            clear hp hq
            have g1 : wr.cell? ada = some (.int .i64 x) := g1
            have g2 : wr.cell? { block := ada.block, off := ada.off + 1 } = some (.int .i64 y) := g2
            have g3 : wr.cell? adb = some (.int .i64 x') := g3
            have g4 : wr.cell? { block := adb.block, off := adb.off + 1 } = some (.int .i64 y') := g4
            have n1 : ada.block < wr.heap.size := by omega
            have n3 : adb.block < wr.heap.size := by omega
            obtain ⟨A2, hA2⟩ : ∃ A2, A2 = (if ca' = 1 then some ada else (some ada).map (·.add (1 * 2))) := ⟨_, rfl⟩
            have sA : ∀ w, (Instr.slice 22 (.slice (some ada) (la'.length + 1) ca') (some (.int .i64 1)) none none).run Try.prog w = .ok (.slice A2 la'.length (ca' - 1)) w := fun w => by have := run_tail (P := Try.prog) 22 36 Try.underlying22 rng_info (some ada) (la'.length + 1) ca' 1 (by omega) w; rw [← hA2] at this; exact this
            have HA1 : Hid (RngsR w 0 w.heap.size (.slice A2 la'.length (ca' - 1)) la') := by have := HA.out.tail 1 (by simp); rw [← hA2] at this; exact hid (by simpa using this)
            clear hA2
            obtain ⟨B2, hB2⟩ : ∃ B2, B2 = (if cb' = 1 then some adb else (some adb).map (·.add (1 * 2))) := ⟨_, rfl⟩
            have sB : ∀ w, (Instr.slice 22 (.slice (some adb) (lb'.length + 1) cb') (some (.int .i64 1)) none none).run Try.prog w = .ok (.slice B2 lb'.length (cb' - 1)) w := fun w => by have := run_tail (P := Try.prog) 22 36 Try.underlying22 rng_info (some adb) (lb'.length + 1) cb' 1 (by omega) w; rw [← hB2] at this; exact this
            have HB1 : Hid (RngsR w 0 w.heap.size (.slice B2 lb'.length (cb' - 1)) lb') := by have := HB.out.tail 1 (by simp); rw [← hB2] at this; exact hid (by simpa using this)
            clear hB2
            clear HX HY E0
            by_cases q1 : p ≤ q
            · rw [if_pos q1, ← List.append_assoc] at hs
              have hs := hid hs
              go_wp2_with fail
              go_region
              go_wp2_with (at_builtin; refine wpList_app_rng _ rfl (.tmp 47) (.tmp 49) 22 36 rfl Try.underlying22 rng_info w.heap.size _ acc rfl (by exact ((hown.out.alloc _).alloc _).drew) (wr.heap.size + 1) p q rfl (by exact (Blk.at_ _ _ _ (by simp)).drew) (by omega) (by simp; omega) ?_; intro v1 w3 own1 bw1)
              have B3 := hid ((((hB.out.alloc hz _).alloc (by simp; omega) _).drew).trans bw1)
              have hs3 := B3.out.size
              obtain ⟨k1, k2⟩ := end_of (HA.out.below B3.out)
              obtain ⟨k3, k4⟩ := end_of (HB.out.below B3.out)
              by_cases q2 : y < y'
              · have hs := hid (meet_a hs.out q2)
                go_quiet (fail)
                go_wp2_with fail
                go_roundw
                case rel => exact ⟨la', (x', y') :: lb', acc ++ [(p, q)], HA1, HB, hid (own_drewN (own1) _), hs, hid (below_drewN B3.out _), by simp at htot ⊢; omega⟩
                case measure => simp [lenV]
              · have hs := hid (meet_b hs.out q2)
                go_quiet (fail)
                go_wp2_with fail
                go_roundw
                case rel => exact ⟨(x, y) :: la', lb', acc ++ [(p, q)], HA, HB1, hid (own_drewN (own1) _), hs, hid (below_drewN B3.out _), by simp at htot ⊢; omega⟩
                case measure => simp [lenV]
            · rw [if_neg q1, List.nil_append] at hs
              have hs := hid hs
              go_wp2_with fail
              go_region
              go_wp2_with fail
              have B3 := hid (hB.out.alloc hz (.cells #[.int .i64 p, .int .i64 q] 36))
              have hs3 := B3.out.size
              obtain ⟨k1, k2⟩ := end_of (HA.out.below B3.out)
              obtain ⟨k3, k4⟩ := end_of (HB.out.below B3.out)
              by_cases q2 : y < y'
              · have hs := hid (meet_a hs.out q2)
                go_quiet (fail)
                go_wp2_with fail
                go_roundw
                case rel => exact ⟨la', (x', y') :: lb', acc, HA1, HB, hid (own_drewN (hown.out.alloc _) _), hs, hid (below_drewN B3.out _), by simp at htot ⊢; omega⟩
                case measure => simp [lenV]
              · have hs := hid (meet_b hs.out q2)
                go_quiet (fail)
                go_wp2_with fail
                go_roundw
                case rel => exact ⟨(x, y) :: la', lb', acc, HA, HB1, hid (own_drewN (hown.out.alloc _) _), hs, hid (below_drewN B3.out _), by simp at htot ⊢; omega⟩
                case measure => simp [lenV]
          · obtain rfl := rg_zero hpb
            go_wp2_with fail
            go_ret
            have hs := hs.out
            rw [meetGo_nil2, List.append_nil] at hs
            subst hs
            exact ⟨_, rfl, hB.out, hown.out⟩
        · obtain rfl := rg_zero hpa
          go_wp2_with fail
          go_ret
          have hs := hs.out
          rw [meetGo_nil1, List.append_nil] at hs
          subst hs
          exact ⟨_, rfl, hB.out, hown.out⟩

end Go.Proofs.Ytjdlfmcnjpiaoaa.Old
