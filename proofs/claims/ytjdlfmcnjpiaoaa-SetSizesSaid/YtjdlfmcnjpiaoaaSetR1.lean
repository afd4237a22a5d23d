/- The walks of the reference of chapter 9: Within, Right, Has, Next. -/
import Derived.Test.YtjdlfmcnjpiaoaaSetW2
namespace Go.Proofs.Ytjdlfmcnjpiaoaa
open Go.RowKit
set_option linter.unusedVariables false


/-- Only draws have been made. -/
def DQ (w w' : World) : Prop := ∃ n, w' = w.drewN n
theorem gap_eq (x y : Int) : decide (x - y < 2) = decide (x < y + 2) := by
  by_cases h : x - y < 2
  · rw [decide_eq_true h, decide_eq_true (by omega)]
  · rw [decide_eq_false h, decide_eq_false (by omega)]
def rhasB (l : List Rg) (v : Int) : Bool := l.any (fun r => decide (r.1 ≤ v) && decide (v ≤ r.2)) && rightB l
theorem rhas_yes {l : List Rg} {k : Nat} {x y v : Int} (h : l[k]? = some (x, y)) (h1 : x ≤ v) (h2 : v ≤ y) : rhasB l v = rightB l := by
  unfold rhasB
  have : l.any (fun r => decide (r.1 ≤ v) && decide (v ≤ r.2)) = true := List.any_eq_true.2 ⟨(x, y), mem_at h, by simp [h1, h2]⟩
  rw [this, Bool.true_and]
theorem rhas_no {l : List Rg} {v : Int} (h : ∀ (j : Nat) (x y : Int), l[j]? = some (x, y) → ¬ (x ≤ v ∧ v ≤ y)) : rhasB l v = false := by
  unfold rhasB
  have : l.any (fun r => decide (r.1 ≤ v) && decide (v ≤ r.2)) = false := by
    rw [List.any_eq_false]
    intro r hr
    obtain ⟨k, hk, rfl⟩ := List.getElem_of_mem hr
    have := h k _ _ (List.getElem?_eq_getElem hk)
    simpa using this
  rw [this, Bool.false_and]
theorem rhas_more {l : List Rg} {k : Nat} {x y v : Int} (h : ∀ (j : Nat) (x y : Int), j < k → l[j]? = some (x, y) → ¬ (x ≤ v ∧ v ≤ y)) (h1 : l[k]? = some (x, y)) (h2 : ¬ (x ≤ v ∧ v ≤ y)) :
    ∀ (j : Nat) (x y : Int), j < k + 1 → l[j]? = some (x, y) → ¬ (x ≤ v ∧ v ≤ y) := by
  intro j x' y' hj hx'
  rcases Nat.lt_or_ge j k with h' | h'
  · exact h j x' y' h' hx'
  · have e : j = k := by omega
    subst e
    rw [h1] at hx'
    simp at hx'
    obtain ⟨rfl, rfl⟩ := hx'
    exact h2
theorem next_more {l : List Rg} {k : Nat} {x y v : Int} (h : ∀ (j : Nat) (x y : Int), j < k → l[j]? = some (x, y) → y < v) (h1 : l[k]? = some (x, y)) (h2 : y < v) :
    ∀ (j : Nat) (x y : Int), j < k + 1 → l[j]? = some (x, y) → y < v := by
  intro j x' y' hj hx'
  rcases Nat.lt_or_ge j k with h' | h'
  · exact h j x' y' h' hx'
  · have e : j = k := by omega
    subst e
    rw [h1] at hx'
    simp at hx'
    obtain ⟨rfl, rfl⟩ := hx'
    exact h2
set_option maxHeartbeats 400000 in
theorem rset_within (n : Int) (w : World) :
    Calls Try.prog 60 #[.int .i64 n] w (RetQ (.bool (withinB n)) w) := by
  go_enter Try.func60, Try.ntmps60
  go_wp2
  all_goals go_ret
  all_goals exact ⟨retb_eq (by unfold withinB; simp; omega), 0, rfl⟩

set_option maxRecDepth 100000 in
set_option maxHeartbeats 1000000 in
theorem rset_right_q (u : Value) (l : List Rg) (w : World) (hx : RngsR w 0 w.heap.size u l) :
    Calls Try.prog 19 #[u] w (RetQ (.bool (rightB l)) w) := by
  obtain ⟨A, c, rfl, h1, h2, _⟩ := hx.open_
  have hl : l.length ≤ 9223372036854775807 := by omega
  have HX := hid hx; clear hx h1 h2
  go_enter Try.func19, Try.ntmps19
  go_wp2_with fail
  go_loopw [3] (fun vi wr => ∃ k : Nat, k ≤ l.length ∧ vi = .int .i64 k ∧ Hid (∀ j, j < k → okAt l j = true) ∧ DQ w wr) (fun vi wr => (l.length - (intOf vi).toNat))
  case atStart => exact ⟨0, by omega, rfl, hid (fun j hj => by omega), 0, rfl⟩
  case round =>
    obtain ⟨k, hk, rfl, hall, q, rfl⟩ := hrel
    by_cases hlt : k < l.length
    · obtain ⟨x, y, hxy⟩ := at_rg hlt
      obtain ⟨a, rfl, _, hab, hc⟩ := HX.out.get hlt
      obtain ⟨g1, g2⟩ := hc _ _ _ hxy
      have Hxy := hid hxy; clear hxy
      cases h1 : decide (y < x)
      · cases h2 : withinB x
        · clear hc
          go_wp2_with fail
          go_quiet ((go_at_call 60; first | exact quiet2 (rset_within _ _) | exact quiet1 (rset_within _ _)))
          go_wp2_with fail
          go_ret
          exact ⟨retb_eq (rightB_no hlt (ok_2 Hxy.out h1 h2)).symm, by first | exact ⟨_, rfl⟩ | exact ⟨_, World.drewN_drewN _ _ _⟩⟩
        · cases h3 : withinB y
          · clear hc
            go_wp2_with fail
            go_quiet ((go_at_call 60; first | exact quiet2 (rset_within _ _) | exact quiet1 (rset_within _ _)))
            go_wp2_with fail
            go_ret
            exact ⟨retb_eq (rightB_no hlt (ok_3 Hxy.out h1 h2 h3)).symm, by first | exact ⟨_, rfl⟩ | exact ⟨_, World.drewN_drewN _ _ _⟩⟩
          · obtain ⟨bx1, bx2⟩ := withinB_iff.1 h2
            by_cases h0 : k = 0
            · have h4 : decide (0 < k) = false := by simp; omega
              have H0 := hid h0; clear h0 hc
              go_wp2_with fail
              go_quiet ((go_at_call 60; first | exact quiet2 (rset_within _ _) | exact quiet1 (rset_within _ _)))
              go_wp2_with fail
              go_roundw
              case rel => exact ⟨k + 1, by omega, by go_num, hid (ok_more hall.out (ok_4 Hxy.out h1 h2 h3 H0.out)), by first | exact ⟨_, rfl⟩ | exact ⟨_, World.drewN_drewN _ _ _⟩⟩
              case measure => simp [intOf]; omega
            · have h4 : decide (0 < k) = true := by simp; omega
              obtain ⟨x', y', hxy'⟩ := at_rg (l := l) (k := k - 1) (by omega)
              obtain ⟨g3, g4⟩ := hc _ _ _ hxy'
              obtain ⟨by1, by2⟩ := withinB_iff.1 (ok_within (hall.out (k - 1) (by omega)) hxy')
              have Hxy' := hid hxy'; clear hxy'
              have e5 : (1 : Int) ≤ (k : Int) := by omega
              have H0 := hid h0; clear h0 hc g3
              have e6 : (k : Int) - 1 < (l.length : Int) := by omega
              have e7 : ((k : Int) - 1).toNat = k - 1 := by omega
              have e8 : IntKind.i64.wrap ((k : Int) - 1) = (k : Int) - 1 := IntWalk.i64_in _ (by omega)
              have e9 : IntKind.i64.wrap (y' + 2) = y' + 2 := IntWalk.i64_in _ (by omega)
              have h7 := gap_eq x y'
              cases h6 : decide (x < y' + 2)
              · rw [h6] at h7
                go_wp2_with fail
                go_quiet ((go_at_call 60; first | exact quiet2 (rset_within _ _) | exact quiet1 (rset_within _ _)))
                clear e5 e6 e7 e8 e9
                go_wp2_with fail
                go_roundw
                case rel => exact ⟨k + 1, by omega, by go_num, hid (ok_more hall.out (ok_5 Hxy.out h1 h2 h3 H0.out Hxy'.out h7)), by first | exact ⟨_, rfl⟩ | exact ⟨_, World.drewN_drewN _ _ _⟩⟩
                case measure => simp [intOf]; omega
              · rw [h6] at h7
                go_wp2_with fail
                go_quiet ((go_at_call 60; first | exact quiet2 (rset_within _ _) | exact quiet1 (rset_within _ _)))
                clear e5 e6 e7 e8 e9
                go_wp2_with fail
                go_ret
                exact ⟨retb_eq (rightB_no hlt (ok_5 Hxy.out h1 h2 h3 H0.out Hxy'.out h7)).symm, by first | exact ⟨_, rfl⟩ | exact ⟨_, World.drewN_drewN _ _ _⟩⟩
      · clear hc
        go_wp2_with fail
        go_quiet ((go_at_call 60; first | exact quiet2 (rset_within _ _) | exact quiet1 (rset_within _ _)))
        go_wp2_with fail
        go_ret
        exact ⟨retb_eq (rightB_no hlt (ok_1 Hxy.out h1)).symm, by first | exact ⟨_, rfl⟩ | exact ⟨_, World.drewN_drewN _ _ _⟩⟩
    · go_wp2_with fail
      go_ret
      exact ⟨retb_eq (rightB_yes (fun j hj => hall.out j (by omega))).symm, by first | exact ⟨_, rfl⟩ | exact ⟨_, World.drewN_drewN _ _ _⟩⟩

theorem retq_b {P : Program} {f : FuncId} {args : Array Value} {w : World} {v : Value} (h : Calls P f args w (RetQ v w)) : Calls P f args w (RetB v w) :=
  h.mono fun _ _ ⟨he, n, hn⟩ => ⟨he, hn ▸ below_q w n⟩
theorem rset_right (u : Value) (l : List Rg) (w : World) (hx : RngsR w 0 w.heap.size u l) : Calls Try.prog 19 #[u] w (RetB (.bool (rightB l)) w) := retq_b (rset_right_q u l w hx)
set_option maxRecDepth 100000 in
set_option maxHeartbeats 1000000 in
theorem rset_has (u : Value) (l : List Rg) (v : Int) (w : World) (hx : RngsR w 0 w.heap.size u l) :
    Calls Try.prog 26 #[u, .int .i64 v] w (RetQ (.bool (rhasB l v)) w) := by
  have C := fun q => rset_right_q u l (w.drewN q) (hx.below (below_q w q))
  obtain ⟨A, c, rfl, h1, h2, _⟩ := hx.open_
  have hl : l.length ≤ 9223372036854775807 := by omega
  have HX := hid hx; clear hx h1 h2
  have C := hid C
  go_enter Try.func26, Try.ntmps26
  go_wp2_with fail
  go_loopw [5] (fun vi wr => ∃ k : Nat, k ≤ l.length ∧ vi = .int .i64 k ∧ Hid (∀ j x y, j < k → l[j]? = some (x, y) → ¬ (x ≤ v ∧ v ≤ y)) ∧ DQ w wr) (fun vi wr => (l.length - (intOf vi).toNat))
  case atStart => exact ⟨0, by omega, rfl, hid (fun j x y hj => by omega), 0, rfl⟩
  case round =>
    obtain ⟨k, hk, rfl, hall, q, rfl⟩ := hrel
    by_cases hlt : k < l.length
    · obtain ⟨x, y, hxy⟩ := at_rg hlt
      obtain ⟨a, rfl, _, hab, hc⟩ := HX.out.get hlt
      obtain ⟨g1, g2⟩ := hc _ _ _ hxy
      have Hxy := hid hxy; clear hxy
      clear hc
      by_cases h1 : x ≤ v
      · by_cases h2 : v ≤ y
        · go_wp2_with fail
          refine (C.out _).mono ?_
          rintro e w' ⟨rfl, n1, rfl⟩
          go_wp2_with fail
          go_ret
          exact ⟨retb_eq (rhas_yes Hxy.out h1 h2).symm, by first | exact ⟨_, rfl⟩ | exact ⟨_, World.drewN_drewN _ _ _⟩⟩
        · go_wp2_with fail
          go_roundw
          case rel => exact ⟨k + 1, by omega, by go_num, hid (rhas_more hall.out Hxy.out (fun h => h2 h.2)), by first | exact ⟨_, rfl⟩ | exact ⟨_, World.drewN_drewN _ _ _⟩⟩
          case measure => simp [intOf]; omega
      · go_wp2_with fail
        go_roundw
        case rel => exact ⟨k + 1, by omega, by go_num, hid (rhas_more hall.out Hxy.out (fun h => h1 h.1)), by first | exact ⟨_, rfl⟩ | exact ⟨_, World.drewN_drewN _ _ _⟩⟩
        case measure => simp [intOf]; omega
    · go_wp2_with fail
      go_ret
      exact ⟨retb_eq (rhas_no (fun j x y hj => hall.out j x y (by have := (List.getElem?_eq_some_iff.1 hj).1; omega) hj)).symm, by first | exact ⟨_, rfl⟩ | exact ⟨_, World.drewN_drewN _ _ _⟩⟩

theorem next_hit {l : List Rg} {k : Nat} {x y v : Int} (hr : rightB l = true) (hk : k < l.length) (h1 : l[k]? = some (x, y)) (h : ∀ (j : Nat) (x y : Int), j < k → l[j]? = some (x, y) → y < v) (h2 : v ≤ y) : nextV l v = max v x ∧ nextB l v = true := by
  have e : fromN v l = k := fromN_eq (by omega) h (fun x' y' h' => by rw [h1] at h'; simp at h'; omega)
  unfold nextV nextB
  rw [hr, e, h1]
  exact ⟨rfl, by simpa using hk⟩
theorem next_miss {l : List Rg} {v : Int} (hr : rightB l = true) (h : ∀ (j : Nat) (x y : Int), j < l.length → l[j]? = some (x, y) → y < v) : nextV l v = 0 ∧ nextB l v = false := by
  have e : fromN v l = l.length := fromN_eq (Nat.le_refl _) h (fun x' y' h' => by simp at h')
  unfold nextV nextB
  rw [hr, e]
  exact ⟨by simp, by simp⟩
set_option maxRecDepth 100000 in
set_option maxHeartbeats 1000000 in
theorem rset_next (u : Value) (l : List Rg) (v : Int) (w : World) (hx : RngsR w 0 w.heap.size u l) :
    Calls Try.prog 25 #[u, .int .i64 v] w (RetQ (.tuple #[.int .i64 (nextV l v), .bool (nextB l v)]) w) := by
  have C := rset_right_q u l w hx
  obtain ⟨A, c, rfl, h1, h2, _⟩ := hx.open_
  have hl : l.length ≤ 9223372036854775807 := by omega
  have HX := hid hx; clear hx h1 h2
  cases hr : rightB l
  · have e1 : nextV l v = 0 := by unfold nextV; rw [hr]; rfl
    have e2 : nextB l v = false := by unfold nextB; rw [hr]; rfl
    rw [e1, e2]
    clear e1 e2
    rw [hr] at C
    have C := hid C
    go_enter Try.func25, Try.ntmps25
    go_wp2_with fail
    refine C.out.mono ?_
    rintro e w' ⟨rfl, n1, rfl⟩
    go_wp2_with fail
    go_ret2
    exact ⟨rfl, _, rfl⟩
  · rw [hr] at C
    have C := hid C
    have Hr := hid hr; clear hr
    go_enter Try.func25, Try.ntmps25
    go_wp2_with fail
    refine C.out.mono ?_
    rintro e w' ⟨rfl, n1, rfl⟩
    go_wp2_with fail
    go_loopw [6] (fun vi wr => ∃ k : Nat, k ≤ l.length ∧ vi = .int .i64 k ∧ Hid (∀ j x y, j < k → l[j]? = some (x, y) → y < v) ∧ DQ w wr) (fun vi wr => (l.length - (intOf vi).toNat))
    case atStart => exact ⟨0, by omega, rfl, hid (fun j x y hj => by omega), _, rfl⟩
    case round =>
      obtain ⟨k, hk, rfl, hall, q, rfl⟩ := hrel
      by_cases hlt : k < l.length
      · obtain ⟨x, y, hxy⟩ := at_rg hlt
        obtain ⟨a, rfl, _, hab, hc⟩ := HX.out.get hlt
        obtain ⟨g1, g2⟩ := hc _ _ _ hxy
        have Hxy := hid hxy; clear hxy
        clear hc
        by_cases h1 : v ≤ y
        · obtain ⟨p, hp⟩ : ∃ p, p = max v x := ⟨_, rfl⟩
          have hp' : (if v < x then x else v) = p := by rw [hp]; split <;> omega
          have HP := hid hp; clear hp
          go_wp2_with fail
          go_ret2
          refine ⟨?_, by first | exact ⟨_, rfl⟩ | exact ⟨_, World.drewN_drewN _ _ _⟩⟩
          rw [(next_hit Hr.out hlt Hxy.out hall.out h1).1, (next_hit Hr.out hlt Hxy.out hall.out h1).2, ← HP.out]
          exact rfl
        · go_wp2_with fail
          go_roundw
          case rel => exact ⟨k + 1, by omega, by go_num, hid (next_more hall.out Hxy.out (by omega)), by first | exact ⟨_, rfl⟩ | exact ⟨_, World.drewN_drewN _ _ _⟩⟩
          case measure => simp [intOf]; omega
      · go_wp2_with fail
        go_ret2
        refine ⟨?_, by first | exact ⟨_, rfl⟩ | exact ⟨_, World.drewN_drewN _ _ _⟩⟩
        rw [(next_miss Hr.out (fun j x y hj h => hall.out j x y (by omega) h)).1, (next_miss Hr.out (fun j x y hj h => hall.out j x y (by omega) h)).2]
        exact rfl

end Go.Proofs.Ytjdlfmcnjpiaoaa
