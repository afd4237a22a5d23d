/- The walks of the package set, continued: Without, Same. -/
import Derived.Test.YtjdlfmcnjpiaoaaSetW3
import Derived.Test.YtjdlfmcnjpiaoaaSetW4
import Derived.Laws.AppendOwnNone
namespace Go.Proofs.Ytjdlfmcnjpiaoaa
open Go.RowKit
set_option linter.unusedVariables false


def withoutS (v : Int) (l : List Rg) : List Rg := if hasB l v = true then cutS (-1048576) (v - 1) l ++ cutS (v + 1) 1048576 l else if rightB l = true then l else []
theorem cutGo_length (lo hi : Int) : ∀ l : List Rg, (cutGo lo hi l).length ≤ l.length
  | [] => by simp [cutGo]
  | r :: l => by
    have := cutGo_length lo hi l
    unfold cutGo
    split
    · simp
    · split <;> simp <;> omega
theorem cutS_length (lo hi : Int) (l : List Rg) : (cutS lo hi l).length ≤ l.length := by
  unfold cutS
  split
  · have := cutGo_length lo hi (l.drop (fromN lo l))
    rw [List.length_drop] at this
    omega
  · simp
theorem next_right {l : List Rg} {v : Int} (h : nextB l v = true) : rightB l = true := by unfold nextB at h; simp at h; exact h.1
theorem has_within {l : List Rg} {v : Int} (h : hasB l v = true) : -1048576 ≤ v ∧ v ≤ 1048576 := by
  unfold hasB at h
  simp at h
  obtain ⟨h1, h2⟩ := h
  have hr := next_right h1
  unfold nextB at h1
  simp [hr] at h1
  obtain ⟨x, y, hxy⟩ := at_rg h1
  have h3 := right_rg hr hxy
  have h4 := fromN_at hxy
  unfold nextV at h2
  rw [if_pos hr, hxy] at h2
  simp at h2
  omega
theorem own_base {w : World} {b b' e size n : Nat} {v : Value} {xs : List Value} (h : w.ownsRow b e size v n xs) (hb : b' ≤ b) : w.ownsRow b' e size v n xs := by
  obtain ⟨h1, h2⟩ := h
  refine ⟨h1, ?_⟩
  rcases h2 with h2 | ⟨g, cap, cur, hv, hg, r⟩
  · exact .inl h2
  · exact .inr ⟨g, cap, cur, hv, by omega, r⟩
set_option maxRecDepth 100000 in
set_option maxHeartbeats 1000000 in
theorem set_without (u : Value) (l : List Rg) (v : Int) (w : World) (hl : l.length ≤ 1000000) (hx : RngsR w 0 w.heap.size u l) :
    Calls Try.prog 31 #[u, .int .i64 v] w (RetP (fun r w' => w'.ownsRow w.heap.size 36 2 r (withoutS v l).length (rcells (withoutS v l))) w) := by
  have C := hid (set_has u l v w hx)
  have HX := hid hx; clear hx
  cases hh : hasB l v
  · rw [hh] at C
    cases hr : rightB l
    · have e : withoutS v l = [] := by unfold withoutS; rw [hh, hr]; rfl
      rw [e]
      clear e
      go_enter Try.func31, Try.ntmps31
      go_wp2_with fail
      refine (C.out).mono ?_
      rintro e w1 ⟨rfl, b1⟩
      have B1 := hid b1; clear b1
      go_wp2_with fail
      refine (set_right u l _ (by exact (HX.out.below B1.out).mono (Nat.le_refl _) B1.out.size)).mono ?_
      rintro e w2 ⟨rfl, b2⟩
      go_wp2_with fail
      go_ret
      exact ⟨_, rfl, B1.out.trans (b2.mono B1.out.size), World.ownsRow_nil _ _ _ _⟩
    · have e : withoutS v l = l := by unfold withoutS; rw [hh, hr]; rfl
      rw [e]
      clear e
      go_enter Try.func31, Try.ntmps31
      go_wp2_with fail
      refine (C.out).mono ?_
      rintro e w1 ⟨rfl, b1⟩
      have B1 := hid b1; clear b1
      go_wp2_with fail
      refine (set_right u l _ (by exact (HX.out.below B1.out).mono (Nat.le_refl _) B1.out.size)).mono ?_
      rintro e w2 ⟨rfl, b2⟩
      have B2 := hid (B1.out.trans (b2.mono B1.out.size)); clear b2
      go_wp2_with fail
      refine (clone_rngs u l _ (by omega) (by exact (HX.out.below B2.out).mono (Nat.le_refl _) B2.out.size)).mono ?_
      rintro e w3 ⟨r, rfl, b3, own3⟩
      have B3 := hid (B2.out.trans (b3.mono B2.out.size)); clear b3
      have Own3 := hid own3; clear own3
      go_wp2_with fail
      go_ret
      exact ⟨_, rfl, B3.out, own_base Own3.out B2.out.size⟩
  · rw [hh] at C
    obtain ⟨hv1, hv2⟩ := has_within hh
    have e : withoutS v l = cutS (-1048576) (v - 1) l ++ cutS (v + 1) 1048576 l := by unfold withoutS; rw [hh]; rfl
    rw [e]
    clear e
    have hl1 := cutS_length (-1048576) (v - 1) l
    have hl2 := cutS_length (v + 1) 1048576 l
    obtain ⟨p, hp⟩ : ∃ p, p = cutS (-1048576) (v - 1) l := ⟨_, rfl⟩
    obtain ⟨q, hq⟩ : ∃ q, q = cutS (v + 1) 1048576 l := ⟨_, rfl⟩
    rw [← hp, ← hq]
    rw [← hp] at hl1
    rw [← hq] at hl2
    have C1 := fun w1 (b1 : Below w.heap.size w w1) => set_cut u l (-1048576) (v - 1) w1 ((HX.out.below b1).mono (Nat.le_refl _) b1.size)
    have C2 := fun w1 (b1 : Below w.heap.size w w1) => set_cut u l (v + 1) 1048576 w1 ((HX.out.below b1).mono (Nat.le_refl _) b1.size)
    rw [← hp] at C1
    rw [← hq] at C2
    have C1 := hid C1
    have C2 := hid C2
    clear hp hq
    obtain ⟨i0, hi0, hz0, hz1, hz2⟩ := info_parts rng_info
    have HH := hid hh; clear hh
    go_enter Try.func31, Try.ntmps31
    go_wp2_with fail
    refine (C.out).mono ?_
    rintro e w1 ⟨rfl, b1⟩
    have B1 := hid b1; clear b1
    go_wp2_with fail
    refine (C1.out w1 B1.out).mono ?_
    rintro e w2 ⟨r1, rfl, b2, own2⟩
    have B2 := hid (B1.out.trans (b2.mono B1.out.size)); clear b2
    have Own2 := hid (own_base own2 B1.out.size); clear own2
    go_wp2_with fail
    refine (C2.out w2 B2.out).mono ?_
    rintro e w3 ⟨r2, rfl, b3, own3⟩
    have Own2 := hid (own_below Own2.out b3)
    have B3 := hid (B2.out.trans (b3.mono B2.out.size)); clear b3
    have hs3 := B3.out.size
    have Own3 := hid own3
    rcases own3.2 with ⟨rfl, hn⟩ | ⟨g, cap, cur, rfl, hg, hgg, hnc, hm, _, _⟩
    · have e : q = [] := List.eq_nil_of_length_eq_zero hn
      subst e
      clear hn own3
      go_wp2_with (at_builtin; go_must (refine wpList_append_own_none rfl (.tmp 17) (.tmp 21) 22 rfl w.heap.size 36 i0 2 Try.underlying22 hi0 r1 p.length (rcells p) rfl Own2.out rfl ?_))
      go_ret
      rw [List.append_nil]
      exact ⟨_, rfl, B3.out, Own2.out⟩
    · have HC := hid (own3.cells (g := g) rfl); clear own3 hgg
      go_wp2_with (at_builtin; refine wpList_append_own _ rfl (.tmp 17) (.tmp 21) 22 rfl w.heap.size 36 i0 _ 2 16 Try.underlying22 hi0 hz0 hz1 hz2 rfl (by omega) r1 p.length (rcells p) rfl Own2.out ⟨g, 0, none⟩ q.length cap (rcells q) rfl (rcells_length q) HC.out (rcells_one q) (by unfold maxLen; omega) (by omega) hs3 ?_; intro v1 w4 own4 hg4 _)
      go_ret
      refine ⟨_, rfl, B3.out.grown hg4 hs3 (fun k hk => (Own2.out.lt k hk).1), ?_⟩
      rw [rcells_append, List.length_append]
      exact own4

set_option maxRecDepth 100000 in
set_option maxHeartbeats 1000000 in
theorem set_same (u v : Value) (l m : List Rg) (w : World) (hx : RngsR w 0 w.heap.size u l) (hy : RngsR w 0 w.heap.size v m) :
    Calls Try.prog 29 #[u, v] w (RetB (.bool (rightB l && decide (l = m))) w) := by
  have C := hid (set_right u l w hx)
  have HX := hid hx; clear hx
  have HY := hid hy; clear hy
  cases hr : rightB l
  · rw [hr] at C
    go_enter Try.func29, Try.ntmps29
    go_wp2_with fail
    refine (C.out).mono ?_
    rintro e w1 ⟨rfl, b1⟩
    go_wp2_with fail
    go_ret
    exact ⟨rfl, b1⟩
  · rw [hr] at C
    go_enter Try.func29, Try.ntmps29
    go_wp2_with fail
    refine (C.out).mono ?_
    rintro e w1 ⟨rfl, b1⟩
    have B1 := hid b1; clear b1
    go_wp2_with fail
    refine (slices_equal u v l m _ (by exact (HX.out.below B1.out).mono (Nat.le_refl _) B1.out.size) (by exact (HY.out.below B1.out).mono (Nat.le_refl _) B1.out.size)).mono ?_
    rintro e w2 ⟨rfl, n2, rfl⟩
    go_wp2_with fail
    go_ret
    exact ⟨rfl, below_drewN B1.out _⟩

end Go.Proofs.Ytjdlfmcnjpiaoaa
