/- The walks of the reference of chapter 9: joined. -/
import Derived.Test.YtjdlfmcnjpiaoaaSetR1
import Derived.Test.YtjdlfmcnjpiaoaaApp
namespace Go.Proofs.Ytjdlfmcnjpiaoaa
open Go.RowKit
set_option linter.unusedVariables false


def joinedGo : Rg → Bool → List Rg → List Rg
  | r, laid, [] => if laid = true then [] else [r]
  | r, laid, d :: l =>
    if d.2 + 1 < r.1 then d :: joinedGo r laid l
    else if r.2 + 1 < d.1 then (if laid = true then [d] else [r, d]) ++ joinedGo r true l
    else joinedGo (min r.1 d.1, max r.2 d.2) laid l
def InB (r : Rg) : Prop := -1048576 ≤ r.1 ∧ r.1 ≤ 1048576 ∧ -1048576 ≤ r.2 ∧ r.2 ≤ 1048576
theorem own_drewN' {w : World} {b e size n : Nat} {v : Value} {xs : List Value} (h : w.ownsRow b e size v n xs) (k : Nat) : (w.drewN k).ownsRow b e size v n xs := h
theorem own_base5 {w : World} {b b' e size n : Nat} {v : Value} {xs : List Value} (h : w.ownsRow b e size v n xs) (hb : b' ≤ b) : w.ownsRow b' e size v n xs := by
  obtain ⟨h1, h2⟩ := h
  refine ⟨h1, ?_⟩
  rcases h2 with h2 | ⟨g, cap, cur, hv, hg, r⟩
  · exact .inl h2
  · exact .inr ⟨g, cap, cur, hv, by omega, r⟩
theorem cells_at {w : World} {lo hi n c : Nat} {a : Addr} {l : List Rg} {k : Nat} {x y : Int} (h : RngsR w lo hi (.slice (some a) n c) l) (hk : l[k]? = some (x, y)) :
    w.cell? (a.add (k * 2)) = some (.int .i64 x) ∧ w.cell? { block := (a.add (k * 2)).block, off := (a.add (k * 2)).off + 1 } = some (.int .i64 y) := by
  obtain ⟨a', e, _, _, hc⟩ := h.get (List.getElem?_eq_some_iff.1 hk).1
  injection e with e
  subst e
  exact hc _ _ _ hk
theorem joined_length : ∀ (l : List Rg) (r : Rg) (b : Bool), (joinedGo r b l).length ≤ l.length + (if b = true then 0 else 1)
  | [], r, b => by unfold joinedGo; cases b <;> simp
  | d :: l, r, b => by
    unfold joinedGo
    split
    · have := joined_length l r b; simp; omega
    · split
      · have := joined_length l r true
        cases b <;> simp at * <;> omega
      · have := joined_length l (min r.1 d.1, max r.2 d.2) b; simp; omega
theorem joined_inB : ∀ (l : List Rg) (r : Rg) (b : Bool), InB r → (∀ d ∈ l, InB d) → ∀ d ∈ joinedGo r b l, InB d
  | [], r, b, hr, hl, d, hd => by
    unfold joinedGo at hd
    cases b
    · simp at hd; exact hd ▸ hr
    · simp at hd
  | e :: l, r, b, hr, hl, d, hd => by
    have he := hl e (by simp)
    have hl' : ∀ d ∈ l, InB d := fun d hd => hl d (by simp [hd])
    unfold joinedGo at hd
    split at hd
    · simp at hd
      rcases hd with rfl | hd
      · exact he
      · exact joined_inB l r b hr hl' d hd
    · split at hd
      · rw [List.mem_append] at hd
        rcases hd with hd | hd
        · cases b
          · simp at hd; rcases hd with rfl | rfl
            · exact hr
            · exact he
          · simp at hd; exact hd ▸ he
        · exact joined_inB l r true hr hl' d hd
      · refine joined_inB l _ b ?_ hl' d hd
        unfold InB at *
        simp
        omega
set_option maxRecDepth 100000 in
set_option maxHeartbeats 1000000 in
theorem rset_joined (u : Value) (l : List Rg) (p0 q0 : Int) (w : World) (hl : l.length ≤ 3000000) (hI0 : InB (p0, q0)) (hIl : ∀ d ∈ l, InB d) (hx : RngsR w 0 w.heap.size u l) :
    Calls Try.prog 61 #[u, .agg #[.int .i64 p0, .int .i64 q0]] w (RetP (fun ro w' => w'.ownsRow w.heap.size 36 2 ro (joinedGo (p0, q0) false l).length (rcells (joinedGo (p0, q0) false l))) w) := by
  obtain ⟨A, c, rfl, h1, h2, _⟩ := hx.open_
  have HX := hid hx; clear hx h1 h2
  have HIL := hid hIl; clear hIl
  have HI0 := hid hI0; clear hI0
  obtain ⟨T, hT⟩ : ∃ T, T = joinedGo (p0, q0) false l := ⟨_, rfl⟩
  rw [← hT]
  have e0 := hid (show [] ++ joinedGo (p0, q0) false (l.drop 0) = T by rw [hT]; rfl)
  clear hT
  have hK0 := hid (Blk.new w 36 #[.int .i64 p0, .int .i64 q0])
  have hB0 := hid ((Below.refl w.heap.size w).alloc (Nat.le_refl _) (.cells #[.int .i64 p0, .int .i64 q0] 36))
  go_enter Try.func61, Try.ntmps61
  go_wp2_with fail
  go_loopw [5, 6, 7] (fun vo vl vk wr => ∃ (k : Nat) (acc : List Rg) (p q : Int) (b : Bool), k ≤ l.length ∧ acc.length ≤ 2 * k ∧ Hid (InB (p, q)) ∧ vk = .int .i64 k ∧ vl = .bool b ∧ Hid (wr.ownsRow (w.heap.size + 1) 36 2 vo acc.length (rcells acc)) ∧ Hid (acc ++ joinedGo (p, q) b (l.drop k) = T) ∧ Hid (Blk wr w.heap.size 36 #[.int .i64 p, .int .i64 q]) ∧ Hid (Below w.heap.size w wr)) (fun vo vl vk wr => (l.length - (intOf vk).toNat))
  case atStart => exact ⟨0, [], p0, q0, false, by omega, by simp, HI0, rfl, rfl, World.ownsRow_nil _ _ _ _, e0, hK0, hB0⟩
  case round =>
    obtain ⟨k, acc, p, q, b, hk, hak, hI, rfl, rfl, hown, hs, hK, hB⟩ := hrel
    have hz := hB.out.size
    have hz1 := hK.out.lt
    obtain ⟨f0, f1, z0, z1⟩ := hK.out.two
    obtain ⟨i1, i2, i3, i4⟩ := hI.out
    simp only at i1 i2 i3 i4
    by_cases hlt : k < l.length
    · obtain ⟨x, y, hxy⟩ := at_rg hlt
      obtain ⟨a, rfl, _, hab, hc⟩ := (HX.out.below hB.out).get hlt
      obtain ⟨g1, g2⟩ := hc _ _ _ hxy
      clear hc
      obtain ⟨j1, j2, j3, j4⟩ := HIL.out _ (mem_at hxy)
      simp only at j1 j2 j3 j4
      replace hs := hs.out
      rw [drop_at hxy] at hs
      have Hxy := hid hxy
      clear hxy
      unfold joinedGo at hs
      simp only at hs
      have e1 : IntKind.i64.wrap (y + 1) = y + 1 := IntWalk.i64_in _ (by omega)
      have e2 : IntKind.i64.wrap (q + 1) = q + 1 := IntWalk.i64_in _ (by omega)
      have n1 : (a.add (k * 2)).block < wr.heap.size := by rw [block_add]; omega
      obtain ⟨p', hp⟩ : ∃ p', p' = min p x := ⟨_, rfl⟩
      obtain ⟨q', hq⟩ : ∃ q', q' = max q y := ⟨_, rfl⟩
      have hp' : (if x < p then x else p) = p' := by rw [hp]; split <;> omega
      have hq' : (if q < y then y else q) = q' := by rw [hq]; split <;> omega
      have hI' := hid (show InB (p', q') by unfold InB; simp only; omega)
      rw [← hp, ← hq] at hs
      clear hp hq
      by_cases c1 : y + 1 < p
      · rw [if_pos c1] at hs
        replace hs := hid (show acc ++ [(x, y)] ++ joinedGo (p, q) b (l.drop (k + 1)) = T by rw [← hs, List.append_assoc]; rfl)
        go_wp2_with fail
        go_quiet (fail)
        clear e1 e2
        go_wp2_with (at_builtin; refine wpList_app_rng _ rfl (.tmp 23) (.tmp 28) 22 36 rfl Try.underlying22 rng_info (w.heap.size + 1) _ (acc) rfl (by exact (own_drewN' hown.out _).alloc _) wr.heap.size x y rfl (by exact Blk.at_ _ _ _ (by simp)) (by first | omega | (simp; omega)) (by simp; omega) ?_; intro v3 w3 own3 bw3)
        go_roundw
        case rel => exact ⟨k + 1, acc ++ [(x, y)], p, q, b, by omega, by first | omega | (simp; omega), hI, by go_num, rfl, hid (own3), hs, hid (((hK.out.drewN _).alloc _).below bw3 (by omega)), hid (((below_drewN hB.out _).alloc hz _).trans (bw3.mono (by omega)))⟩
        case measure => simp [intOf]; omega
      · rw [if_neg c1] at hs
        by_cases c2 : q + 1 < x
        · rw [if_pos c2] at hs
          cases b
          · replace hs := hid (show acc ++ [(p, q)] ++ [(x, y)] ++ joinedGo (p, q) true (l.drop (k + 1)) = T by rw [← hs]; simp)
            go_wp2_with fail
            go_quiet (fail)
            go_wp2_with fail
            go_quiet (fail)
            clear e1 e2
            go_wp2_with (first | (at_builtin; refine wpList_app_rng _ rfl (.tmp 41) (.tmp 43) 22 36 rfl Try.underlying22 rng_info (w.heap.size + 1) _ (acc) rfl (by exact (own_drewN' hown.out _).alloc _) wr.heap.size p q rfl (by exact Blk.at_ _ _ _ (by simp)) (by first | omega | (simp; omega)) (by simp; omega) ?_; intro v3 w3 own3 bw3; have B3 := hid (((below_drewN hB.out _).alloc hz _).trans (bw3.mono (by omega))); have K3 := hid (((hK.out.drewN _).alloc _).below bw3 (by omega)); have hz3 := B3.out.size; have hy3 := K3.out.lt; obtain ⟨k0, k1, _, _⟩ := K3.out.two; obtain ⟨g5, g6⟩ := cells_at (HX.out.below B3.out) Hxy.out) | (at_builtin; refine wpList_app_rng _ rfl (.tmp 45) (.tmp 50) 22 36 rfl Try.underlying22 rng_info (w.heap.size + 1) _ (acc ++ [(p, q)]) rfl (by exact own3.alloc _) w3.heap.size x y rfl (by exact Blk.at_ _ _ _ (by simp)) (by first | omega | (simp; omega)) (by simp; omega) ?_; intro v4 w4 own4 bw4))
            go_roundw
            case rel => exact ⟨k + 1, acc ++ [(p, q)] ++ [(x, y)], p, q, true, by omega, by first | omega | (simp; omega), hI, by go_num, rfl, hid (own4), hs, hid ((K3.out.alloc _).below bw4 (by omega)), hid ((B3.out.alloc hz3 _).trans (bw4.mono (by omega)))⟩
            case measure => simp [intOf]; omega
          · replace hs := hid (show acc ++ [(x, y)] ++ joinedGo (p, q) true (l.drop (k + 1)) = T by rw [← hs]; simp)
            go_wp2_with fail
            go_quiet (fail)
            go_wp2_with fail
            go_quiet (fail)
            clear e1 e2
            go_wp2_with (at_builtin; refine wpList_app_rng _ rfl (.tmp 45) (.tmp 50) 22 36 rfl Try.underlying22 rng_info (w.heap.size + 1) _ (acc) rfl (by exact (own_drewN' hown.out _).alloc _) wr.heap.size x y rfl (by exact Blk.at_ _ _ _ (by simp)) (by first | omega | (simp; omega)) (by simp; omega) ?_; intro v3 w3 own3 bw3)
            go_roundw
            case rel => exact ⟨k + 1, acc ++ [(x, y)], p, q, true, by omega, by first | omega | (simp; omega), hI, by go_num, rfl, hid (own3), hs, hid (((hK.out.drewN _).alloc _).below bw3 (by omega)), hid (((below_drewN hB.out _).alloc hz _).trans (bw3.mono (by omega)))⟩
            case measure => simp [intOf]; omega
        · rw [if_neg c2] at hs
          replace hs := hid hs
          go_wp2_with fail
          go_quiet (fail)
          go_wp2_with fail
          go_quiet (fail)
          clear e1 e2
          go_wp2_with fail
          go_region
          go_wp2_with fail
          go_roundw
          case rel => exact ⟨k + 1, acc, p', q', b, by omega, by first | omega | (simp; omega), hI', by go_num, rfl, hid (ownsRow_setCell_below (ownsRow_setCell_below (own_drewN' hown.out _) (by simp) _) (by simp) _), hs, hid (((hK.out.drewN _).set_ 0 _).set_ 1 _), hid (((below_drewN hB.out _).setCell (Nat.le_refl _) _).setCell (Nat.le_refl _) _)⟩
          case measure => simp [intOf]; omega
    · replace hs := hs.out
      rw [List.drop_eq_nil_of_le (by omega)] at hs
      unfold joinedGo at hs
      cases b
      · replace hs := hid (show acc ++ [(p, q)] = T from hs)
        go_wp2_with (at_builtin; refine wpList_app_rng _ rfl (.tmp 71) (.tmp 73) 22 36 rfl Try.underlying22 rng_info (w.heap.size + 1) _ (acc) rfl (by exact hown.out.alloc _) wr.heap.size p q rfl (by exact Blk.at_ _ _ _ (by simp)) (by first | omega | (simp; omega)) (by simp; omega) ?_; intro v3 w3 own3 bw3)
        go_ret
        have e := hs.out
        subst e
        exact ⟨_, rfl, (hB.out.alloc hz _).trans (bw3.mono (by omega)), own_base5 own3 (by omega)⟩
      · replace hs := hid (show acc ++ [] = T from hs)
        go_wp2_with fail
        go_ret
        have e := hs.out
        rw [List.append_nil] at e
        subst e
        exact ⟨_, rfl, hB.out, own_base5 hown.out (by omega)⟩

end Go.Proofs.Ytjdlfmcnjpiaoaa
