/- The walks of the reference of chapter 9: Without. -/
import Derived.Test.YtjdlfmcnjpiaoaaSetR2
import Derived.Test.YtjdlfmcnjpiaoaaApp
namespace Go.Proofs.Ytjdlfmcnjpiaoaa
open Go.RowKit
set_option linter.unusedVariables false


def rwithoutGo (v : Int) : List Rg → List Rg
  | [] => []
  | r :: l => (if v < r.1 ∨ r.2 < v then [r] else (if r.1 < v then [(r.1, v - 1)] else []) ++ (if v < r.2 then [(v + 1, r.2)] else [])) ++ rwithoutGo v l
def rwithoutS (v : Int) (l : List Rg) : List Rg := if rightB l = true then rwithoutGo v l else []
set_option maxRecDepth 100000 in
set_option maxHeartbeats 1000000 in
theorem rset_without (u : Value) (l : List Rg) (v : Int) (w : World) (hx : RngsR w 0 w.heap.size u l) :
    Calls Try.prog 54 #[u, .int .i64 v] w (RetP (fun ro w' => w'.ownsRow w.heap.size 36 2 ro (rwithoutS v l).length (rcells (rwithoutS v l))) w) := by
  have C := rset_right_q u l w hx
  obtain ⟨A, c, rfl, h1, h2, _⟩ := hx.open_
  have hl : l.length ≤ 9223372036854775807 := by omega
  have HX := hid hx; clear hx h1 h2
  cases hr : rightB l
  · have e1 : rwithoutS v l = [] := by unfold rwithoutS; rw [hr]; rfl
    rw [e1]
    clear e1
    rw [hr] at C
    have C := hid C
    go_enter Try.func54, Try.ntmps54
    go_wp2_with fail
    refine C.out.mono ?_
    rintro e w' ⟨rfl, n1, rfl⟩
    go_wp2_with fail
    go_ret
    exact ⟨_, rfl, below_q _ _, World.ownsRow_nil _ _ _ _⟩
  · obtain ⟨T, hT⟩ : ∃ T, T = rwithoutS v l := ⟨_, rfl⟩
    rw [← hT]
    have hl := right_length hr
    have e0 := hid (show [] ++ rwithoutGo v (l.drop 0) = T by rw [hT]; unfold rwithoutS; rw [hr]; rfl)
    clear hT
    rw [hr] at C
    have C := hid C
    have Hr := hid hr; clear hr
    go_enter Try.func54, Try.ntmps54
    go_wp2_with fail
    refine C.out.mono ?_
    rintro e w' ⟨rfl, n1, rfl⟩
    go_wp2_with fail
    go_loopw [5, 6] (fun vo vi wr => ∃ (k : Nat) (acc : List Rg), k ≤ l.length ∧ acc.length ≤ 2 * k ∧ vi = .int .i64 k ∧ Hid (wr.ownsRow w.heap.size 36 2 vo acc.length (rcells acc)) ∧ Hid (acc ++ rwithoutGo v (l.drop k) = T) ∧ Hid (Below w.heap.size w wr)) (fun vo vi wr => (l.length - (intOf vi).toNat))
    case atStart => exact ⟨0, [], by omega, by simp, rfl, World.ownsRow_nil _ _ _ _, e0, below_q _ _⟩
    case round =>
      obtain ⟨k, acc, hk, hak, rfl, hown, hs, hB⟩ := hrel
      by_cases hlt : k < l.length
      · obtain ⟨x, y, hxy⟩ := at_rg hlt
        obtain ⟨a, rfl, _, hab, hc⟩ := (HX.out.below hB.out).get hlt
        obtain ⟨g1, g2⟩ := hc _ _ _ hxy
        clear hc
        have hs := hs.out
        rw [drop_at hxy] at hs
        have hz := hB.out.size
        obtain ⟨r1, r2, r3, r4, r5⟩ := right_rg Hr.out hxy
        unfold rwithoutGo at hs
        clear hxy
        by_cases h1 : v < x
        · have hc1 : v < x ∨ y < v := .inl h1
          have hs := hid (show acc ++ [(x, y)] ++ rwithoutGo v (l.drop (k + 1)) = T by rw [← hs]; simp [hc1])
          go_wp2_with (at_builtin; refine wpList_app_rng_g _ rfl (.tmp 32) (.tmp 34) 22 36 rfl Try.underlying22 rng_info w.heap.size _ (acc) rfl (by exact ((hown.out.alloc _).alloc _)) (wr.heap.size + 1) x y rfl (by exact Blk.at_ _ _ _ (by simp)) (by first | omega | (simp; omega)) (by simp; omega) ?_; intro v3 w3 own3 hg3 bw3)
          go_roundw
          case rel => exact ⟨k + 1, acc ++ [(x, y)], by omega, by first | omega | (simp; omega), by go_num, hid (own3), hs, hid (((hB.out.alloc hz _).alloc (by simp; omega) _).trans bw3)⟩
          case measure => simp [intOf]; omega
        · by_cases h2 : y < v
          · have hc1 : v < x ∨ y < v := .inr h2
            have hs := hid (show acc ++ [(x, y)] ++ rwithoutGo v (l.drop (k + 1)) = T by rw [← hs]; simp [hc1])
            go_wp2_with (at_builtin; refine wpList_app_rng_g _ rfl (.tmp 32) (.tmp 34) 22 36 rfl Try.underlying22 rng_info w.heap.size _ (acc) rfl (by exact ((hown.out.alloc _).alloc _)) (wr.heap.size + 1) x y rfl (by exact Blk.at_ _ _ _ (by simp)) (by first | omega | (simp; omega)) (by simp; omega) ?_; intro v3 w3 own3 hg3 bw3)
            go_roundw
            case rel => exact ⟨k + 1, acc ++ [(x, y)], by omega, by first | omega | (simp; omega), by go_num, hid (own3), hs, hid (((hB.out.alloc hz _).alloc (by simp; omega) _).trans bw3)⟩
            case measure => simp [intOf]; omega
          · rw [if_neg (by omega)] at hs
            by_cases h3 : x < v
            · rw [if_pos h3] at hs
              by_cases h4 : v < y
              · have hs := hid (show acc ++ [(x, v - 1)] ++ [(v + 1, y)] ++ rwithoutGo v (l.drop (k + 1)) = T by rw [← hs]; simp [h4])
                go_wp2_with (first | (at_builtin; refine wpList_app_rng_g _ rfl (.tmp 40) (.tmp 46) 22 36 rfl Try.underlying22 rng_info w.heap.size _ (acc) rfl (by exact ((hown.out.alloc _).alloc _)) (wr.heap.size + 1) x (v - 1) rfl (by exact Blk.at_ _ _ _ (by simp)) (by first | omega | (simp; omega)) (by simp; omega) ?_; intro v3 w3 own3 hg3 bw3; obtain ⟨f0, f1, _, _⟩ := (((Blk.new wr 36 #[.int .i64 x, .int .i64 y]).alloc (.cells #[.int .i64 x, .int .i64 (v - 1)] 36)).grown hg3 (own_not hown.out)).two) | (at_builtin; refine wpList_app_rng_g _ rfl (.tmp 52) (.tmp 58) 22 36 rfl Try.underlying22 rng_info w.heap.size _ (acc ++ [(x, v - 1)]) rfl (by exact own3.alloc _) w3.heap.size (v + 1) y rfl (by exact Blk.at_ _ _ _ (by simp)) (by first | omega | (simp; omega)) (by have := bw3.size; simp at this ⊢; omega) ?_; intro v4 w4 own4 hg4 bw4))
                go_roundw
                case rel => exact ⟨k + 1, acc ++ [(x, v - 1)] ++ [(v + 1, y)], by omega, by first | omega | (simp; omega), by go_num, hid (own4), hs, hid (((((hB.out.alloc hz _).alloc (by simp; omega) _).trans bw3).alloc (by have := bw3.size; simp at this ⊢; omega) _).trans bw4)⟩
                case measure => simp [intOf]; omega
              · have hs := hid (show acc ++ [(x, v - 1)] ++ rwithoutGo v (l.drop (k + 1)) = T by rw [← hs]; simp [h4])
                go_wp2_with (at_builtin; refine wpList_app_rng_g _ rfl (.tmp 40) (.tmp 46) 22 36 rfl Try.underlying22 rng_info w.heap.size _ (acc) rfl (by exact ((hown.out.alloc _).alloc _)) (wr.heap.size + 1) x (v - 1) rfl (by exact Blk.at_ _ _ _ (by simp)) (by first | omega | (simp; omega)) (by simp; omega) ?_; intro v3 w3 own3 hg3 bw3; obtain ⟨f0, f1, _, _⟩ := (((Blk.new wr 36 #[.int .i64 x, .int .i64 y]).alloc (.cells #[.int .i64 x, .int .i64 (v - 1)] 36)).grown hg3 (own_not hown.out)).two)
                go_roundw
                case rel => exact ⟨k + 1, acc ++ [(x, v - 1)], by omega, by first | omega | (simp; omega), by go_num, hid (own3), hs, hid (((hB.out.alloc hz _).alloc (by simp; omega) _).trans bw3)⟩
                case measure => simp [intOf]; omega
            · rw [if_neg h3] at hs
              by_cases h4 : v < y
              · have hs := hid (show acc ++ [(v + 1, y)] ++ rwithoutGo v (l.drop (k + 1)) = T by rw [← hs]; simp [h4])
                go_wp2_with (at_builtin; refine wpList_app_rng_g _ rfl (.tmp 52) (.tmp 58) 22 36 rfl Try.underlying22 rng_info w.heap.size _ (acc) rfl (by exact ((hown.out.alloc _).alloc _)) (wr.heap.size + 1) (v + 1) y rfl (by exact Blk.at_ _ _ _ (by simp)) (by first | omega | (simp; omega)) (by simp; omega) ?_; intro v3 w3 own3 hg3 bw3)
                go_roundw
                case rel => exact ⟨k + 1, acc ++ [(v + 1, y)], by omega, by first | omega | (simp; omega), by go_num, hid (own3), hs, hid (((hB.out.alloc hz _).alloc (by simp; omega) _).trans bw3)⟩
                case measure => simp [intOf]; omega
              · rw [if_neg h4] at hs
                have hs := hid (show acc ++ rwithoutGo v (l.drop (k + 1)) = T by rw [← hs]; rfl)
                go_wp2_with fail
                go_roundw
                case rel => exact ⟨k + 1, acc, by omega, by first | omega | (simp; omega), by go_num, hid (hown.out.alloc _), hs, hid (hB.out.alloc hz _)⟩
                case measure => simp [intOf]; omega
      · go_wp2_with fail
        go_ret
        have hs := hs.out
        rw [List.drop_eq_nil_of_le (by omega)] at hs
        simp [rwithoutGo] at hs
        subst hs
        exact ⟨_, rfl, hB.out, hown.out⟩

end Go.Proofs.Ytjdlfmcnjpiaoaa
