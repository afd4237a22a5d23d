/- The walk of set.Meet. -/
import Derived.Test.YtjdlfmcnjpiaoaaSetW5
namespace Go.Proofs.Ytjdlfmcnjpiaoaa
open Go.RowKit
set_option linter.unusedVariables false


def meetGo : Nat → List Rg → List Rg → List Rg
  | 0, _, _ => []
  | _ + 1, [], _ => []
  | _ + 1, _ :: _, [] => []
  | f + 1, x :: a', y :: b' =>
      (if max x.1 y.1 ≤ min x.2 y.2 then [(max x.1 y.1, min x.2 y.2)] else []) ++ (if x.2 < y.2 then meetGo f a' (y :: b') else meetGo f (x :: a') b')
def meetS (a b : List Rg) : List Rg := if (rightB a && rightB b) = true then meetGo (a.length + b.length) a b else []
theorem meetGo_nil1 (f : Nat) (b : List Rg) : meetGo f [] b = [] := by cases f <;> rfl
theorem meetGo_nil2 (f : Nat) (a : List Rg) : meetGo f a [] = [] := by cases f <;> cases a <;> rfl
def lenV : Value → Nat
  | .slice _ n _ => n
  | _ => 0
theorem meet_step {x y x' y' p q : Int} {a b : List Rg} (hp : p = max x x') (hq : q = min y y') :
    meetGo (((x, y) :: a).length + ((x', y') :: b).length) ((x, y) :: a) ((x', y') :: b) =
      (if p ≤ q then [(p, q)] else []) ++ (if y < y' then meetGo (a.length + ((x', y') :: b).length) a ((x', y') :: b) else meetGo (((x, y) :: a).length + b.length) ((x, y) :: a) b) := by
  subst hp hq
  rw [show ((x, y) :: a).length + ((x', y') :: b).length = (a.length + b.length + 1) + 1 by simp; omega, meetGo]
  rw [show a.length + ((x', y') :: b).length = a.length + b.length + 1 by simp; omega, show ((x, y) :: a).length + b.length = a.length + b.length + 1 by simp; omega]
theorem end_of {w : World} {lo hi n c : Nat} {a : Addr} {x y : Int} {l : List Rg} (h : RngsR w lo hi (.slice (some a) n c) ((x, y) :: l)) :
    w.cell? a = some (.int .i64 x) ∧ w.cell? { block := a.block, off := a.off + 1 } = some (.int .i64 y) := by
  obtain ⟨a', e, _, _, hc⟩ := h.get (k := 0) (by simp)
  injection e with e
  subst e
  exact hc 0 x y rfl
theorem rg_zero {l : List Rg} (h : ¬ 0 < l.length) : l = [] := List.eq_nil_of_length_eq_zero (by omega)
theorem meet_a {acc R u v : List Rg} {y y' : Int} (h : acc ++ (if y < y' then u else v) = R) (q : y < y') : acc ++ u = R := by rw [if_pos q] at h; exact h
theorem meet_b {acc R u v : List Rg} {y y' : Int} (h : acc ++ (if y < y' then u else v) = R) (q : ¬ y < y') : acc ++ v = R := by rw [if_neg q] at h; exact h
theorem own_drewN {w : World} {b e size n : Nat} {v : Value} {xs : List Value} (h : w.ownsRow b e size v n xs) (k : Nat) : (w.drewN k).ownsRow b e size v n xs := h
theorem rg_cons {l : List Rg} (h : 0 < l.length) : ∃ x y l', l = (x, y) :: l' := by cases l with | nil => simp at h | cons r l' => exact ⟨r.1, r.2, l', rfl⟩
set_option maxRecDepth 100000 in
set_option maxHeartbeats 1000000 in
theorem set_meet (u v : Value) (a b : List Rg) (w : World) (htl : a.length + b.length ≤ 2000000) (hx : RngsR w 0 w.heap.size u a) (hy : RngsR w 0 w.heap.size v b) :
    Calls Try.prog 28 #[u, v] w (RetP (fun r w' => w'.ownsRow w.heap.size 36 2 r (meetS a b).length (rcells (meetS a b))) w) := by
  obtain ⟨A, ca, rfl, a1, a2, _⟩ := hx.open_
  obtain ⟨B, cb, rfl, b1, b2, _⟩ := hy.open_
  have HX := hid hx; clear hx
  have HY := hid hy; clear hy
  have hz2 := World.ownsRow_nil w w.heap.size 36 2
  cases ha : rightB a
  · have e : meetS a b = [] := by unfold meetS; rw [ha]; rfl
    rw [e]
    clear e
    have C := hid (set_right _ a w HX.out)
    rw [ha] at C
    go_enter Try.func28, Try.ntmps28
    go_wp2_with fail
    refine (C.out).mono ?_
    rintro e w1 ⟨rfl, b1⟩
    go_wp2_with fail
    go_ret
    exact ⟨_, rfl, b1, World.ownsRow_nil _ _ _ _⟩
  · have C := hid (set_right _ a w HX.out)
    rw [ha] at C
    have D := fun w1 (b1 : Below w.heap.size w w1) => set_right _ b w1 ((HY.out.below b1).mono (Nat.le_refl _) b1.size)
    cases hb : rightB b
    · rw [hb] at D
      have D := hid D
      have e : meetS a b = [] := by unfold meetS; rw [ha, hb]; rfl
      rw [e]
      clear e
      go_enter Try.func28, Try.ntmps28
      go_wp2_with fail
      refine (C.out).mono ?_
      rintro e w1 ⟨rfl, b1⟩
      have B1 := hid b1; clear b1
      go_wp2_with fail
      refine (D.out w1 B1.out).mono ?_
      rintro e w2 ⟨rfl, b2⟩
      go_wp2_with fail
      go_ret
      exact ⟨_, rfl, B1.out.trans (b2.mono B1.out.size), World.ownsRow_nil _ _ _ _⟩
    · rw [hb] at D
      have D := hid D
      have hla := right_length ha
      have hlb := right_length hb
      obtain ⟨R, hR⟩ : ∃ R, R = meetS a b := ⟨_, rfl⟩
      rw [← hR]
      have e0 : [] ++ meetGo (a.length + b.length) a b = R := by rw [hR]; unfold meetS; rw [ha, hb]; rfl
      have E0 := hid e0; clear e0 hR
      go_enter Try.func28, Try.ntmps28
      go_wp2_with fail
      refine (C.out).mono ?_
      rintro e w1 ⟨rfl, b1⟩
      have B1 := hid b1; clear b1
      go_wp2_with fail
      refine (D.out w1 B1.out).mono ?_
      rintro e w2 ⟨rfl, b2⟩
      have B2 := hid (B1.out.trans (b2.mono B1.out.size)); clear b2
      go_wp2_with fail
      go_loopw [0, 1, 5] (fun va vb vo wr => ∃ la lb acc : List Rg, Hid (RngsR w 0 w.heap.size va la) ∧ Hid (RngsR w 0 w.heap.size vb lb) ∧ Hid (wr.ownsRow w.heap.size 36 2 vo acc.length (rcells acc)) ∧ Hid (acc ++ meetGo (la.length + lb.length) la lb = R) ∧ Hid (Below w.heap.size w wr) ∧ acc.length + la.length + lb.length ≤ 2000000) (fun va vb vo wr => lenV va + lenV vb)
      case atStart => exact ⟨a, b, [], HX, HY, World.ownsRow_nil _ _ _ _, E0, B2, by simp; omega⟩
      case round =>
        obtain ⟨la, lb, acc, HA, HB, hown, hs, hB, htot⟩ := hrel
        have hz := hB.out.size
        obtain ⟨A', ca', rfl, c1, c2, _⟩ := HA.out.open_
        obtain ⟨B', cb', rfl, c3, c4, _⟩ := HB.out.open_
        by_cases hpa : 0 < la.length
        · by_cases hpb : 0 < lb.length
          · obtain ⟨x, y, la', rfl⟩ := rg_cons hpa
            obtain ⟨x', y', lb', rfl⟩ := rg_cons hpb
            obtain ⟨ada, rfl, _, hab, hc⟩ := (HA.out.below hB.out).get hpa
            obtain ⟨adb, rfl, _, hbb, hd⟩ := (HB.out.below hB.out).get hpb
            obtain ⟨g1, g2⟩ := hc 0 x y rfl
            obtain ⟨g3, g4⟩ := hd 0 x' y' rfl
            clear hc hd
            obtain ⟨p, hp⟩ : ∃ p, p = max x x' := ⟨_, rfl⟩
            obtain ⟨q, hq⟩ : ∃ q, q = min y y' := ⟨_, rfl⟩
            have hs := hs.out
            rw [meet_step hp hq] at hs
            have hp' : (if x < x' then x' else x) = p := by rw [hp]; split <;> omega
            have hq' : (if y' < y then y' else y) = q := by rw [hq]; split <;> omega
            clear hp hq
            have g1 : wr.cell? ada = some (.int .i64 x) := g1
            have g2 : wr.cell? { block := ada.block, off := ada.off + 1 } = some (.int .i64 y) := g2
            have g3 : wr.cell? adb = some (.int .i64 x') := g3
            have g4 : wr.cell? { block := adb.block, off := adb.off + 1 } = some (.int .i64 y') := g4
            have n1 : ada.block < wr.heap.size := by omega
            have n3 : adb.block < wr.heap.size := by omega
            obtain ⟨A2, hA2⟩ : ∃ A2, A2 = (if ca' = 1 then some ada else (some ada).map (·.add (1 * 2))) := ⟨_, rfl⟩
            have sA : ∀ w, (Instr.slice 22 (.slice (some ada) (la'.length + 1) ca') (some (.int .i64 1)) none none).run Try.prog w = .ok (.slice A2 la'.length (ca' - 1)) w := fun w => by have := run_tail (P := Try.prog) 22 36 Try.underlying22 rng_info (some ada) (la'.length + 1) ca' 1 (by omega) w; rw [← hA2] at this; exact this
            have HA1 : Hid (RngsR w 0 w.heap.size (.slice A2 la'.length (ca' - 1)) la') := by have := HA.out.tail 1 (by simp); rw [← hA2] at this; exact hid (by simpa using this)
            clear hA2
            obtain ⟨B2, hB2⟩ : ∃ B2, B2 = (if cb' = 1 then some adb else (some adb).map (·.add (1 * 2))) := ⟨_, rfl⟩
            have sB : ∀ w, (Instr.slice 22 (.slice (some adb) (lb'.length + 1) cb') (some (.int .i64 1)) none none).run Try.prog w = .ok (.slice B2 lb'.length (cb' - 1)) w := fun w => by have := run_tail (P := Try.prog) 22 36 Try.underlying22 rng_info (some adb) (lb'.length + 1) cb' 1 (by omega) w; rw [← hB2] at this; exact this
            have HB1 : Hid (RngsR w 0 w.heap.size (.slice B2 lb'.length (cb' - 1)) lb') := by have := HB.out.tail 1 (by simp); rw [← hB2] at this; exact hid (by simpa using this)
            clear hB2
            clear HX HY E0
            by_cases q1 : p ≤ q
            · rw [if_pos q1, ← List.append_assoc] at hs
              have hs := hid hs
              go_wp2_with fail
              go_region
              go_wp2_with (at_builtin; refine wpList_app_rng _ rfl (.tmp 47) (.tmp 49) 22 36 rfl Try.underlying22 rng_info w.heap.size _ acc rfl (by exact ((hown.out.alloc _).alloc _).drew) (wr.heap.size + 1) p q rfl (by exact (Blk.at_ _ _ _ (by simp)).drew) (by omega) (by simp; omega) ?_; intro v1 w3 own1 bw1)
              have B3 := hid ((((hB.out.alloc hz _).alloc (by simp; omega) _).drew).trans bw1)
              have hs3 := B3.out.size
              obtain ⟨k1, k2⟩ := end_of (HA.out.below B3.out)
              obtain ⟨k3, k4⟩ := end_of (HB.out.below B3.out)
              by_cases q2 : y < y'
              · have hs := hid (meet_a hs.out q2)
                go_quiet (fail)
                go_wp2_with fail
                go_roundw
                case rel => exact ⟨la', (x', y') :: lb', acc ++ [(p, q)], HA1, HB, hid (own_drewN (own1) _), hs, hid (below_drewN B3.out _), by simp at htot ⊢; omega⟩
                case measure => simp [lenV]
              · have hs := hid (meet_b hs.out q2)
                go_quiet (fail)
                go_wp2_with fail
                go_roundw
                case rel => exact ⟨(x, y) :: la', lb', acc ++ [(p, q)], HA, HB1, hid (own_drewN (own1) _), hs, hid (below_drewN B3.out _), by simp at htot ⊢; omega⟩
                case measure => simp [lenV]
            · rw [if_neg q1, List.nil_append] at hs
              have hs := hid hs
              go_wp2_with fail
              go_region
              go_wp2_with fail
              have B3 := hid (hB.out.alloc hz (.cells #[.int .i64 p, .int .i64 q] 36))
              have hs3 := B3.out.size
              obtain ⟨k1, k2⟩ := end_of (HA.out.below B3.out)
              obtain ⟨k3, k4⟩ := end_of (HB.out.below B3.out)
              by_cases q2 : y < y'
              · have hs := hid (meet_a hs.out q2)
                go_quiet (fail)
                go_wp2_with fail
                go_roundw
                case rel => exact ⟨la', (x', y') :: lb', acc, HA1, HB, hid (own_drewN (hown.out.alloc _) _), hs, hid (below_drewN B3.out _), by simp at htot ⊢; omega⟩
                case measure => simp [lenV]
              · have hs := hid (meet_b hs.out q2)
                go_quiet (fail)
                go_wp2_with fail
                go_roundw
                case rel => exact ⟨(x, y) :: la', lb', acc, HA, HB1, hid (own_drewN (hown.out.alloc _) _), hs, hid (below_drewN B3.out _), by simp at htot ⊢; omega⟩
                case measure => simp [lenV]
          · obtain rfl := rg_zero hpb
            go_wp2_with fail
            go_ret
            have hs := hs.out
            rw [meetGo_nil2, List.append_nil] at hs
            subst hs
            exact ⟨_, rfl, hB.out, hown.out⟩
        · obtain rfl := rg_zero hpa
          go_wp2_with fail
          go_ret
          have hs := hs.out
          rw [meetGo_nil1, List.append_nil] at hs
          subst hs
          exact ⟨_, rfl, hB.out, hown.out⟩

end Go.Proofs.Ytjdlfmcnjpiaoaa
