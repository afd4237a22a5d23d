/- What every law of chapter 9 asks first. -/
import Derived.Test.YtjdlfmcnjpiaoaaPlOf
namespace Go.Proofs.Ytjdlfmcnjpiaoaa
open Go.RowKit
set_option linter.unusedVariables false

theorem Blk.rngs {w : World} {g : Nat} {t : TypeId} {cs : Array Value} {lo : Nat} {l : List Rg} (h : Blk w g t cs) (hx : cs.toList = rcells l) (hlo : lo ≤ g) (hm : l.length ≤ maxLen) :
    RngsR w lo w.heap.size (.slice (some ⟨g, 0, none⟩) l.length l.length) l := h.cells hx (rcells_length _) hlo hm
theorem Blk.rngs_at {w w' : World} {g : Nat} {t : TypeId} {cs : Array Value} {l : List Rg} (h : Blk w g t cs) (hb : Below w.heap.size w w') (hx : cs.toList = rcells l) (hm : l.length ≤ maxLen) :
    RngsR w' 0 w'.heap.size (.slice (some ⟨g, 0, none⟩) l.length l.length) l := (Blk.below h hb h.lt).rngs hx (Nat.zero_le _) hm

set_option maxRecDepth 100000 in
set_option maxHeartbeats 1000000 in
theorem set_alive (w : World) : Calls Try.prog 14 #[] w (RetB (.bool true) w) := by
  have f1 := hid (fun W (b : Blk W w.heap.size 36 #[.int .i64 5, .int .i64 7, .int .i64 1, .int .i64 3, .int .i64 4, .int .i64 4]) => set_of (.slice (some ⟨w.heap.size, 0, none⟩) 3 3) [(5, 7), (1, 3), (4, 4)] W (by decide) (b.rngs (l := [(5, 7), (1, 3), (4, 4)]) rfl (Nat.zero_le _) (by decide)))
  rw [keep_alive] at f1
  go_enter Try.func14, Try.ntmps14
  go_wp2_with fail
  refine (f1.out _ (by exact Blk.at_ _ _ _ rfl)).mono ?_
  rintro e w1 ⟨v, rfl, b1, l', s, hp, ha, rfl, own1⟩
  rw [merge_alive hp ha] at own1
  clear f1 hp ha l'
  have B1 := hid b1; clear b1
  have O1 := hid own1; clear own1
  go_wp2_with fail
  have K2 := hid (Blk.at_ w1 36 #[.int .i64 1, .int .i64 3, .int .i64 7, .int .i64 9] rfl)
  have f2 := hid (set_next (.slice (some ⟨w1.heap.size, 0, none⟩) 2 2) [(1, 3), (7, 9)] 4 _ (K2.out.rngs_at (Below.refl _ _) (l := [(1, 3), (7, 9)]) rfl (by decide)))
  rw [show nextV [(1, 3), (7, 9)] 4 = 7 by decide, show nextB [(1, 3), (7, 9)] 4 = true by decide] at f2
  refine f2.out.mono ?_
  rintro e w2 ⟨rfl, b2⟩
  have Q2 := hid (B1.out.trans (((Below.refl _ _).alloc (Nat.le_refl _) _).mono B1.out.size |>.trans (b2.mono (Nat.le_trans B1.out.size (by simp)))))
  have C2 := hid b2; clear b2
  have S2 := hid (((Below.refl _ w1).alloc (Nat.le_refl _) _).trans (C2.out.mono (by simp)))
  go_wp2_with fail
  have f3 := hid (retq_b (law_ranges s _ [(1, 7)] [(1, 7)] _ ((RngsR.of_own O1.out).below (S2.out.trans (((Below.refl _ w2).alloc (Nat.le_refl _) _).mono S2.out.size)) |>.mono (Nat.zero_le _) (Nat.le_trans S2.out.size (by simp)))
    ((Blk.at_ w2 36 #[.int .i64 1, .int .i64 7] rfl).rngs_at (Below.refl _ _) (l := [(1, 7)]) rfl (by decide))))
  rw [show decide ([((1 : Int), (7 : Int))] = [(1, 7)]) = true by decide] at f3
  refine f3.out.mono ?_
  rintro e w3 ⟨rfl, b3⟩
  have G3 := hid (((Below.refl _ w2).alloc (Nat.le_refl _) _).trans (b3.mono (by simp))); clear b3
  have C3 := hid (C2.out.trans (G3.out.mono C2.out.size))
  have Q3 := hid (Q2.out.trans (G3.out.mono Q2.out.size))
  clear f2 f3 Q2 C2 S2 G3 O1
  go_wp2_with fail
  have f4 := hid (set_right (.slice (some ⟨w1.heap.size, 0, none⟩) 2 2) [(1, 3), (7, 9)] _ (K2.out.rngs_at C3.out (l := [(1, 3), (7, 9)]) rfl (by decide)))
  rw [show rightB [(1, 3), (7, 9)] = true by decide] at f4
  refine f4.out.mono ?_
  rintro e w4 ⟨rfl, b4⟩
  have C4 := hid (C3.out.trans (b4.mono C3.out.size))
  have Q4 := hid (Q3.out.trans (b4.mono Q3.out.size))
  clear f4 b4 C3 Q3
  go_wp2_with fail
  have f5 := hid (set_size (.slice (some ⟨w1.heap.size, 0, none⟩) 2 2) [(1, 3), (7, 9)] _ (K2.out.rngs_at C4.out (l := [(1, 3), (7, 9)]) rfl (by decide)))
  rw [show sizeV [(1, 3), (7, 9)] = 6 by decide] at f5
  refine f5.out.mono ?_
  rintro e w5 ⟨rfl, b5⟩
  have C5 := hid (C4.out.trans (b5.mono C4.out.size))
  have Q5 := hid (Q4.out.trans (b5.mono Q4.out.size))
  clear f5 b5 C4 Q4
  go_wp2_with fail
  have D5 := hid ((Below.refl _ w5).alloc (Nat.le_refl _) (.cells #[.int .i64 3, .int .i64 8] 36))
  have f6 := hid (set_meet (.slice (some ⟨w1.heap.size, 0, none⟩) 2 2) _ [(1, 3), (7, 9)] [(3, 8)] _ (by decide) (K2.out.rngs_at (C5.out.trans (D5.out.mono C5.out.size)) (l := [(1, 3), (7, 9)]) rfl (by decide))
    ((Blk.at_ w5 36 #[.int .i64 3, .int .i64 8] rfl).rngs_at (Below.refl _ _) (l := [(3, 8)]) rfl (by decide)))
  rw [show meetS [(1, 3), (7, 9)] [(3, 8)] = [(3, 3), (7, 8)] by decide] at f6
  refine f6.out.mono ?_
  rintro e w6 ⟨r6, rfl, b6, own6⟩
  have Q6 := hid (Q5.out.trans ((D5.out.trans (b6.mono D5.out.size)).mono Q5.out.size))
  have O6 := hid own6
  clear f6 b6 Q5 own6 K2 C5
  go_wp2_with fail
  have D6 := hid ((Below.refl _ w6).alloc (Nat.le_refl _) (.cells #[.int .i64 3, .int .i64 3, .int .i64 7, .int .i64 8] 36))
  have f7 := hid (retq_b (law_ranges r6 _ [(3, 3), (7, 8)] [(3, 3), (7, 8)] _ ((RngsR.of_own O6.out).below D6.out |>.mono (Nat.zero_le _) D6.out.size)
    ((Blk.at_ w6 36 #[.int .i64 3, .int .i64 3, .int .i64 7, .int .i64 8] rfl).rngs_at (Below.refl _ _) (l := [(3, 3), (7, 8)]) rfl (by decide))))
  rw [show decide ([((3 : Int), (3 : Int)), (7, 8)] = [(3, 3), (7, 8)]) = true by decide] at f7
  refine f7.out.mono ?_
  rintro e w7 ⟨rfl, b7⟩
  have Q7 := hid (Q6.out.trans ((D6.out.trans (b7.mono D6.out.size)).mono Q6.out.size))
  clear f7 b7 Q6 O6 D6
  go_wp2_with fail
  have D7 := hid ((Below.refl _ w7).alloc (Nat.le_refl _) (.cells #[.int .i64 1, .int .i64 1, .int .i64 2, .int .i64 2] 36))
  have f8 := hid (set_has _ [(1, 1), (2, 2)] 1 _ ((Blk.at_ w7 36 #[.int .i64 1, .int .i64 1, .int .i64 2, .int .i64 2] rfl).rngs_at (Below.refl _ _) (l := [(1, 1), (2, 2)]) rfl (by decide)))
  rw [show hasB [(1, 1), (2, 2)] 1 = false by decide] at f8
  refine f8.out.mono ?_
  rintro e w8 ⟨rfl, b8⟩
  have Q8 := hid (Q7.out.trans ((D7.out.trans (b8.mono D7.out.size)).mono Q7.out.size))
  clear f8 b8 Q7 D7
  go_wp2_with fail
  go_ret
  exact ⟨rfl, ((Below.refl _ w).alloc (Nat.le_refl _) _).trans (Q8.out.mono (by simp))⟩
end Go.Proofs.Ytjdlfmcnjpiaoaa
