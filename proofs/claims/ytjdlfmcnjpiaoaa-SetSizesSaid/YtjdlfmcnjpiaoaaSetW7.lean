/- The walk of set.Of. -/
import Derived.Test.YtjdlfmcnjpiaoaaSort
import Derived.Test.YtjdlfmcnjpiaoaaSetR6
import Derived.Test.YtjdlfmcnjpiaoaaSetW5
namespace Go.Proofs.Ytjdlfmcnjpiaoaa
open Go.RowKit
set_option linter.unusedVariables false

/-- The ranges that are kept; none where one does not lie within. -/
def keepGo : List Rg → List Rg → Option (List Rg)
  | acc, [] => some acc
  | acc, r :: l => if r.2 < r.1 then keepGo acc l else if (withinB r.1 && withinB r.2) = true then keepGo (acc ++ [r]) l else none
/-- Ascending ranges run together. -/
def mrg : Rg → List Rg → List Rg
  | p, [] => [p]
  | p, r :: l => if r.1 ≤ p.2 + 1 then mrg (p.1, max p.2 r.2) l else p :: mrg r l
def mergeS : List Rg → List Rg
  | [] => []
  | r :: l => mrg r l
def OfR (T : Option (List Rg)) (B : Nat) (v : Value) (w' : World) : Prop :=
  match T with
  | none => v = .tuple #[.slice none 0 0, .int .i64 2]
  | some L => ∃ l' s, l'.Perm L ∧ Asc l' ∧ v = .tuple #[s, .int .i64 0] ∧ w'.ownsRow B 36 2 s (mergeS l').length (rcells (mergeS l'))
theorem own_slice {w : World} {b e size n : Nat} {v : Value} {xs : List Value} (h : w.ownsRow b e size v n xs) : ∃ A c, v = .slice A n c ∧ n ≤ c ∧ (A = none → c = 0) := by
  rcases h.2 with ⟨rfl, rfl⟩ | ⟨g, cap, cur, rfl, hb, hg, hc, _⟩
  · exact ⟨_, _, rfl, Nat.le_refl _, fun _ => rfl⟩
  · exact ⟨_, _, rfl, hc, fun h => by cases h⟩
theorem rcells_set_last : ∀ (pre : List Rg) (a b q : Int), (rcells (pre ++ [(a, b)])).set (pre.length * 2 + 1) (.int .i64 q) = rcells (pre ++ [(a, q)]) := by
  intro pre a b q
  rw [rcells_append, rcells_append, ← rcells_length pre, List.set_append_right _ _ (by omega)]
  simp [rcells]
theorem own_last {w : World} {B : Nat} {e : TypeId} {v : Value} {pre : List Rg} {a b : Int} (h : w.ownsRow B e 2 v (pre ++ [(a, b)]).length (rcells (pre ++ [(a, b)]))) :
    ∃ g c, v = .slice (some ⟨g, 0, none⟩) (pre.length + 1) c ∧ pre.length + 1 ≤ c ∧ B ≤ g ∧ g < w.heap.size ∧ w.cell? ⟨g, pre.length * 2 + 1, none⟩ = some (.int .i64 b) ∧ w.frozen? ⟨g, pre.length * 2 + 1, none⟩ = false := by
  have hr := RngsR.of_own h
  have h' := h
  rcases h.2 with ⟨_, h0⟩ | ⟨g, cap, cur, rfl, hb, hg, hc, _⟩
  · simp at h0
  · refine ⟨g, cap, by simp, by simpa using hc, hb, (Array.getElem?_eq_some_iff.1 hg).1, ?_, h'.frozenAt _⟩
    have h2 := (rcells_at (pre ++ [(a, b)]) pre.length a b (by simp)).2
    have h3 := h'.cells (g := g) rfl
    have h4 := h3 _ _ h2
    have e : (⟨g, 0, none⟩ : Addr).add (pre.length * 2 + 1) = ⟨g, pre.length * 2 + 1, none⟩ := by unfold Addr.add; split <;> simp_all
    rwa [e] at h4
theorem own_set_last {w w' : World} {B g c : Nat} {e : TypeId} {pre : List Rg} {a b : Int} (h : w.ownsRow B e 2 (.slice (some ⟨g, 0, none⟩) (pre.length + 1) c) (pre ++ [(a, b)]).length (rcells (pre ++ [(a, b)]))) (hb : Below w.heap.size w w') (z : Int) :
    (w'.setCell ⟨g, pre.length * 2 + 1, none⟩ (.int .i64 z)).ownsRow B e 2 (.slice (some ⟨g, 0, none⟩) (pre.length + 1) c) (pre ++ [(a, z)]).length (rcells (pre ++ [(a, z)])) := by
  have h2 := own_below h hb
  rw [show (pre ++ [(a, b)]).length = pre.length + 1 by simp] at h2
  have h7 := (h2.stored (pre.length * 2 + 1) (.int .i64 z)).1
  rw [rcells_set_last] at h7
  rw [show (pre ++ [(a, z)]).length = pre.length + 1 by simp]
  exact h7

set_option maxRecDepth 100000 in
set_option maxHeartbeats 1000000 in
theorem set_of (u : Value) (l : List Rg) (w : World) (hl : l.length ≤ 3000000) (hx : RngsR w 0 w.heap.size u l) :
    Calls Try.prog 15 #[u] w (RetP (OfR (keepGo [] l) w.heap.size) w) := by
  obtain ⟨A, c, rfl, h1, h2, _⟩ := hx.open_
  have HX := hid hx; clear hx h1 h2
  obtain ⟨T, hT⟩ : ∃ T, T = keepGo [] l := ⟨_, rfl⟩
  rw [← hT]
  have e0 := hid (show keepGo [] (l.drop 0) = T by rw [hT]; rfl)
  clear hT
  go_enter Try.func15, Try.ntmps15
  go_wp2_with fail
  go_loopw [4, 13] (fun vo vi wr => ∃ (k : Nat) (acc : List Rg), k ≤ l.length ∧ acc.length ≤ k ∧ vi = .int .i64 k ∧ Hid (wr.ownsRow w.heap.size 36 2 vo acc.length (rcells acc)) ∧ Hid (∀ d ∈ acc, InB d) ∧ Hid (keepGo acc (l.drop k) = T) ∧ Hid (Below w.heap.size w wr)) (fun vo vi wr => (l.length - (intOf vi).toNat))
  case atStart => exact ⟨0, [], by omega, by simp, rfl, World.ownsRow_nil _ _ _ _, hid (by simp), e0, hid (Below.refl _ _)⟩
  case round =>
    obtain ⟨k, acc, hk, hak, rfl, hown, hI, hs, hB⟩ := hrel
    have hz := hB.out.size
    by_cases hlt : k < l.length
    · obtain ⟨x, y, hxy⟩ := at_rg hlt
      obtain ⟨a, rfl, _, hab, hc⟩ := (HX.out.below hB.out).get hlt
      obtain ⟨g1, g2⟩ := hc _ _ _ hxy
      clear hc
      replace hs := hs.out
      rw [drop_at hxy] at hs
      clear hxy
      unfold keepGo at hs
      simp only at hs
      by_cases c1 : y < x
      · rw [if_pos c1] at hs
        replace hs := hid hs
        go_wp2_with fail
        go_roundw
        case rel => exact ⟨k + 1, acc, by omega, by omega, by go_num, hid (hown.out.alloc _), hI, hs, hid (hB.out.alloc hz _)⟩
        case measure => simp [intOf]; omega
      · rw [if_neg c1] at hs
        cases h2 : withinB x
        · rw [h2, Bool.false_and, if_neg (by simp)] at hs
          replace hs := hid hs
          go_wp2_with fail
          refine (set_within _ _).mono ?_
          rintro e w' ⟨rfl, n9, rfl⟩
          go_wp2_with fail
          go_ret2
          have e := hs.out
          subst e
          exact ⟨_, rfl, below_drewN (hB.out.alloc hz _) _, rfl⟩
        · cases h3 : withinB y
          · rw [h2, h3, Bool.true_and, if_neg (by simp)] at hs
            replace hs := hid hs
            go_wp2_with fail
            refine (set_within _ _).mono ?_
            rintro e w' ⟨rfl, n9, rfl⟩
            go_wp2_with fail
            refine (set_within _ _).mono ?_
            rintro e w' ⟨rfl, n8, rfl⟩
            rw [World.drewN_drewN]
            go_wp2_with fail
            go_ret2
            have e := hs.out
            subst e
            exact ⟨_, rfl, below_drewN (hB.out.alloc hz _) _, rfl⟩
          · rw [h2, h3, Bool.true_and, if_pos rfl] at hs
            have hI2 := InB_of h2 h3
            have hI3 := hid (show ∀ d ∈ acc ++ [(x, y)], InB d from fun d hd => by
              rcases List.mem_append.1 hd with hd | hd
              · exact hI.out d hd
              · rw [List.mem_singleton.1 hd]; exact hI2)
            clear hI2
            replace hs := hid hs
            go_wp2_with fail
            refine (set_within _ _).mono ?_
            rintro e w' ⟨rfl, n9, rfl⟩
            go_wp2_with fail
            refine (set_within _ _).mono ?_
            rintro e w' ⟨rfl, n8, rfl⟩
            rw [World.drewN_drewN]
            go_wp2_with (at_builtin; go_must (refine wpList_app_rng _ rfl (.tmp 17) (.tmp 19) 22 36 rfl Try.underlying22 rng_info w.heap.size _ acc rfl (by exact own_below hown.out (((below_drewN ((Below.refl _ _).alloc (Nat.le_refl _) _) _)).alloc (by simp) _)) (wr.heap.size + 1) x y rfl (by exact Blk.at_ _ _ _ (by simp)) (by omega) (by simp; omega) ?_); intro v1 w3 own1 bw1)
            go_roundw
            case rel => exact ⟨k + 1, acc ++ [(x, y)], by omega, by simp; omega, by go_num, hid own1, hI3, hs, hid (((below_drewN (hB.out.alloc hz _) _).alloc (by simp; omega) _).trans bw1)⟩
            case measure => simp [intOf]; omega
    · replace hs := hs.out
      rw [List.drop_eq_nil_of_le (by omega)] at hs
      unfold keepGo at hs
      subst hs
      have hal : acc.length ≤ 3000000 := by omega
      have S1 := hid (fun wx (b : Below wr.heap.size wr wx) => rng_sort (own_below hown.out b) (by omega))
      go_wp2_with fail
      refine (S1.out _ (Below.refl _ _)).mono ?_
      rintro e w1 ⟨rfl, b1, m, hp, ha, hm⟩
      have hM := hid (show ∀ d ∈ m, InB d from fun d hd => hI.out d (hp.mem_iff.1 hd))
      have hml : m.length = acc.length := hp.length_eq
      have HP := hid hp; clear hp
      have HA := hid ha; clear ha
      have HMR := hid hm
      have B1 := hid (hB.out.trans (b1.mono (Nat.le_refl _))); clear b1
      obtain ⟨A2, c2, rfl, _, _⟩ := own_slice hown.out
      obtain ⟨T2, hT2⟩ : ∃ T2, T2 = mergeS m := ⟨_, rfl⟩
      have E0 := hid (show mergeS (m.drop 0) = T2 by rw [hT2]; rfl)
      have HT2 := hid hT2; clear hT2 S1 hm
      rw [← hml] at HMR hal
      rw [← hml]
      clear hak hlt hk
      have HML := hid hml; clear hml
      go_wp2_with fail
      go_loopw [7, 43] (fun vo vi wr => ∃ (k : Nat) (out : List Rg), k ≤ m.length ∧ out.length ≤ k ∧ vi = .int .i64 k ∧ Hid (wr.ownsRow w1.heap.size 36 2 vo out.length (rcells out)) ∧ Hid (∀ d ∈ out, InB d) ∧ Hid (out = [] → mergeS (m.drop k) = T2) ∧ Hid (∀ pre p, out = pre ++ [p] → pre ++ mrg p (m.drop k) = T2) ∧ Hid (Below w1.heap.size w1 wr)) (fun vo vi wr => (m.length - (intOf vi).toNat))
      case atStart => exact ⟨0, [], by omega, by simp, rfl, World.ownsRow_nil _ _ _ _, hid (by simp), hid (fun _ => E0.out), hid (fun pre p h => by simp at h), hid (Below.refl _ _)⟩
      case round =>
        clear hown hI hz hB
        obtain ⟨k, out, hk, hak, rfl, hown, hI, hs1, hs2, hB⟩ := hrel
        have hz := hB.out.size
        by_cases hlt : k < m.length
        · obtain ⟨x, y, hxy⟩ := at_rg hlt
          obtain ⟨a, rfl, _, hab, hc⟩ := (HMR.out.below hB.out).get hlt
          obtain ⟨g1, g2⟩ := hc _ _ _ hxy
          clear hc
          have iB := hM.out _ (mem_at hxy)
          rcases List.eq_nil_or_concat out with ho | ⟨pre, p, ho⟩
          · subst ho
            replace hs1 := hs1.out rfl
            rw [drop_at hxy] at hs1
            replace hs1 := hid (show mrg (x, y) (m.drop (k + 1)) = T2 from hs1)
            clear hxy hs2
            obtain ⟨A3, c3, rfl, _, _⟩ := own_slice hown.out
            have HIB := hid iB; clear iB
            go_wp2_with fail
            go_quiet (fail)
            go_wp2_with (at_builtin; go_must (refine wpList_app_rng _ rfl (.tmp 75) (.tmp 77) 22 36 rfl Try.underlying22 rng_info w1.heap.size _ [] rfl (by exact own_below hown.out (((below_drewN ((Below.refl _ _).alloc (Nat.le_refl _) _) _)).alloc (by simp) _)) (wr.heap.size + 1) x y rfl (by exact Blk.at_ _ _ _ (by simp)) (by simp) (by simp; omega) ?_); intro v1 w3 own1 bw1)
            go_roundw
            case rel => exact ⟨k + 1, [(x, y)], by omega, by simp, by go_num, hid own1, hid (fun d hd => by rw [List.mem_singleton.1 hd]; exact HIB.out), hid (by simp), hid (fun pre p h => by cases pre with | nil => (simp at h; subst h; exact hs1.out) | cons => simp at h), hid (((below_drewN (hB.out.alloc hz _) _).alloc (by simp; omega) _).trans bw1)⟩
            case measure => simp [intOf]; omega
          · obtain ⟨a1, b1⟩ := p
            rw [List.concat_eq_append] at ho
            subst ho
            replace hs2 := hs2.out pre (a1, b1) rfl
            rw [drop_at hxy] at hs2
            unfold mrg at hs2
            simp only at hs2
            clear hxy hs1
            obtain ⟨gg, c3, rfl, hc3, hgB, hgl, g3, g4⟩ := own_last hown.out
            have jB : InB (a1, b1) := hI.out _ (by simp)
            have hI0 := hid (show ∀ d ∈ pre, InB d from fun d hd => hI.out d (by simp [hd]))
            unfold InB at iB jB
            simp only at iB jB
            obtain ⟨n, hn⟩ : ∃ n, n = pre.length := ⟨_, rfl⟩
            have hlen : (pre ++ [(a1, b1)]).length = n + 1 := by simp [hn]
            have hown2 := hid hown.out; clear hown
            rw [hlen] at hak
            rw [← hn] at g3 g4 hc3 ⊢
            obtain ⟨q, hq⟩ : ∃ q, q = (⟨gg, 0, none⟩ : Addr) := ⟨_, rfl⟩
            have hqa : (⟨gg, n * 2 + 1, none⟩ : Addr) = { block := (q.add (n * 2)).block, off := (q.add (n * 2)).off + 1 } := by subst hq; unfold Addr.add; split <;> simp_all
            have hqb : (q.add (n * 2)).block < wr.heap.size := by rw [block_add, hq]; exact hgl
            rw [hqa] at g3 g4
            rw [← hq]
            have HQ := hid hq; clear hq
            have HQA := hid hqa; clear hqa
            have HN := hid hn; clear hn
            have e1 : IntKind.i64.wrap (b1 + 1) = b1 + 1 := IntWalk.i64_in _ (by omega)
            by_cases c1 : x ≤ b1 + 1
            · rw [if_pos c1] at hs2
              replace hs2 := hid hs2
              obtain ⟨z, hz1⟩ : ∃ z, z = max b1 y := ⟨_, rfl⟩
              have hz2 : (if b1 < y then y else b1) = z := by rw [hz1]; split <;> omega
              rw [← hz1] at hs2
              have zB := hid (show InB (a1, z) by unfold InB; simp only; omega)
              have HZ := hid hz1
              clear hz1 iB jB hI
              go_wp2_with fail
              go_quiet (fail)
              go_wp2_with fail
              go_region
              go_wp2_with fail
              go_roundw
              case rel =>
                refine ⟨k + 1, pre ++ [(a1, z)], by omega, by have := HN.out; simp; omega, by go_num, hid ?_, hid ?_, hid (by simp), hid ?_, hid ?_⟩
                · rw [← HQA.out, HN.out]
                  have h9 := HQ.out
                  rw [h9, ← HZ.out]
                  exact own_set_last hown2.out (below_drewN ((Below.refl _ _).alloc (Nat.le_refl _) _) _) z
                · intro d hd
                  rcases List.mem_append.1 hd with hd | hd
                  · exact hI0.out d hd
                  · rw [List.mem_singleton.1 hd]; exact zB.out
                · intro pre' p' h
                  obtain ⟨h5, h6⟩ := List.append_inj' h rfl
                  simp at h6
                  rw [← h5, ← h6]
                  exact hs2.out
                · refine (below_drewN (hB.out.alloc hz _) _).setCell ?_ _
                  rw [← HQA.out]
                  exact hgB
              case measure => simp [intOf]; omega
            · rw [if_neg c1] at hs2
              replace hs2 := hid hs2
              have iB := hid (show InB (x, y) by unfold InB; simp only; omega)
              clear jB
              go_wp2_with fail
              go_quiet (fail)
              go_wp2_with (at_builtin; go_must (refine wpList_app_rng _ rfl (.tmp 75) (.tmp 77) 22 36 rfl Try.underlying22 rng_info w1.heap.size (.slice (some ⟨gg, 0, none⟩) (pre.length + 1) c3) (pre ++ [(a1, b1)]) (by rw [← HN.out, ← HQ.out]; rfl) (by exact own_below hown2.out (((below_drewN ((Below.refl _ _).alloc (Nat.le_refl _) _) _)).alloc (by simp) _)) (wr.heap.size + 1) x y rfl (by exact Blk.at_ _ _ _ (by simp)) (by rw [hlen]; omega) (by simp; omega) ?_); intro v1 w3 own1 bw1)
              go_roundw
              case rel =>
                refine ⟨k + 1, pre ++ [(a1, b1)] ++ [(x, y)], by omega, by rw [List.length_append, hlen]; simp; omega, by go_num, hid own1, hid ?_, hid (by simp), hid ?_, hid (((below_drewN (hB.out.alloc hz _) _).alloc (by simp; omega) _).trans bw1)⟩
                · intro d hd
                  rcases List.mem_append.1 hd with hd | hd
                  · exact hI.out d hd
                  · rw [List.mem_singleton.1 hd]; exact iB.out
                · intro pre' p' h
                  obtain ⟨h5, h6⟩ := List.append_inj' h rfl
                  simp at h6
                  rw [← h5, ← h6, List.append_assoc]
                  exact hs2.out
              case measure => simp [intOf]; omega
        · replace hs1 := hs1.out
          replace hs2 := hs2.out
          rw [List.drop_eq_nil_of_le (by omega)] at hs1 hs2
          have e9 : out = T2 := by
            rcases List.eq_nil_or_concat out with ho | ⟨pre, p, ho⟩
            · rw [ho, ← hs1 ho]; rfl
            · rw [List.concat_eq_append] at ho
              have := hs2 pre p ho
              rw [ho, ← this]; rfl
          go_wp2_with fail
          go_ret2
          have e8 := e9.trans HT2.out
          rw [e8] at hown
          exact ⟨_, rfl, B1.out.trans (hB.out.mono B1.out.size), m, _, HP.out, HA.out, rfl, own_base hown.out B1.out.size⟩
end Go.Proofs.Ytjdlfmcnjpiaoaa
