/- slices.SortFunc over ranges, as set.Of calls it: the row is sorted by its ranges' lower ends. -/
import Derived.Test.YtjdlfmcnjpiaoaaProg
import Derived.Test.YtjdlfmcnjpiaoaaSetW
import Derived.Test.YtjdlfmcnjpiaoaaSortLay
import Derived.Shelf.SlSortCmp.NoneTotal
namespace Go.Proofs.Ytjdlfmcnjpiaoaa
open Go.RowKit Go.Shelf Go.Lib Go.Sort
set_option linter.unusedVariables false

def encRg (x : Rg) : List Value := [.int .i64 x.1, .int .i64 x.2]

set_option maxHeartbeats 1000000 in
theorem sort_closure (x y : Rg) (W : World) : Calls Try.prog 58 #[.agg #[.int .i64 x.1, .int .i64 x.2], .agg #[.int .i64 y.1, .int .i64 y.2]] W fun e w' => e = .returned (.int .i64 (cmpI x.1 y.1)) ∧ ∃ q os', w' = grow (W.drewN q) os' := by
  have hcon := fun W' => cmp_compare x.1 y.1 W'
  generalize cmpI x.1 y.1 = r at hcon ⊢
  go_enter Try.func58, Try.ntmps58
  go_wp2_with (go_at_call 59; refine (hcon _).mono ?_; rintro e w' ⟨rfl, n1, rfl⟩)
  go_ret
  refine ⟨rfl, n1, #[Obj.cells #[.int .i64 x.1, .int .i64 x.2] 36 (0, 0)] ++ #[Obj.cells #[.int .i64 y.1, .int .i64 y.2] 36 (0, 0)], ?_⟩
  rw [alloc_eq_grow, alloc_eq_grow, grow_grow]
  rfl

theorem sort_lays (blk off size : Nat) (w : World) : CmpLays Try.prog 58 #[] encRg 2 (fun x y => cmpI x.1 y.1) blk off size w :=
  fun _ _ _ _ x y => sort_closure x y _

theorem sort_lt (x y : Rg) : ltOf (fun x y : Rg => cmpI x.1 y.1) x y = decide (x.1 < y.1) := by
  unfold ltOf cmpI
  by_cases h1 : x.1 < y.1
  · simp [h1]
  · by_cases h2 : y.1 < x.1 <;> simp [h1, h2]

theorem sort_swo : SWO (ltOf fun x y : Rg => cmpI x.1 y.1) where
  irrefl x := by rw [sort_lt]; simp
  trans x y z h1 h2 := by rw [sort_lt] at *; simp at *; omega
  ntrans x y z h1 h2 := by rw [sort_lt] at *; simp at *; omega

/-- Ascending by the lower ends. -/
def Asc (l : List Rg) : Prop := ∀ (i j : Nat) (x y : Rg), l[i]? = some x → l[j]? = some y → i < j → x.1 ≤ y.1

theorem below_sortWorldK {B : Nat} (enc : Rg → List Value) (k : Nat) (w : World) (blk off n : Nat) (d : Array Rg) (os : Array Obj) (hb : B ≤ blk) (hblk : blk < w.heap.size) :
    Go.RowKit.Below B w (sortWorldK enc k w blk off n d os) := by
  refine ⟨rfl, rfl, rfl, size_sortWorldK_c _ _ _ _ _ _ _ _, fun i hi => ?_⟩
  show ((w.heap.modify blk _) ++ os)[i]? = w.heap[i]?
  rw [Array.getElem?_append, if_pos (by simp; omega), Array.getElem?_modify, if_neg (by omega)]

theorem flat_at (d : Array Rg) (j : Nat) (hj : j < d.size * 2) : (rcells d.toList)[j]? = some ((encRg d[j / 2]!)[j % 2]!) := by
  have hk : j / 2 < d.size := by omega
  have hg : d[j / 2]! = d[j / 2] := getElem!_pos d (j / 2) hk
  have h := rcells_at d.toList (j / 2) d[j / 2].1 d[j / 2].2 (by simp [hk])
  rw [hg]
  generalize hr : d[j / 2] = r at h
  rcases Nat.mod_two_eq_zero_or_one j with h2 | h2
  · have e : j / 2 * 2 = j := by omega
    rw [e] at h
    rw [h.1, h2]; rfl
  · have e : j / 2 * 2 + 1 = j := by omega
    rw [e] at h
    rw [h.2, h2]; rfl

theorem sort_holds {w : World} {g cap : Nat} {lo hi : Nat} {l : List Rg} {E : TypeId} {cur : Array Value} (hr : RngsR w lo hi (.slice (some ⟨g, 0, none⟩) l.length cap) l) (hb : Blk w g E cur) : HoldsK encRg 2 w g 0 l.toArray := by
  intro j hj
  rw [size_flatK] at hj
  rw [get_flatK _ _ _ _ hj]
  refine ⟨?_, hb.frozen _⟩
  have h := flat_at l.toArray j hj
  obtain ⟨A, c, h1, h2, h3, h4, h5⟩ := hr
  cases h1
  obtain ⟨a, ha, _, _, h6⟩ := h5 (by simp at hj; omega)
  cases ha
  have := h6 j _ h
  have e : (⟨g, 0, none⟩ : Addr).add j = ⟨g, 0 + j, none⟩ := by unfold Addr.add; split <;> simp_all
  rw [e] at this
  exact this

theorem holds_rngs {w : World} {g cap lo : Nat} {d : Array Rg} {E : TypeId} (hH : HoldsK encRg 2 w g 0 d) (hg : g < w.heap.size) (hlo : lo ≤ g) (hc : d.size ≤ cap) (hm : cap ≤ maxLen) : RngsR w lo w.heap.size (.slice (some ⟨g, 0, none⟩) d.size cap) d.toList := by
  refine ⟨some ⟨g, 0, none⟩, cap, by simp, by simpa using hc, hm, ⟨rcells_length _, fun h => by cases h⟩, fun hn => ⟨_, rfl, hlo, hg, fun j u hu => ?_⟩⟩
  have hj := rcells_get hu
  simp at hj
  have h := hH j (by rw [size_flatK]; exact hj)
  rw [get_flatK _ _ _ _ hj] at h
  rw [flat_at d j hj] at hu
  have e : (⟨g, 0, none⟩ : Addr).add j = ⟨g, 0 + j, none⟩ := by unfold Addr.add; split <;> simp_all
  rw [e, h.1]
  exact hu

set_option maxHeartbeats 1000000 in
theorem rng_sort {w : World} {B : Nat} {E : TypeId} {v : Value} {l : List Rg} (h : w.ownsRow B E 2 v l.length (rcells l)) (hl : l.length < 4611686018427387904) :
    Calls Try.prog 57 #[v, .func (.func 58) #[] #[]] w fun e w' => e = .returned (.tuple #[]) ∧ Go.RowKit.Below B w w' ∧ ∃ l', l'.Perm l ∧ Asc l' ∧ RngsR w' B w'.heap.size v l' := by
  have hr := RngsR.of_own h
  rcases h.2 with ⟨rfl, h0⟩ | ⟨g, cap, cur, rfl, hb, hg, hc, hm, _, _⟩
  · have e0 : l = [] := List.eq_nil_of_length_eq_zero h0
    subst e0
    have hcon := AnyF.slices_SortFunc_none Try.sortIv none 0 (.func (.func 58) #[] #[]) w
    exact hcon.mono fun e w' ⟨he, hw⟩ => ⟨he, by rw [hw]; exact Go.RowKit.Below.refl _ _, [], List.Perm.refl _, fun i j x y hi => by simp at hi, RngsR.nil _ _ _⟩
  · have eg : ∀ args w, (callFunc 58 args).run Try.prog w = .ok (.enter 58 args) w := enters_of Try.func58 (by kernel_rfl) rfl
    have hB : Blk w g E cur := hg
    have hH := sort_holds hr hB
    have hcon := AnyQ.slices_SortFunc Try.sortIv 2 Try.isAgg36 Try.sizeOf36 encRg (fun _ => rfl) (fun x v hv => by simp [encRg] at hv; rcases hv with rfl | rfl <;> rfl) (fun x y => cmpI x.1 y.1) sort_swo 58 #[] g 0 cap l.toArray w eg (sort_lays g 0 l.toArray.size w) hH hB.lt (by simpa using hl)
    simp only [List.size_toArray] at hcon
    refine hcon.mono ?_
    rintro e w' ⟨rfl, d', n, os, hp, hs, rfl⟩
    obtain ⟨hp1, _, hp2⟩ := hp
    have hsz : d'.size = l.length := by simpa using hp1
    have hH' := holdsK_sortWorldK_c encRg 2 w g 0 l.toArray d' n os hH hB.lt (by simpa using hsz)
    refine ⟨rfl, below_sortWorldK _ _ _ _ _ _ _ _ hb hB.lt, d'.toList, ?_, ?_, ?_⟩
    · have e1 : d'.extract 0 l.length = d' := by rw [← hsz]; simp
      have e2 : l.toArray.extract 0 l.length = l.toArray := by simp
      rw [e1, e2] at hp2
      simpa using hp2
    · intro i j x y hi hj hij
      have hj2 : j < d'.size := by
        rcases Nat.lt_or_ge j d'.size with h | h
        · exact h
        · simp [h] at hj
      have := hs i j (by omega) hij (by omega)
      rw [sort_lt] at this
      have hbi : i < d'.size := by omega
      have ei : d'[i]! = x := by
        rw [getElem!_pos d' i hbi]
        have h7 := hi
        rw [Array.getElem?_toList, Array.getElem?_eq_getElem hbi] at h7
        exact Option.some.inj h7
      have hbj : j < d'.size := by omega
      have ej : d'[j]! = y := by
        rw [getElem!_pos d' j hbj]
        have h7 := hj
        rw [Array.getElem?_toList, Array.getElem?_eq_getElem hbj] at h7
        exact Option.some.inj h7
      rw [ei, ej] at this
      simp at this
      omega
    · have := holds_rngs (E := E) (cap := cap) (lo := B) hH' (Nat.lt_of_lt_of_le hB.lt (size_sortWorldK_c _ _ _ _ _ _ _ _)) hb (by omega) hm
      rw [hsz] at this
      exact this
end Go.Proofs.Ytjdlfmcnjpiaoaa
