/- Old walks over sets (PlSet, Sort, SetW7, PlOf, SetAlive). -/
import Derived.Test.YtjdlfmcnjpiaoaaProg
import Derived.Test.YtjdlfmcnjpiaoaaSortLay
import Derived.Shelf.SlSortCmp.NoneTotal
import Derived.Test.YtjdlfmcnjpiaoaaOldC
/- Plain laws of sets as ranges: what values the functions of the package set, and those of its reference, leave; sets of the same values are the same lists. -/
namespace Go.Proofs.Ytjdlfmcnjpiaoaa.Old
set_option linter.unusedVariables false

/-- Ranges in order, with gaps. -/
def Wf : List Rg → Prop
  | [] => True
  | r :: l => r.1 ≤ r.2 ∧ (∀ s ∈ l, r.2 + 2 ≤ s.1) ∧ Wf l
def Mem (l : List Rg) (v : Int) : Prop := ∃ r ∈ l, r.1 ≤ v ∧ v ≤ r.2
def InBs (l : List Rg) : Prop := ∀ r ∈ l, -1048576 ≤ r.1 ∧ r.1 ≤ 1048576 ∧ -1048576 ≤ r.2 ∧ r.2 ≤ 1048576
theorem mem_nil (v : Int) : ¬ Mem [] v := by rintro ⟨r, h, _⟩; simp at h
theorem mem_cons (r : Rg) (l : List Rg) (v : Int) : Mem (r :: l) v ↔ (r.1 ≤ v ∧ v ≤ r.2) ∨ Mem l v := by
  unfold Mem; simp
theorem mem_append (l m : List Rg) (v : Int) : Mem (l ++ m) v ↔ Mem l v ∨ Mem m v := by
  unfold Mem
  simp only [List.mem_append]
  constructor
  · rintro ⟨r, h | h, h2⟩
    · exact .inl ⟨r, h, h2⟩
    · exact .inr ⟨r, h, h2⟩
  · rintro (⟨r, h, h2⟩ | ⟨r, h, h2⟩)
    · exact ⟨r, .inl h, h2⟩
    · exact ⟨r, .inr h, h2⟩
theorem wf_le {l : List Rg} (h : Wf l) : ∀ s ∈ l, s.1 ≤ s.2 := by
  induction l with
  | nil => simp
  | cons r l ih =>
    intro s hs
    simp only [List.mem_cons] at hs
    rcases hs with rfl | hs
    · exact h.1
    · exact ih h.2.2 s hs
theorem wf_append {l m : List Rg} (hl : Wf l) (hm : Wf m) (h : ∀ r ∈ l, ∀ s ∈ m, r.2 + 2 ≤ s.1) : Wf (l ++ m) := by
  induction l with
  | nil => exact hm
  | cons r l ih =>
    refine ⟨hl.1, fun s hs => ?_, ih hl.2.2 (fun r hr => h r (by simp [hr]))⟩
    have hs : s ∈ l ++ m := hs
    rw [List.mem_append] at hs
    rcases hs with hs | hs
    · exact hl.2.1 s hs
    · exact h r (by simp) s hs
/-- Sets of the same values are the same lists. -/
theorem wf_ext : ∀ {l m : List Rg}, Wf l → Wf m → (∀ v, Mem l v ↔ Mem m v) → l = m
  | [], [], _, _, _ => rfl
  | [], s :: m, _, hm, h => absurd ((h s.1).2 ⟨s, by simp, by omega, hm.1⟩) (mem_nil _)
  | r :: l, [], hl, _, h => absurd ((h r.1).1 ⟨r, by simp, by omega, hl.1⟩) (mem_nil _)
  | r :: l, s :: m, hl, hm, h => by
    have low : ∀ {t : Rg} {k : List Rg} {v : Int}, Wf (t :: k) → Mem (t :: k) v → t.1 ≤ v := by
      intro t k v ht hv
      rw [mem_cons] at hv
      rcases hv with hv | ⟨u, hu, h1, h2⟩
      · exact hv.1
      · have := ht.2.1 u hu; have := ht.1; omega
    have h1 : r.1 = s.1 := by
      have a := low hm ((h r.1).1 ⟨r, by simp, by omega, hl.1⟩)
      have b := low hl ((h s.1).2 ⟨s, by simp, by omega, hm.1⟩)
      omega
    have top : ∀ {t u : Rg} {k n : List Rg}, Wf (t :: k) → Wf (u :: n) → t.1 = u.1 → (∀ v, Mem (u :: n) v → Mem (t :: k) v) → u.2 ≤ t.2 := by
      intro t u k n ht hu he hv
      refine Decidable.byContradiction fun hlt => ?_
      have := hv (t.2 + 1) ⟨u, by simp, by have := ht.1; omega, by omega⟩
      rw [mem_cons] at this
      rcases this with h2 | ⟨w, hw, h2, h3⟩
      · omega
      · have := ht.2.1 w hw; omega
    have h2 : r.2 = s.2 := by
      have a := top hl hm h1 (fun v hv => (h v).2 hv)
      have b := top hm hl h1.symm (fun v hv => (h v).1 hv)
      omega
    have e : r = s := Prod.ext h1 h2
    subst e
    have tail : ∀ v, Mem l v ↔ Mem m v := by
      intro v
      have key : ∀ {k n : List Rg}, Wf (r :: k) → (∀ v, Mem (r :: k) v → Mem (r :: n) v) → Mem k v → Mem n v := by
        intro k n hk hv hm'
        obtain ⟨u, hu, h3, h4⟩ := hm'
        have h5 := hk.2.1 u hu
        have := hv v (by rw [mem_cons]; exact .inr ⟨u, hu, h3, h4⟩)
        rw [mem_cons] at this
        rcases this with h6 | h6
        · omega
        · exact h6
      exact ⟨key hl (fun v => (h v).1), key hm (fun v => (h v).2)⟩
    rw [wf_ext hl.2.2 hm.2.2 tail]

/-! ### Right -/
theorem wf_of_at : ∀ {l : List Rg}, (∀ (k : Nat) (x y : Int), l[k]? = some (x, y) → x ≤ y) → (∀ (k d : Nat) (x y x' y' : Int), l[k]? = some (x, y) → l[k + d + 1]? = some (x', y') → y + 2 ≤ x') → Wf l
  | [], _, _ => trivial
  | r :: l, h1, h2 => by
    refine ⟨h1 0 r.1 r.2 (by simp), fun s hs => ?_, wf_of_at (fun k x y h => h1 (k + 1) x y (by simpa using h)) (fun k d x y x' y' h h' => h2 (k + 1) d x y x' y' (by simpa using h) (by rw [show k + 1 + d + 1 = (k + d + 1) + 1 by omega]; simpa using h'))⟩
    obtain ⟨d, hd, rfl⟩ := List.getElem_of_mem hs
    exact h2 0 d r.1 r.2 _ _ (by simp) (by rw [show 0 + d + 1 = d + 1 by omega, List.getElem?_cons_succ]; exact List.getElem?_eq_getElem hd)
theorem right_wf {l : List Rg} (h : rightB l = true) : Wf l ∧ InBs l := by
  refine ⟨wf_of_at (fun k x y hk => (right_rg h hk).1) (fun k d x y x' y' h1 h2 => right_apart h h1 h2), fun r hr => ?_⟩
  obtain ⟨k, hk, rfl⟩ := List.getElem_of_mem hr
  have := right_rg h (x := l[k].1) (y := l[k].2) (List.getElem?_eq_getElem hk)
  omega
theorem wf_right {l : List Rg} (h : Wf l) (hb : InBs l) : rightB l = true := by
  have gap : ∀ {l : List Rg} {k : Nat} {r s : Rg}, Wf l → l[k]? = some r → l[k + 1]? = some s → r.2 + 2 ≤ s.1 := by
    intro l
    induction l with
    | nil => intro k r s _ h; simp at h
    | cons t l ih =>
      intro k r s hw h1 h2
      cases k with
      | zero =>
        simp at h1 h2
        subst h1
        cases l with
        | nil => simp at h2
        | cons u l' => simp at h2; exact hw.2.1 s (by simp [h2])
      | succ k => exact ih hw.2.2 (by simpa using h1) (by simpa using h2)
  refine rightB_yes fun k hk => ?_
  obtain ⟨x, y, hxy⟩ := at_rg hk
  have hm := mem_at hxy
  have h1 := wf_le h _ hm
  have h2 := hb _ hm
  simp only at h1 h2
  have g1 : decide (y < x) = false := by simp; omega
  have g2 : withinB x = true := withinB_iff.2 (by omega)
  have g3 : withinB y = true := withinB_iff.2 (by omega)
  by_cases h0 : k = 0
  · exact ok_4 hxy g1 g2 g3 h0
  · obtain ⟨x', y', hxy'⟩ := at_rg (l := l) (k := k - 1) (by omega)
    have := gap h hxy' (by rw [show k - 1 + 1 = k by omega]; exact hxy)
    simp only at this
    rw [ok_5 (b := false) hxy g1 g2 g3 h0 hxy' (by simp; omega)]
    rfl
theorem right_iff {l : List Rg} : rightB l = true ↔ Wf l ∧ InBs l := ⟨right_wf, fun h => wf_right h.1 h.2⟩
theorem right_ext {l m : List Rg} (hl : rightB l = true) (hm : rightB m = true) (h : ∀ v, Mem l v ↔ Mem m v) : l = m := wf_ext (right_wf hl).1 (right_wf hm).1 h

/-! ### cuts -/
/-- Each range of the one list lies within one of the other. -/
def Within (m l : List Rg) : Prop := ∀ s ∈ m, s.1 ≤ s.2 ∧ ∃ r ∈ l, r.1 ≤ s.1 ∧ s.2 ≤ r.2
theorem Within.nil (l : List Rg) : Within [] l := fun s h => by simp at h
theorem Within.more {m l : List Rg} {r : Rg} (h : Within m l) : Within m (r :: l) := fun s hs => by
  obtain ⟨h1, t, ht, h2⟩ := h s hs
  exact ⟨h1, t, by simp [ht], h2⟩
theorem Within.cons {m l : List Rg} {r s : Rg} (h : Within m l) (h0 : s.1 ≤ s.2) (h1 : r.1 ≤ s.1) (h2 : s.2 ≤ r.2) : Within (s :: m) (r :: l) := fun t ht => by
  simp only [List.mem_cons] at ht
  rcases ht with rfl | ht
  · exact ⟨h0, r, by simp, h1, h2⟩
  · exact h.more t ht
theorem Within.inB {m l : List Rg} (h : Within m l) (hb : InBs l) : InBs m := fun s hs => by
  obtain ⟨h1, r, hr, h2, h3⟩ := h s hs
  have := hb r hr
  omega
/-- A range ahead of ranges that lie within what is behind. -/
theorem wf_ahead {m l : List Rg} {r s : Rg} (hw : Wf (r :: l)) (hm : Wf m) (h : Within m l) (h0 : s.1 ≤ s.2) (h2 : s.2 ≤ r.2) : Wf (s :: m) := by
  refine ⟨h0, fun t ht => ?_, hm⟩
  obtain ⟨_, u, hu, h3, _⟩ := h t ht
  have := hw.2.1 u hu
  omega
theorem cut_facts (lo hi : Int) : ∀ {l : List Rg}, Wf l → Wf (cutGo lo hi l) ∧ Within (cutGo lo hi l) l ∧ ∀ v, Mem (cutGo lo hi l) v ↔ Mem l v ∧ lo ≤ v ∧ v ≤ hi
  | [], _ => ⟨trivial, Within.nil _, fun v => ⟨fun h => absurd h (mem_nil _), fun h => absurd h.1 (mem_nil _)⟩⟩
  | r :: l, hw => by
    obtain ⟨h1, h2, h3⟩ := cut_facts lo hi hw.2.2
    unfold cutGo
    by_cases c1 : hi < r.1
    · rw [if_pos c1]
      refine ⟨trivial, Within.nil _, fun v => ⟨fun h => absurd h (mem_nil _), fun h => ?_⟩⟩
      exfalso
      obtain ⟨hm, _, hv⟩ := h
      rw [mem_cons] at hm
      rcases hm with hm | ⟨u, hu, h4, _⟩
      · omega
      · have := hw.2.1 u hu; have := hw.1; omega
    · rw [if_neg c1]
      by_cases c2 : max r.1 lo ≤ min r.2 hi
      · rw [if_pos c2]
        refine ⟨wf_ahead hw h1 h2 c2 (by simp only; omega), h2.cons c2 (by simp only; omega) (by simp only; omega), fun v => ?_⟩
        rw [mem_cons, mem_cons, h3]
        simp only
        constructor
        · rintro (h | h)
          · exact ⟨.inl (by omega), by omega, by omega⟩
          · exact ⟨.inr h.1, h.2⟩
        · rintro ⟨h | h, h4, h5⟩
          · exact .inl (by omega)
          · exact .inr ⟨h, h4, h5⟩
      · rw [if_neg c2]
        refine ⟨h1, h2.more, fun v => ?_⟩
        rw [mem_cons, h3]
        constructor
        · rintro ⟨h, h4, h5⟩
          exact ⟨.inr h, h4, h5⟩
        · rintro ⟨h | h, h4, h5⟩
          · omega
          · exact ⟨h, h4, h5⟩
theorem rcut_facts (lo hi : Int) : ∀ {l : List Rg}, Wf l → Wf (rcutGo lo hi l) ∧ Within (rcutGo lo hi l) l ∧ ∀ v, Mem (rcutGo lo hi l) v ↔ Mem l v ∧ lo ≤ v ∧ v ≤ hi
  | [], _ => ⟨trivial, Within.nil _, fun v => ⟨fun h => absurd h (mem_nil _), fun h => absurd h.1 (mem_nil _)⟩⟩
  | r :: l, hw => by
    obtain ⟨h1, h2, h3⟩ := rcut_facts lo hi hw.2.2
    unfold rcutGo
    by_cases c2 : max lo r.1 ≤ min hi r.2
    · rw [if_pos c2]
      refine ⟨wf_ahead hw h1 h2 c2 (by simp only; omega), h2.cons c2 (by simp only; omega) (by simp only; omega), fun v => ?_⟩
      rw [mem_cons, mem_cons, h3]
      simp only
      constructor
      · rintro (h | h)
        · exact ⟨.inl (by omega), by omega, by omega⟩
        · exact ⟨.inr h.1, h.2⟩
      · rintro ⟨h | h, h4, h5⟩
        · exact .inl (by omega)
        · exact .inr ⟨h, h4, h5⟩
    · rw [if_neg c2]
      refine ⟨h1, h2.more, fun v => ?_⟩
      rw [mem_cons, h3]
      constructor
      · rintro ⟨h, h4, h5⟩
        exact ⟨.inr h, h4, h5⟩
      · rintro ⟨h | h, h4, h5⟩
        · omega
        · exact ⟨h, h4, h5⟩
theorem Within.drop {m l : List Rg} {n : Nat} (h : Within m (l.drop n)) : Within m l := fun s hs => by
  obtain ⟨h1, r, hr, h2⟩ := h s hs
  exact ⟨h1, r, List.mem_of_mem_drop hr, h2⟩
theorem wf_drop : ∀ {l : List Rg} (n : Nat), Wf l → Wf (l.drop n)
  | l, 0, h => h
  | [], n + 1, h => h
  | r :: l, n + 1, h => wf_drop n h.2.2
theorem mem_from (lo : Int) : ∀ {l : List Rg} {v : Int}, lo ≤ v → (Mem (l.drop (fromN lo l)) v ↔ Mem l v)
  | [], v, _ => Iff.rfl
  | r :: l, v, h => by
    unfold fromN
    split
    · rw [List.drop_succ_cons, mem_from lo h, mem_cons]
      constructor
      · exact .inr
      · rintro (h1 | h1)
        · omega
        · exact h1
    · rfl
theorem cutS_facts (lo hi : Int) {l : List Rg} (h : rightB l = true) : rightB (cutS lo hi l) = true ∧ ∀ v, Mem (cutS lo hi l) v ↔ Mem l v ∧ lo ≤ v ∧ v ≤ hi := by
  obtain ⟨hw, hb⟩ := right_wf h
  unfold cutS
  rw [if_pos h]
  obtain ⟨h1, h2, h3⟩ := cut_facts lo hi (wf_drop (fromN lo l) hw)
  refine ⟨wf_right h1 (h2.drop.inB hb), fun v => ?_⟩
  rw [h3]
  constructor
  · rintro ⟨h4, h5, h6⟩
    exact ⟨(mem_from lo h5).1 h4, h5, h6⟩
  · rintro ⟨h4, h5, h6⟩
    exact ⟨(mem_from lo h5).2 h4, h5, h6⟩
theorem rcutS_facts (lo hi : Int) {l : List Rg} (h : rightB l = true) : rightB (rcutS lo hi l) = true ∧ ∀ v, Mem (rcutS lo hi l) v ↔ Mem l v ∧ lo ≤ v ∧ v ≤ hi := by
  obtain ⟨hw, hb⟩ := right_wf h
  unfold rcutS
  rw [if_pos h]
  obtain ⟨h1, h2, h3⟩ := rcut_facts lo hi hw
  exact ⟨wf_right h1 (h2.inB hb), h3⟩
theorem cut_eq (lo hi : Int) (l : List Rg) : cutS lo hi l = rcutS lo hi l := by
  by_cases h : rightB l = true
  · obtain ⟨h1, h2⟩ := cutS_facts lo hi h
    obtain ⟨h3, h4⟩ := rcutS_facts lo hi h
    exact right_ext h1 h3 (fun v => (h2 v).trans (h4 v).symm)
  · unfold cutS rcutS
    rw [if_neg h, if_neg h]

/-! ### Has, Next -/
theorem mem_at_from {v : Int} : ∀ {l : List Rg}, Wf l → (Mem l v ↔ ∃ x y, l[fromN v l]? = some (x, y) ∧ x ≤ v)
  | [], _ => ⟨fun h => absurd h (mem_nil _), fun ⟨x, y, h, _⟩ => by simp at h⟩
  | r :: l, hw => by
    unfold fromN
    rw [mem_cons]
    by_cases h : r.2 < v
    · rw [if_pos h]
      simp only [List.getElem?_cons_succ]
      rw [← mem_at_from hw.2.2]
      constructor
      · rintro (h1 | h1)
        · omega
        · exact h1
      · exact .inr
    · rw [if_neg h]
      simp only [List.getElem?_cons_zero, Option.some.injEq]
      constructor
      · rintro (h1 | ⟨u, hu, h1, h2⟩)
        · exact ⟨r.1, r.2, rfl, h1.1⟩
        · exact ⟨r.1, r.2, rfl, by have := hw.2.1 u hu; have := hw.1; omega⟩
      · rintro ⟨x, y, rfl, h1⟩
        exact .inl ⟨h1, by simp only at h ⊢; omega⟩
theorem has_iff {l : List Rg} {v : Int} : hasB l v = true ↔ rightB l = true ∧ Mem l v := by
  by_cases hr : rightB l = true
  · unfold hasB nextB nextV
    rw [if_pos hr, hr, mem_at_from (right_wf hr).1]
    cases hg : l[fromN v l]? with
    | none =>
      have : l.length ≤ fromN v l := List.getElem?_eq_none_iff.1 hg
      simp; omega
    | some r =>
      have : fromN v l < l.length := (List.getElem?_eq_some_iff.1 hg).1
      simp only [Bool.true_and, Bool.and_eq_true, decide_eq_true_eq, beq_iff_eq, true_and, Option.some.injEq]
      constructor
      · rintro ⟨_, h⟩
        exact ⟨r.1, r.2, rfl, by omega⟩
      · rintro ⟨x, y, rfl, h⟩
        exact ⟨this, by simp only; omega⟩
  · unfold hasB nextB
    simp [hr]
theorem rhas_iff {l : List Rg} {v : Int} : rhasB l v = true ↔ rightB l = true ∧ Mem l v := by
  unfold rhasB Mem
  simp [and_comm]
theorem has_eq (l : List Rg) (v : Int) : hasB l v = rhasB l v := by
  rw [Bool.eq_iff_iff, has_iff, rhas_iff]

/-! ### Without -/
theorem withoutS_facts (v : Int) {l : List Rg} (h : rightB l = true) : rightB (withoutS v l) = true ∧ ∀ u, Mem (withoutS v l) u ↔ Mem l u ∧ u ≠ v := by
  unfold withoutS
  split
  · rename_i hh
    have hm := (has_iff.1 hh).2
    obtain ⟨hw, hb⟩ := right_wf h
    obtain ⟨h1, h2⟩ := cutS_facts (-1048576) (v - 1) h
    obtain ⟨h3, h4⟩ := cutS_facts (v + 1) 1048576 h
    have bnd : ∀ u, Mem l u → -1048576 ≤ u ∧ u ≤ 1048576 := by
      rintro u ⟨r, hr, h5, h6⟩
      have := hb r hr
      omega
    refine ⟨wf_right (wf_append (right_wf h1).1 (right_wf h3).1 (fun r hr s hs => ?_)) (fun r hr => ?_), fun u => ?_⟩
    · have a := (h2 r.2).1 ⟨r, hr, wf_le (right_wf h1).1 r hr, by omega⟩
      have b := (h4 s.1).1 ⟨s, hs, by omega, wf_le (right_wf h3).1 s hs⟩
      omega
    · rw [List.mem_append] at hr
      rcases hr with hr | hr
      · exact (right_wf h1).2 r hr
      · exact (right_wf h3).2 r hr
    · rw [mem_append, h2, h4]
      constructor
      · rintro (⟨h5, h6⟩ | ⟨h5, h6⟩)
        · exact ⟨h5, by omega⟩
        · exact ⟨h5, by omega⟩
      · rintro ⟨h5, h6⟩
        have := bnd u h5
        rcases Int.lt_or_gt_of_ne h6 with h7 | h7
        · exact .inl ⟨h5, by omega, by omega⟩
        · exact .inr ⟨h5, by omega, by omega⟩
  · rename_i hh
    refine ⟨h, fun u => ⟨fun hu => ⟨hu, ?_⟩, fun hu => hu.1⟩⟩
    rintro rfl
    exact hh (has_iff.2 ⟨h, hu⟩)
theorem Within.append {m n l : List Rg} (h1 : Within m l) (h2 : Within n l) : Within (m ++ n) l := fun s hs => by
  rw [List.mem_append] at hs
  rcases hs with hs | hs
  · exact h1 s hs
  · exact h2 s hs
theorem rwithout_facts (v : Int) : ∀ {l : List Rg}, Wf l → Wf (rwithoutGo v l) ∧ Within (rwithoutGo v l) l ∧ ∀ u, Mem (rwithoutGo v l) u ↔ Mem l u ∧ u ≠ v
  | [], _ => ⟨trivial, Within.nil _, fun u => ⟨fun h => absurd h (mem_nil _), fun h => absurd h.1 (mem_nil _)⟩⟩
  | r :: l, hw => by
    obtain ⟨h1, h2, h3⟩ := rwithout_facts v hw.2.2
    have hle := hw.1
    have one : ∀ (p q : Int), p ≤ q → r.1 ≤ p → q ≤ r.2 → Within [(p, q)] (r :: l) := fun p q h4 h5 h6 s hs => by
      simp at hs
      subst hs
      exact ⟨h4, r, by simp, h5, h6⟩
    have ahead : ∀ s ∈ rwithoutGo v l, r.2 + 2 ≤ s.1 := fun s hs => by
      obtain ⟨_, u, hu, h4, _⟩ := h2 s hs
      have := hw.2.1 u hu
      omega
    obtain ⟨F, hF⟩ : ∃ F, F = (if v < r.1 ∨ r.2 < v then [r] else (if r.1 < v then [(r.1, v - 1)] else []) ++ (if v < r.2 then [(v + 1, r.2)] else [])) := ⟨_, rfl⟩
    have key : Wf F ∧ Within F (r :: l) ∧ (∀ s ∈ F, s.2 ≤ r.2) ∧ ∀ u, Mem F u ↔ (r.1 ≤ u ∧ u ≤ r.2) ∧ u ≠ v := by
      rw [hF]
      by_cases c : v < r.1 ∨ r.2 < v
      · rw [if_pos c]
        refine ⟨⟨hle, by simp, trivial⟩, one r.1 r.2 hle (by omega) (by omega), by simp, fun u => ?_⟩
        rw [mem_cons]
        constructor
        · rintro (h | h)
          · exact ⟨h, by omega⟩
          · exact absurd h (mem_nil _)
        · exact fun h => .inl h.1
      · rw [if_neg c]
        by_cases c1 : r.1 < v <;> by_cases c2 : v < r.2
        · rw [if_pos c1, if_pos c2]
          refine ⟨⟨by simp only; omega, by simp; omega, by simp only; omega, by simp, trivial⟩, (one r.1 (v - 1) (by omega) (by omega) (by omega)).append (one (v + 1) r.2 (by omega) (by omega) (by omega)), by simp; omega, fun u => ?_⟩
          simp only [List.singleton_append, mem_cons]
          constructor
          · rintro (h | h | h)
            · omega
            · omega
            · exact absurd h (mem_nil _)
          · rintro ⟨h, h4⟩
            rcases Int.lt_or_gt_of_ne h4 with h5 | h5
            · exact .inl (by omega)
            · exact .inr (.inl (by omega))
        · rw [if_pos c1, if_neg c2]
          refine ⟨⟨by simp only; omega, by simp, trivial⟩, one r.1 (v - 1) (by omega) (by omega) (by omega), by simp; omega, fun u => ?_⟩
          simp only [List.append_nil, mem_cons]
          constructor
          · rintro (h | h)
            · omega
            · exact absurd h (mem_nil _)
          · exact fun h => .inl (by omega)
        · rw [if_neg c1, if_pos c2]
          refine ⟨⟨by simp only; omega, by simp, trivial⟩, one (v + 1) r.2 (by omega) (by omega) (by omega), by simp, fun u => ?_⟩
          simp only [List.nil_append, mem_cons]
          constructor
          · rintro (h | h)
            · omega
            · exact absurd h (mem_nil _)
          · exact fun h => .inl (by omega)
        · rw [if_neg c1, if_neg c2]
          refine ⟨trivial, Within.nil _, by simp, fun u => ⟨fun h => absurd h (mem_nil _), fun h => by omega⟩⟩
    obtain ⟨k1, k2, k3, k4⟩ := key
    unfold rwithoutGo
    rw [← hF]
    refine ⟨wf_append k1 h1 (fun s hs t ht => by have := k3 s hs; have := ahead t ht; omega), k2.append h2.more, fun u => ?_⟩
    rw [mem_append, k4, h3, mem_cons]
    constructor
    · rintro (⟨h, h4⟩ | ⟨h, h4⟩)
      · exact ⟨.inl h, h4⟩
      · exact ⟨.inr h, h4⟩
    · rintro ⟨h | h, h4⟩
      · exact .inl ⟨h, h4⟩
      · exact .inr ⟨h, h4⟩
theorem without_eq (v : Int) (l : List Rg) : withoutS v l = rwithoutS v l := by
  by_cases h : rightB l = true
  · obtain ⟨h1, h2⟩ := withoutS_facts v h
    obtain ⟨hw, hb⟩ := right_wf h
    obtain ⟨h3, h4, h5⟩ := rwithout_facts v hw
    unfold rwithoutS
    rw [if_pos h]
    exact right_ext h1 (wf_right h3 (h4.inB hb)) (fun u => (h2 u).trans (h5 u).symm)
  · have hn : ¬ hasB l v = true := fun hh => h (has_iff.1 hh).1
    unfold withoutS rwithoutS
    rw [if_neg hn, if_neg h, if_neg h]

/-! ### Meet -/
theorem meet_facts : ∀ (f : Nat) {a b : List Rg}, a.length + b.length ≤ f → Wf a → Wf b → Wf (meetGo f a b) ∧ Within (meetGo f a b) a ∧ Within (meetGo f a b) b ∧ ∀ v, Mem (meetGo f a b) v ↔ Mem a v ∧ Mem b v
  | 0, a, b, hf, _, _ => by
    have ha : a = [] := List.eq_nil_of_length_eq_zero (by omega)
    subst ha
    exact ⟨trivial, Within.nil _, Within.nil _, fun v => ⟨fun h => absurd h (mem_nil _), fun h => absurd h.1 (mem_nil _)⟩⟩
  | f + 1, [], b, _, _, _ => ⟨trivial, Within.nil _, Within.nil _, fun v => ⟨fun h => absurd h (mem_nil _), fun h => absurd h.1 (mem_nil _)⟩⟩
  | f + 1, x :: a, [], _, _, _ => ⟨trivial, Within.nil _, Within.nil _, fun v => ⟨fun h => absurd h (mem_nil _), fun h => absurd h.2 (mem_nil _)⟩⟩
  | f + 1, x :: a, y :: b, hf, ha, hb => by
    unfold meetGo
    simp only [List.length_cons] at hf
    obtain ⟨r, hr⟩ : ∃ r : Rg, r = (max x.1 y.1, min x.2 y.2) := ⟨_, rfl⟩
    rw [← hr]
    have e1 : r.1 = max x.1 y.1 := by rw [hr]
    have e2 : r.2 = min x.2 y.2 := by rw [hr]
    rw [show max x.1 y.1 = r.1 from e1.symm, show min x.2 y.2 = r.2 from e2.symm]
    have hx := ha.1
    have hy := hb.1
    have step : ∀ G : List Rg, Wf G → Within G (x :: a) → Within G (y :: b) → (∀ s ∈ G, min x.2 y.2 + 2 ≤ s.1) → (∀ v, Mem G v ↔ (Mem (x :: a) v ∧ Mem (y :: b) v) ∧ min x.2 y.2 < v) →
        Wf ((if r.1 ≤ r.2 then [r] else []) ++ G) ∧ Within ((if r.1 ≤ r.2 then [r] else []) ++ G) (x :: a) ∧ Within ((if r.1 ≤ r.2 then [r] else []) ++ G) (y :: b) ∧ ∀ v, Mem ((if r.1 ≤ r.2 then [r] else []) ++ G) v ↔ Mem (x :: a) v ∧ Mem (y :: b) v := by
      intro G g1 g2 g3 g4 g5
      have low : ∀ {t : Rg} {k : List Rg} {v : Int}, Wf (t :: k) → Mem (t :: k) v → t.1 ≤ v ∧ (v ≤ t.2 ∨ t.2 + 2 ≤ v) := by
        intro t k v ht hv
        rw [mem_cons] at hv
        rcases hv with hv | ⟨u, hu, h1, h2⟩
        · omega
        · have := ht.2.1 u hu; have := ht.1; omega
      by_cases c : r.1 ≤ r.2
      · rw [if_pos c]
        refine ⟨⟨c, fun s hs => by rw [e2]; exact g4 s hs, g1⟩, fun s hs => ?_, fun s hs => ?_, fun v => ?_⟩
        · simp only [List.singleton_append, List.mem_cons] at hs
          rcases hs with rfl | hs
          · exact ⟨c, x, by simp, by omega, by omega⟩
          · exact g2 s hs
        · simp only [List.singleton_append, List.mem_cons] at hs
          rcases hs with rfl | hs
          · exact ⟨c, y, by simp, by omega, by omega⟩
          · exact g3 s hs
        · simp only [List.singleton_append]
          rw [mem_cons, g5]
          constructor
          · rintro (h | h)
            · exact ⟨(mem_cons _ _ _).2 (.inl (by omega)), (mem_cons _ _ _).2 (.inl (by omega))⟩
            · exact h.1
          · intro h
            by_cases hv : min x.2 y.2 < v
            · exact .inr ⟨h, hv⟩
            · have := low ha h.1
              have := low hb h.2
              exact .inl (by omega)
      · rw [if_neg c]
        refine ⟨g1, g2, g3, fun v => ?_⟩
        simp only [List.nil_append]
        rw [g5]
        constructor
        · exact fun h => h.1
        · intro h
          have := low ha h.1
          have := low hb h.2
          exact ⟨h, by omega⟩
    by_cases c : x.2 < y.2
    · rw [if_pos c]
      obtain ⟨g1, g2, g3, g4⟩ := meet_facts f (a := a) (b := y :: b) (by simp; omega) ha.2.2 hb
      refine step _ g1 g2.more g3 (fun s hs => ?_) (fun v => ?_)
      · obtain ⟨_, u, hu, h1, _⟩ := g2 s hs
        have := ha.2.1 u hu
        omega
      · rw [g4, mem_cons x a v]
        constructor
        · rintro ⟨⟨u, hu, h1, h2⟩, h3⟩
          have := ha.2.1 u hu
          exact ⟨⟨.inr ⟨u, hu, h1, h2⟩, h3⟩, by omega⟩
        · rintro ⟨⟨h1 | h1, h2⟩, h3⟩
          · omega
          · exact ⟨h1, h2⟩
    · rw [if_neg c]
      obtain ⟨g1, g2, g3, g4⟩ := meet_facts f (a := x :: a) (b := b) (by simp; omega) ha hb.2.2
      refine step _ g1 g2 g3.more (fun s hs => ?_) (fun v => ?_)
      · obtain ⟨_, u, hu, h1, _⟩ := g3 s hs
        have := hb.2.1 u hu
        omega
      · rw [g4, mem_cons y b v]
        constructor
        · rintro ⟨h3, ⟨u, hu, h1, h2⟩⟩
          have := hb.2.1 u hu
          exact ⟨⟨h3, .inr ⟨u, hu, h1, h2⟩⟩, by omega⟩
        · rintro ⟨⟨h2, h1 | h1⟩, h3⟩
          · omega
          · exact ⟨h2, h1⟩
theorem meetS_facts {a b : List Rg} (ha : rightB a = true) (hb : rightB b = true) : rightB (meetS a b) = true ∧ ∀ v, Mem (meetS a b) v ↔ Mem a v ∧ Mem b v := by
  obtain ⟨wa, ba⟩ := right_wf ha
  obtain ⟨wb, bb⟩ := right_wf hb
  obtain ⟨h1, h2, _, h3⟩ := meet_facts _ (Nat.le_refl _) wa wb
  unfold meetS
  rw [ha, hb]
  exact ⟨wf_right h1 (h2.inB ba), h3⟩
theorem rmeet_facts {a : List Rg} (ha : rightB a = true) : ∀ {b : List Rg}, Wf b → Wf (rmeetGo a b) ∧ Within (rmeetGo a b) b ∧ InBs (rmeetGo a b) ∧ ∀ v, Mem (rmeetGo a b) v ↔ Mem a v ∧ Mem b v
  | [], _ => ⟨trivial, Within.nil _, fun r h => by simp [rmeetGo] at h, fun v => ⟨fun h => absurd h (mem_nil _), fun h => absurd h.2 (mem_nil _)⟩⟩
  | r :: b, hb => by
    obtain ⟨h1, h2, h3, h4⟩ := rmeet_facts ha hb.2.2
    obtain ⟨k1, k2⟩ := rcutS_facts r.1 r.2 ha
    obtain ⟨kw, kb⟩ := right_wf k1
    unfold rmeetGo
    have inr : ∀ s ∈ rcutS r.1 r.2 a, s.1 ≤ s.2 ∧ r.1 ≤ s.1 ∧ s.2 ≤ r.2 := fun s hs => by
      have hle := wf_le kw s hs
      have a1 := (k2 s.1).1 ⟨s, hs, by omega, hle⟩
      have a2 := (k2 s.2).1 ⟨s, hs, hle, by omega⟩
      omega
    refine ⟨wf_append kw h1 (fun s hs t ht => ?_), fun s hs => ?_, fun s hs => ?_, fun v => ?_⟩
    · have := inr s hs
      obtain ⟨_, u, hu, h5, _⟩ := h2 t ht
      have := hb.2.1 u hu
      omega
    · rw [List.mem_append] at hs
      rcases hs with hs | hs
      · have := inr s hs
        exact ⟨this.1, r, by simp, this.2⟩
      · exact h2.more s hs
    · rw [List.mem_append] at hs
      rcases hs with hs | hs
      · exact kb s hs
      · exact h3 s hs
    · rw [mem_append, k2, h4, mem_cons]
      constructor
      · rintro (⟨h5, h6⟩ | ⟨h5, h6⟩)
        · exact ⟨h5, .inl h6⟩
        · exact ⟨h5, .inr h6⟩
      · rintro ⟨h5, h6 | h6⟩
        · exact .inl ⟨h5, h6⟩
        · exact .inr ⟨h5, h6⟩
theorem meet_eq (a b : List Rg) : meetS a b = rmeetS a b := by
  by_cases ha : rightB a = true
  · by_cases hb : rightB b = true
    · obtain ⟨h1, h2⟩ := meetS_facts ha hb
      obtain ⟨h3, _, h4, h5⟩ := rmeet_facts ha (right_wf hb).1
      unfold rmeetS
      rw [ha, hb]
      exact right_ext h1 (wf_right h3 h4) (fun v => (h2 v).trans (h5 v).symm)
    · unfold meetS rmeetS; simp [hb]
  · unfold meetS rmeetS; simp [ha]
theorem same_eq (a b : List Rg) : (rightB a && decide (a = b)) = rsameB a b := by
  unfold rsameB
  by_cases h : a = b
  · subst h; simp
  · simp [h]
end Go.Proofs.Ytjdlfmcnjpiaoaa.Old
/- slices.SortFunc over ranges, as set.Of calls it: the row is sorted by its ranges' lower ends. -/
namespace Go.Proofs.Ytjdlfmcnjpiaoaa.Old
open Go.RowKit Go.Shelf Go.Lib Go.Sort
set_option linter.unusedVariables false

def encRg (x : Rg) : List Value := [.int .i64 x.1, .int .i64 x.2]

set_option maxHeartbeats 1000000 in
theorem sort_closure (x y : Rg) (W : World) : Calls Try.prog 58 #[.agg #[.int .i64 x.1, .int .i64 x.2], .agg #[.int .i64 y.1, .int .i64 y.2]] W fun e w' => e = .returned (.int .i64 (cmpI x.1 y.1)) ∧ ∃ q os', w' = grow (W.drewN q) os' := by
  have hcon := fun W' => cmp_compare x.1 y.1 W'
  generalize cmpI x.1 y.1 = r at hcon ⊢
  go_enter Try.func58, Try.ntmps58
  go_wp2_with (go_at_call 59; refine (hcon _).mono ?_; rintro e w' ⟨rfl, n1, rfl⟩)
  go_ret
  refine ⟨rfl, n1, #[Obj.cells #[.int .i64 x.1, .int .i64 x.2] 36 (0, 0)] ++ #[Obj.cells #[.int .i64 y.1, .int .i64 y.2] 36 (0, 0)], ?_⟩
  rw [alloc_eq_grow, alloc_eq_grow, grow_grow]
  rfl

theorem sort_lays (blk off size : Nat) (w : World) : CmpLays Try.prog 58 #[] encRg 2 (fun x y => cmpI x.1 y.1) blk off size w :=
  fun _ _ _ _ x y => sort_closure x y _

theorem sort_lt (x y : Rg) : ltOf (fun x y : Rg => cmpI x.1 y.1) x y = decide (x.1 < y.1) := by
  unfold ltOf cmpI
  by_cases h1 : x.1 < y.1
  · simp [h1]
  · by_cases h2 : y.1 < x.1 <;> simp [h1, h2]

theorem sort_swo : SWO (ltOf fun x y : Rg => cmpI x.1 y.1) where
  irrefl x := by rw [sort_lt]; simp
  trans x y z h1 h2 := by rw [sort_lt] at *; simp at *; omega
  ntrans x y z h1 h2 := by rw [sort_lt] at *; simp at *; omega

/-- Ascending by the lower ends. -/
def Asc (l : List Rg) : Prop := ∀ (i j : Nat) (x y : Rg), l[i]? = some x → l[j]? = some y → i < j → x.1 ≤ y.1

theorem below_sortWorldK {B : Nat} (enc : Rg → List Value) (k : Nat) (w : World) (blk off n : Nat) (d : Array Rg) (os : Array Obj) (hb : B ≤ blk) (hblk : blk < w.heap.size) :
    Go.RowKit.Below B w (sortWorldK enc k w blk off n d os) := by
  refine ⟨rfl, rfl, rfl, size_sortWorldK_c _ _ _ _ _ _ _ _, fun i hi => ?_⟩
  show ((w.heap.modify blk _) ++ os)[i]? = w.heap[i]?
  rw [Array.getElem?_append, if_pos (by simp; omega), Array.getElem?_modify, if_neg (by omega)]

theorem flat_at (d : Array Rg) (j : Nat) (hj : j < d.size * 2) : (rcells d.toList)[j]? = some ((encRg d[j / 2]!)[j % 2]!) := by
  have hk : j / 2 < d.size := by omega
  have hg : d[j / 2]! = d[j / 2] := getElem!_pos d (j / 2) hk
  have h := rcells_at d.toList (j / 2) d[j / 2].1 d[j / 2].2 (by simp [hk])
  rw [hg]
  generalize hr : d[j / 2] = r at h
  rcases Nat.mod_two_eq_zero_or_one j with h2 | h2
  · have e : j / 2 * 2 = j := by omega
    rw [e] at h
    rw [h.1, h2]; rfl
  · have e : j / 2 * 2 + 1 = j := by omega
    rw [e] at h
    rw [h.2, h2]; rfl

theorem sort_holds {w : World} {g cap : Nat} {lo hi : Nat} {l : List Rg} {E : TypeId} {cur : Array Value} (hr : RngsR w lo hi (.slice (some ⟨g, 0, none⟩) l.length cap) l) (hb : Blk w g E cur) : HoldsK encRg 2 w g 0 l.toArray := by
  intro j hj
  rw [size_flatK] at hj
  rw [get_flatK _ _ _ _ hj]
  refine ⟨?_, hb.frozen _⟩
  have h := flat_at l.toArray j hj
  obtain ⟨A, c, h1, h2, h3, h4, h5⟩ := hr
  cases h1
  obtain ⟨a, ha, _, _, h6⟩ := h5 (by simp at hj; omega)
  cases ha
  have := h6 j _ h
  have e : (⟨g, 0, none⟩ : Addr).add j = ⟨g, 0 + j, none⟩ := by unfold Addr.add; split <;> simp_all
  rw [e] at this
  exact this

theorem holds_rngs {w : World} {g cap lo : Nat} {d : Array Rg} {E : TypeId} (hH : HoldsK encRg 2 w g 0 d) (hg : g < w.heap.size) (hlo : lo ≤ g) (hc : d.size ≤ cap) (hm : cap ≤ maxLen) : RngsR w lo w.heap.size (.slice (some ⟨g, 0, none⟩) d.size cap) d.toList := by
  refine ⟨some ⟨g, 0, none⟩, cap, by simp, by simpa using hc, hm, ⟨rcells_length _, fun h => by cases h⟩, fun hn => ⟨_, rfl, hlo, hg, fun j u hu => ?_⟩⟩
  have hj := rcells_get hu
  simp at hj
  have h := hH j (by rw [size_flatK]; exact hj)
  rw [get_flatK _ _ _ _ hj] at h
  rw [flat_at d j hj] at hu
  have e : (⟨g, 0, none⟩ : Addr).add j = ⟨g, 0 + j, none⟩ := by unfold Addr.add; split <;> simp_all
  rw [e, h.1]
  exact hu

set_option maxHeartbeats 1000000 in
theorem rng_sort {w : World} {B : Nat} {E : TypeId} {v : Value} {l : List Rg} (h : w.ownsRow B E 2 v l.length (rcells l)) (hl : l.length < 4611686018427387904) :
    Calls Try.prog 57 #[v, .func (.func 58) #[] #[]] w fun e w' => e = .returned (.tuple #[]) ∧ Go.RowKit.Below B w w' ∧ ∃ l', l'.Perm l ∧ Asc l' ∧ RngsR w' B w'.heap.size v l' := by
  have hr := RngsR.of_own h
  rcases h.2 with ⟨rfl, h0⟩ | ⟨g, cap, cur, rfl, hb, hg, hc, hm, _, _⟩
  · have e0 : l = [] := List.eq_nil_of_length_eq_zero h0
    subst e0
    have hcon := AnyF.slices_SortFunc_none Try.sortIv none 0 (.func (.func 58) #[] #[]) w
    exact hcon.mono fun e w' ⟨he, hw⟩ => ⟨he, by rw [hw]; exact Go.RowKit.Below.refl _ _, [], List.Perm.refl _, fun i j x y hi => by simp at hi, RngsR.nil _ _ _⟩
  · have eg : ∀ args w, (callFunc 58 args).run Try.prog w = .ok (.enter 58 args) w := enters_of Try.func58 (by kernel_rfl) rfl
    have hB : Blk w g E cur := hg
    have hH := sort_holds hr hB
    have hcon := AnyQ.slices_SortFunc Try.sortIv 2 Try.isAgg36 Try.sizeOf36 encRg (fun _ => rfl) (fun x v hv => by simp [encRg] at hv; rcases hv with rfl | rfl <;> rfl) (fun x y => cmpI x.1 y.1) sort_swo 58 #[] g 0 cap l.toArray w eg (sort_lays g 0 l.toArray.size w) hH hB.lt (by simpa using hl)
    simp only [List.size_toArray] at hcon
    refine hcon.mono ?_
    rintro e w' ⟨rfl, d', n, os, hp, hs, rfl⟩
    obtain ⟨hp1, _, hp2⟩ := hp
    have hsz : d'.size = l.length := by simpa using hp1
    have hH' := holdsK_sortWorldK_c encRg 2 w g 0 l.toArray d' n os hH hB.lt (by simpa using hsz)
    refine ⟨rfl, below_sortWorldK _ _ _ _ _ _ _ _ hb hB.lt, d'.toList, ?_, ?_, ?_⟩
    · have e1 : d'.extract 0 l.length = d' := by rw [← hsz]; simp
      have e2 : l.toArray.extract 0 l.length = l.toArray := by simp
      rw [e1, e2] at hp2
      simpa using hp2
    · intro i j x y hi hj hij
      have hj2 : j < d'.size := by
        rcases Nat.lt_or_ge j d'.size with h | h
        · exact h
        · simp [h] at hj
      have := hs i j (by omega) hij (by omega)
      rw [sort_lt] at this
      have hbi : i < d'.size := by omega
      have ei : d'[i]! = x := by
        rw [getElem!_pos d' i hbi]
        have h7 := hi
        rw [Array.getElem?_toList, Array.getElem?_eq_getElem hbi] at h7
        exact Option.some.inj h7
      have hbj : j < d'.size := by omega
      have ej : d'[j]! = y := by
        rw [getElem!_pos d' j hbj]
        have h7 := hj
        rw [Array.getElem?_toList, Array.getElem?_eq_getElem hbj] at h7
        exact Option.some.inj h7
      rw [ei, ej] at this
      simp at this
      omega
    · have := holds_rngs (E := E) (cap := cap) (lo := B) hH' (Nat.lt_of_lt_of_le hB.lt (size_sortWorldK_c _ _ _ _ _ _ _ _)) hb (by omega) hm
      rw [hsz] at this
      exact this
end Go.Proofs.Ytjdlfmcnjpiaoaa.Old
/- The walk of set.Of. -/
namespace Go.Proofs.Ytjdlfmcnjpiaoaa.Old
open Go.RowKit
set_option linter.unusedVariables false

/-- The ranges that are kept; none where one does not lie within. -/
def keepGo : List Rg → List Rg → Option (List Rg)
  | acc, [] => some acc
  | acc, r :: l => if r.2 < r.1 then keepGo acc l else if (withinB r.1 && withinB r.2) = true then keepGo (acc ++ [r]) l else none
/-- Ascending ranges run together. -/
def mrg : Rg → List Rg → List Rg
  | p, [] => [p]
  | p, r :: l => if r.1 ≤ p.2 + 1 then mrg (p.1, max p.2 r.2) l else p :: mrg r l
def mergeS : List Rg → List Rg
  | [] => []
  | r :: l => mrg r l
def OfR (T : Option (List Rg)) (B : Nat) (v : Value) (w' : World) : Prop :=
  match T with
  | none => v = .tuple #[.slice none 0 0, .int .i64 2]
  | some L => ∃ l' s, l'.Perm L ∧ Asc l' ∧ v = .tuple #[s, .int .i64 0] ∧ w'.ownsRow B 36 2 s (mergeS l').length (rcells (mergeS l'))
theorem own_slice {w : World} {b e size n : Nat} {v : Value} {xs : List Value} (h : w.ownsRow b e size v n xs) : ∃ A c, v = .slice A n c ∧ n ≤ c ∧ (A = none → c = 0) := by
  rcases h.2 with ⟨rfl, rfl⟩ | ⟨g, cap, cur, rfl, hb, hg, hc, _⟩
  · exact ⟨_, _, rfl, Nat.le_refl _, fun _ => rfl⟩
  · exact ⟨_, _, rfl, hc, fun h => by cases h⟩
theorem rcells_set_last : ∀ (pre : List Rg) (a b q : Int), (rcells (pre ++ [(a, b)])).set (pre.length * 2 + 1) (.int .i64 q) = rcells (pre ++ [(a, q)]) := by
  intro pre a b q
  rw [rcells_append, rcells_append, ← rcells_length pre, List.set_append_right _ _ (by omega)]
  simp [rcells]
theorem own_last {w : World} {B : Nat} {e : TypeId} {v : Value} {pre : List Rg} {a b : Int} (h : w.ownsRow B e 2 v (pre ++ [(a, b)]).length (rcells (pre ++ [(a, b)]))) :
    ∃ g c, v = .slice (some ⟨g, 0, none⟩) (pre.length + 1) c ∧ pre.length + 1 ≤ c ∧ B ≤ g ∧ g < w.heap.size ∧ w.cell? ⟨g, pre.length * 2 + 1, none⟩ = some (.int .i64 b) ∧ w.frozen? ⟨g, pre.length * 2 + 1, none⟩ = false := by
  have hr := RngsR.of_own h
  have h' := h
  rcases h.2 with ⟨_, h0⟩ | ⟨g, cap, cur, rfl, hb, hg, hc, _⟩
  · simp at h0
  · refine ⟨g, cap, by simp, by simpa using hc, hb, (Array.getElem?_eq_some_iff.1 hg).1, ?_, h'.frozenAt _⟩
    have h2 := (rcells_at (pre ++ [(a, b)]) pre.length a b (by simp)).2
    have h3 := h'.cells (g := g) rfl
    have h4 := h3 _ _ h2
    have e : (⟨g, 0, none⟩ : Addr).add (pre.length * 2 + 1) = ⟨g, pre.length * 2 + 1, none⟩ := by unfold Addr.add; split <;> simp_all
    rwa [e] at h4
theorem own_set_last {w w' : World} {B g c : Nat} {e : TypeId} {pre : List Rg} {a b : Int} (h : w.ownsRow B e 2 (.slice (some ⟨g, 0, none⟩) (pre.length + 1) c) (pre ++ [(a, b)]).length (rcells (pre ++ [(a, b)]))) (hb : Below w.heap.size w w') (z : Int) :
    (w'.setCell ⟨g, pre.length * 2 + 1, none⟩ (.int .i64 z)).ownsRow B e 2 (.slice (some ⟨g, 0, none⟩) (pre.length + 1) c) (pre ++ [(a, z)]).length (rcells (pre ++ [(a, z)])) := by
  have h2 := own_below h hb
  rw [show (pre ++ [(a, b)]).length = pre.length + 1 by simp] at h2
  have h7 := (h2.stored (pre.length * 2 + 1) (.int .i64 z)).1
  rw [rcells_set_last] at h7
  rw [show (pre ++ [(a, z)]).length = pre.length + 1 by simp]
  exact h7

set_option maxRecDepth 100000 in
set_option maxHeartbeats 1000000 in
theorem set_of (u : Value) (l : List Rg) (w : World) (hl : l.length ≤ 3000000) (hx : RngsR w 0 w.heap.size u l) :
    Calls Try.prog 15 #[u] w (RetP (OfR (keepGo [] l) w.heap.size) w) := by
  obtain ⟨A, c, rfl, h1, h2, _⟩ := hx.open_
  have HX := hid hx; clear hx h1 h2
  obtain ⟨T, hT⟩ : ∃ T, T = keepGo [] l := ⟨_, rfl⟩
  rw [← hT]
  have e0 := hid (show keepGo [] (l.drop 0) = T by rw [hT]; rfl)
  clear hT
  go_enter Try.func15, Try.ntmps15
  go_wp2_with fail
  go_loopw [4, 13] (fun vo vi wr => ∃ (k : Nat) (acc : List Rg), k ≤ l.length ∧ acc.length ≤ k ∧ vi = .int .i64 k ∧ Hid (wr.ownsRow w.heap.size 36 2 vo acc.length (rcells acc)) ∧ Hid (∀ d ∈ acc, InB d) ∧ Hid (keepGo acc (l.drop k) = T) ∧ Hid (Below w.heap.size w wr)) (fun vo vi wr => (l.length - (intOf vi).toNat))
  case atStart => exact ⟨0, [], by omega, by simp, rfl, World.ownsRow_nil _ _ _ _, hid (by simp), e0, hid (Below.refl _ _)⟩
  case round =>
    obtain ⟨k, acc, hk, hak, rfl, hown, hI, hs, hB⟩ := hrel
    have hz := hB.out.size
    by_cases hlt : k < l.length
    · obtain ⟨x, y, hxy⟩ := at_rg hlt
      obtain ⟨a, rfl, _, hab, hc⟩ := (HX.out.below hB.out).get hlt
      obtain ⟨g1, g2⟩ := hc _ _ _ hxy
      clear hc
      replace hs := hs.out
      rw [drop_at hxy] at hs
      clear hxy
      unfold keepGo at hs
      simp only at hs
      by_cases c1 : y < x
      · rw [if_pos c1] at hs
        replace hs := hid hs
        go_wp2_with fail
        go_roundw
        case rel => exact ⟨k + 1, acc, by omega, by omega, by go_num, hid (hown.out.alloc _), hI, hs, hid (hB.out.alloc hz _)⟩
        case measure => simp [intOf]; omega
      · rw [if_neg c1] at hs
        cases h2 : withinB x
        · rw [h2, Bool.false_and, if_neg (by simp)] at hs
          replace hs := hid hs
          go_wp2_with fail
          refine (set_within _ _).mono ?_
          rintro e w' ⟨rfl, n9, rfl⟩
          go_wp2_with fail
          go_ret2
          have e := hs.out
          subst e
          exact ⟨_, rfl, below_drewN (hB.out.alloc hz _) _, rfl⟩
        · cases h3 : withinB y
          · rw [h2, h3, Bool.true_and, if_neg (by simp)] at hs
            replace hs := hid hs
            go_wp2_with fail
            refine (set_within _ _).mono ?_
            rintro e w' ⟨rfl, n9, rfl⟩
            go_wp2_with fail
            refine (set_within _ _).mono ?_
            rintro e w' ⟨rfl, n8, rfl⟩
            rw [World.drewN_drewN]
            go_wp2_with fail
            go_ret2
            have e := hs.out
            subst e
            exact ⟨_, rfl, below_drewN (hB.out.alloc hz _) _, rfl⟩
          · rw [h2, h3, Bool.true_and, if_pos rfl] at hs
            have hI2 := InB_of h2 h3
            have hI3 := hid (show ∀ d ∈ acc ++ [(x, y)], InB d from fun d hd => by
              rcases List.mem_append.1 hd with hd | hd
              · exact hI.out d hd
              · rw [List.mem_singleton.1 hd]; exact hI2)
            clear hI2
            replace hs := hid hs
            go_wp2_with fail
            refine (set_within _ _).mono ?_
            rintro e w' ⟨rfl, n9, rfl⟩
            go_wp2_with fail
            refine (set_within _ _).mono ?_
            rintro e w' ⟨rfl, n8, rfl⟩
            rw [World.drewN_drewN]
            go_wp2_with (at_builtin; go_must (refine wpList_app_rng _ rfl (.tmp 17) (.tmp 19) 22 36 rfl Try.underlying22 rng_info w.heap.size _ acc rfl (by exact own_below hown.out (((below_drewN ((Below.refl _ _).alloc (Nat.le_refl _) _) _)).alloc (by simp) _)) (wr.heap.size + 1) x y rfl (by exact Blk.at_ _ _ _ (by simp)) (by omega) (by simp; omega) ?_); intro v1 w3 own1 bw1)
            go_roundw
            case rel => exact ⟨k + 1, acc ++ [(x, y)], by omega, by simp; omega, by go_num, hid own1, hI3, hs, hid (((below_drewN (hB.out.alloc hz _) _).alloc (by simp; omega) _).trans bw1)⟩
            case measure => simp [intOf]; omega
    · replace hs := hs.out
      rw [List.drop_eq_nil_of_le (by omega)] at hs
      unfold keepGo at hs
      subst hs
      have hal : acc.length ≤ 3000000 := by omega
      have S1 := hid (fun wx (b : Below wr.heap.size wr wx) => rng_sort (own_below hown.out b) (by omega))
      go_wp2_with fail
      refine (S1.out _ (Below.refl _ _)).mono ?_
      rintro e w1 ⟨rfl, b1, m, hp, ha, hm⟩
      have hM := hid (show ∀ d ∈ m, InB d from fun d hd => hI.out d (hp.mem_iff.1 hd))
      have hml : m.length = acc.length := hp.length_eq
      have HP := hid hp; clear hp
      have HA := hid ha; clear ha
      have HMR := hid hm
      have B1 := hid (hB.out.trans (b1.mono (Nat.le_refl _))); clear b1
      obtain ⟨A2, c2, rfl, _, _⟩ := own_slice hown.out
      obtain ⟨T2, hT2⟩ : ∃ T2, T2 = mergeS m := ⟨_, rfl⟩
      have E0 := hid (show mergeS (m.drop 0) = T2 by rw [hT2]; rfl)
      have HT2 := hid hT2; clear hT2 S1 hm
      rw [← hml] at HMR hal
      rw [← hml]
      clear hak hlt hk
      have HML := hid hml; clear hml
      go_wp2_with fail
      go_loopw [7, 43] (fun vo vi wr => ∃ (k : Nat) (out : List Rg), k ≤ m.length ∧ out.length ≤ k ∧ vi = .int .i64 k ∧ Hid (wr.ownsRow w1.heap.size 36 2 vo out.length (rcells out)) ∧ Hid (∀ d ∈ out, InB d) ∧ Hid (out = [] → mergeS (m.drop k) = T2) ∧ Hid (∀ pre p, out = pre ++ [p] → pre ++ mrg p (m.drop k) = T2) ∧ Hid (Below w1.heap.size w1 wr)) (fun vo vi wr => (m.length - (intOf vi).toNat))
      case atStart => exact ⟨0, [], by omega, by simp, rfl, World.ownsRow_nil _ _ _ _, hid (by simp), hid (fun _ => E0.out), hid (fun pre p h => by simp at h), hid (Below.refl _ _)⟩
      case round =>
        clear hown hI hz hB
        obtain ⟨k, out, hk, hak, rfl, hown, hI, hs1, hs2, hB⟩ := hrel
        have hz := hB.out.size
        by_cases hlt : k < m.length
        · obtain ⟨x, y, hxy⟩ := at_rg hlt
          obtain ⟨a, rfl, _, hab, hc⟩ := (HMR.out.below hB.out).get hlt
          obtain ⟨g1, g2⟩ := hc _ _ _ hxy
          clear hc
          have iB := hM.out _ (mem_at hxy)
          rcases List.eq_nil_or_concat out with ho | ⟨pre, p, ho⟩
          · subst ho
            replace hs1 := hs1.out rfl
            rw [drop_at hxy] at hs1
            replace hs1 := hid (show mrg (x, y) (m.drop (k + 1)) = T2 from hs1)
            clear hxy hs2
            obtain ⟨A3, c3, rfl, _, _⟩ := own_slice hown.out
            have HIB := hid iB; clear iB
            go_wp2_with fail
            go_quiet (fail)
            go_wp2_with (at_builtin; go_must (refine wpList_app_rng _ rfl (.tmp 75) (.tmp 77) 22 36 rfl Try.underlying22 rng_info w1.heap.size _ [] rfl (by exact own_below hown.out (((below_drewN ((Below.refl _ _).alloc (Nat.le_refl _) _) _)).alloc (by simp) _)) (wr.heap.size + 1) x y rfl (by exact Blk.at_ _ _ _ (by simp)) (by simp) (by simp; omega) ?_); intro v1 w3 own1 bw1)
            go_roundw
            case rel => exact ⟨k + 1, [(x, y)], by omega, by simp, by go_num, hid own1, hid (fun d hd => by rw [List.mem_singleton.1 hd]; exact HIB.out), hid (by simp), hid (fun pre p h => by cases pre with | nil => (simp at h; subst h; exact hs1.out) | cons => simp at h), hid (((below_drewN (hB.out.alloc hz _) _).alloc (by simp; omega) _).trans bw1)⟩
            case measure => simp [intOf]; omega
          · obtain ⟨a1, b1⟩ := p
            rw [List.concat_eq_append] at ho
            subst ho
            replace hs2 := hs2.out pre (a1, b1) rfl
            rw [drop_at hxy] at hs2
            unfold mrg at hs2
            simp only at hs2
            clear hxy hs1
            obtain ⟨gg, c3, rfl, hc3, hgB, hgl, g3, g4⟩ := own_last hown.out
            have jB : InB (a1, b1) := hI.out _ (by simp)
            have hI0 := hid (show ∀ d ∈ pre, InB d from fun d hd => hI.out d (by simp [hd]))
            unfold InB at iB jB
            simp only at iB jB
            obtain ⟨n, hn⟩ : ∃ n, n = pre.length := ⟨_, rfl⟩
            have hlen : (pre ++ [(a1, b1)]).length = n + 1 := by simp [hn]
            have hown2 := hid hown.out; clear hown
            rw [hlen] at hak
            rw [← hn] at g3 g4 hc3 ⊢
            obtain ⟨q, hq⟩ : ∃ q, q = (⟨gg, 0, none⟩ : Addr) := ⟨_, rfl⟩
            have hqa : (⟨gg, n * 2 + 1, none⟩ : Addr) = { block := (q.add (n * 2)).block, off := (q.add (n * 2)).off + 1 } := by subst hq; unfold Addr.add; split <;> simp_all
            have hqb : (q.add (n * 2)).block < wr.heap.size := by rw [block_add, hq]; exact hgl
            rw [hqa] at g3 g4
            rw [← hq]
            have HQ := hid hq; clear hq
            have HQA := hid hqa; clear hqa
            have HN := hid hn; clear hn
            have e1 : IntKind.i64.wrap (b1 + 1) = b1 + 1 := IntWalk.i64_in _ (by omega)
            by_cases c1 : x ≤ b1 + 1
            · rw [if_pos c1] at hs2
              replace hs2 := hid hs2
              obtain ⟨z, hz1⟩ : ∃ z, z = max b1 y := ⟨_, rfl⟩
              have hz2 : (if b1 < y then y else b1) = z := by rw [hz1]; split <;> omega
              rw [← hz1] at hs2
              have zB := hid (show InB (a1, z) by unfold InB; simp only; omega)
              have HZ := hid hz1
              clear hz1 iB jB hI
              go_wp2_with fail
              go_quiet (fail)
              go_wp2_with fail
              go_region
              go_wp2_with fail
              go_roundw
              case rel =>
                refine ⟨k + 1, pre ++ [(a1, z)], by omega, by have := HN.out; simp; omega, by go_num, hid ?_, hid ?_, hid (by simp), hid ?_, hid ?_⟩
                · rw [← HQA.out, HN.out]
                  have h9 := HQ.out
                  rw [h9, ← HZ.out]
                  exact own_set_last hown2.out (below_drewN ((Below.refl _ _).alloc (Nat.le_refl _) _) _) z
                · intro d hd
                  rcases List.mem_append.1 hd with hd | hd
                  · exact hI0.out d hd
                  · rw [List.mem_singleton.1 hd]; exact zB.out
                · intro pre' p' h
                  obtain ⟨h5, h6⟩ := List.append_inj' h rfl
                  simp at h6
                  rw [← h5, ← h6]
                  exact hs2.out
                · refine (below_drewN (hB.out.alloc hz _) _).setCell ?_ _
                  rw [← HQA.out]
                  exact hgB
              case measure => simp [intOf]; omega
            · rw [if_neg c1] at hs2
              replace hs2 := hid hs2
              have iB := hid (show InB (x, y) by unfold InB; simp only; omega)
              clear jB
              go_wp2_with fail
              go_quiet (fail)
              go_wp2_with (at_builtin; go_must (refine wpList_app_rng _ rfl (.tmp 75) (.tmp 77) 22 36 rfl Try.underlying22 rng_info w1.heap.size (.slice (some ⟨gg, 0, none⟩) (pre.length + 1) c3) (pre ++ [(a1, b1)]) (by rw [← HN.out, ← HQ.out]; rfl) (by exact own_below hown2.out (((below_drewN ((Below.refl _ _).alloc (Nat.le_refl _) _) _)).alloc (by simp) _)) (wr.heap.size + 1) x y rfl (by exact Blk.at_ _ _ _ (by simp)) (by rw [hlen]; omega) (by simp; omega) ?_); intro v1 w3 own1 bw1)
              go_roundw
              case rel =>
                refine ⟨k + 1, pre ++ [(a1, b1)] ++ [(x, y)], by omega, by rw [List.length_append, hlen]; simp; omega, by go_num, hid own1, hid ?_, hid (by simp), hid ?_, hid (((below_drewN (hB.out.alloc hz _) _).alloc (by simp; omega) _).trans bw1)⟩
                · intro d hd
                  rcases List.mem_append.1 hd with hd | hd
                  · exact hI.out d hd
                  · rw [List.mem_singleton.1 hd]; exact iB.out
                · intro pre' p' h
                  obtain ⟨h5, h6⟩ := List.append_inj' h rfl
                  simp at h6
                  rw [← h5, ← h6, List.append_assoc]
                  exact hs2.out
              case measure => simp [intOf]; omega
        · replace hs1 := hs1.out
          replace hs2 := hs2.out
          rw [List.drop_eq_nil_of_le (by omega)] at hs1 hs2
          have e9 : out = T2 := by
            rcases List.eq_nil_or_concat out with ho | ⟨pre, p, ho⟩
            · rw [ho, ← hs1 ho]; rfl
            · rw [List.concat_eq_append] at ho
              have := hs2 pre p ho
              rw [ho, ← this]; rfl
          go_wp2_with fail
          go_ret2
          have e8 := e9.trans HT2.out
          rw [e8] at hown
          exact ⟨_, rfl, B1.out.trans (hB.out.mono B1.out.size), m, _, HP.out, HA.out, rfl, own_base hown.out B1.out.size⟩
end Go.Proofs.Ytjdlfmcnjpiaoaa.Old
/- Plain laws: what running together ascending ranges leaves. -/
namespace Go.Proofs.Ytjdlfmcnjpiaoaa.Old
set_option linter.unusedVariables false

theorem asc_cons {r : Rg} {l : List Rg} (h : Asc (r :: l)) : (∀ s ∈ l, r.1 ≤ s.1) ∧ Asc l := by
  refine ⟨fun s hs => ?_, fun i j x y hi hj hij => h (i + 1) (j + 1) x y (by simpa using hi) (by simpa using hj) (by omega)⟩
  obtain ⟨j, hj⟩ := List.getElem?_of_mem hs
  exact h 0 (j + 1) r s rfl (by simpa using hj) (by omega)
theorem mrg_facts : ∀ (l : List Rg) (p : Rg), p.1 ≤ p.2 → (∀ s ∈ l, s.1 ≤ s.2) → (∀ s ∈ l, p.1 ≤ s.1) → Asc l →
    Wf (mrg p l) ∧ (∀ v, Mem (mrg p l) v ↔ Mem (p :: l) v) ∧ (∀ s ∈ mrg p l, p.1 ≤ s.1) ∧ (InB p → (∀ s ∈ l, InB s) → ∀ s ∈ mrg p l, InB s)
  | [], p, h1, _, _, _ => ⟨⟨h1, by simp, trivial⟩, fun v => Iff.rfl, fun s hs => by rw [List.mem_singleton.1 hs]; omega, fun hp _ s hs => by rw [List.mem_singleton.1 hs]; exact hp⟩
  | r :: l, p, h1, h2, h3, h4 => by
    obtain ⟨h5, h6⟩ := asc_cons h4
    have h7 := h2 r (by simp)
    have h8 := h3 r (by simp)
    unfold mrg
    split
    · rename_i hc
      obtain ⟨g1, g2, g3, g4⟩ := mrg_facts l (p.1, max p.2 r.2) (by simp only; omega) (fun s hs => h2 s (by simp [hs])) (fun s hs => h3 s (by simp [hs])) h6
      refine ⟨g1, fun v => (g2 v).trans ?_, g3, fun hp hl => g4 ?_ (fun s hs => hl s (by simp [hs]))⟩
      · rw [mem_cons, mem_cons, mem_cons]
        simp only
        constructor
        · rintro (h | h)
          · omega
          · exact .inr (.inr h)
        · rintro (h | h | h)
          · exact .inl (by omega)
          · exact .inl (by omega)
          · exact .inr h
      · have := hl r (by simp)
        unfold InB at *
        simp only
        omega
    · rename_i hc
      obtain ⟨g1, g2, g3, g4⟩ := mrg_facts l r h7 (fun s hs => h2 s (by simp [hs])) h5 h6
      refine ⟨⟨h1, fun s hs => ?_, g1⟩, fun v => ?_, fun s hs => ?_, fun hp hl s hs => ?_⟩
      · have := g3 s hs; omega
      · rw [mem_cons, mem_cons, g2]
      · simp only [List.mem_cons] at hs
        rcases hs with rfl | hs
        · omega
        · have := g3 s hs; omega
      · simp only [List.mem_cons] at hs
        rcases hs with rfl | hs
        · exact hp
        · exact g4 (hl r (by simp)) (fun s hs => hl s (by simp [hs])) s hs
theorem mergeS_facts {L l : List Rg} (hp : l.Perm L) (ha : Asc l) (h1 : ∀ s ∈ L, s.1 ≤ s.2) (h2 : ∀ s ∈ L, InB s) : rightB (mergeS l) = true ∧ ∀ v, Mem (mergeS l) v ↔ Mem L v := by
  have hm : ∀ v, Mem l v ↔ Mem L v := fun v => by
    unfold Mem
    constructor
    · rintro ⟨r, h, h3⟩; exact ⟨r, hp.mem_iff.1 h, h3⟩
    · rintro ⟨r, h, h3⟩; exact ⟨r, hp.mem_iff.2 h, h3⟩
  have h1' : ∀ s ∈ l, s.1 ≤ s.2 := fun s hs => h1 s (hp.mem_iff.1 hs)
  have h2' : ∀ s ∈ l, InB s := fun s hs => h2 s (hp.mem_iff.1 hs)
  cases l with
  | nil => exact ⟨by decide, hm⟩
  | cons r l =>
    obtain ⟨h5, h6⟩ := asc_cons ha
    obtain ⟨g1, g2, g3, g4⟩ := mrg_facts l r (h1' r (by simp)) (fun s hs => h1' s (by simp [hs])) h5 h6
    exact ⟨right_iff.2 ⟨g1, g4 (h2' r (by simp)) (fun s hs => h2' s (by simp [hs]))⟩, fun v => (g2 v).trans (hm v)⟩
theorem merge_eq {L l T : List Rg} (hp : l.Perm L) (ha : Asc l) (h1 : ∀ s ∈ L, s.1 ≤ s.2) (h2 : ∀ s ∈ L, InB s) (hT : rightB T = true) (h : ∀ v, Mem L v ↔ Mem T v) : mergeS l = T :=
  right_ext (mergeS_facts hp ha h1 h2).1 hT fun v => ((mergeS_facts hp ha h1 h2).2 v).trans (h v)
theorem keep_alive : keepGo [] [(5, 7), (1, 3), (4, 4)] = some [(5, 7), (1, 3), (4, 4)] := by decide
theorem merge_alive {l : List Rg} (hp : l.Perm [(5, 7), (1, 3), (4, 4)]) (ha : Asc l) : mergeS l = [(1, 7)] := by
  refine merge_eq hp ha (by simp) (by simp [InB]) (by decide) fun v => ?_
  simp only [mem_cons]
  have : ¬ Mem [] v := mem_nil v
  constructor
  · rintro (h | h | h | h)
    · exact .inl (by omega)
    · exact .inl (by omega)
    · exact .inl (by omega)
    · exact absurd h this
  · rintro (h | h)
    · omega
    · exact absurd h this
end Go.Proofs.Ytjdlfmcnjpiaoaa.Old
/- What every law of chapter 9 asks first. -/
namespace Go.Proofs.Ytjdlfmcnjpiaoaa.Old
open Go.RowKit
set_option linter.unusedVariables false

theorem Blk.rngs {w : World} {g : Nat} {t : TypeId} {cs : Array Value} {lo : Nat} {l : List Rg} (h : Blk w g t cs) (hx : cs.toList = rcells l) (hlo : lo ≤ g) (hm : l.length ≤ maxLen) :
    RngsR w lo w.heap.size (.slice (some ⟨g, 0, none⟩) l.length l.length) l := h.cells hx (rcells_length _) hlo hm
theorem Blk.rngs_at {w w' : World} {g : Nat} {t : TypeId} {cs : Array Value} {l : List Rg} (h : Blk w g t cs) (hb : Below w.heap.size w w') (hx : cs.toList = rcells l) (hm : l.length ≤ maxLen) :
    RngsR w' 0 w'.heap.size (.slice (some ⟨g, 0, none⟩) l.length l.length) l := (Blk.below h hb h.lt).rngs hx (Nat.zero_le _) hm

set_option maxRecDepth 100000 in
set_option maxHeartbeats 1000000 in
theorem set_alive (w : World) : Calls Try.prog 14 #[] w (RetB (.bool true) w) := by
  have f1 := hid (fun W (b : Blk W w.heap.size 36 #[.int .i64 5, .int .i64 7, .int .i64 1, .int .i64 3, .int .i64 4, .int .i64 4]) => set_of (.slice (some ⟨w.heap.size, 0, none⟩) 3 3) [(5, 7), (1, 3), (4, 4)] W (by decide) (b.rngs (l := [(5, 7), (1, 3), (4, 4)]) rfl (Nat.zero_le _) (by decide)))
  rw [keep_alive] at f1
  go_enter Try.func14, Try.ntmps14
  go_wp2_with fail
  refine (f1.out _ (by exact Blk.at_ _ _ _ rfl)).mono ?_
  rintro e w1 ⟨v, rfl, b1, l', s, hp, ha, rfl, own1⟩
  rw [merge_alive hp ha] at own1
  clear f1 hp ha l'
  have B1 := hid b1; clear b1
  have O1 := hid own1; clear own1
  go_wp2_with fail
  have K2 := hid (Blk.at_ w1 36 #[.int .i64 1, .int .i64 3, .int .i64 7, .int .i64 9] rfl)
  have f2 := hid (set_next (.slice (some ⟨w1.heap.size, 0, none⟩) 2 2) [(1, 3), (7, 9)] 4 _ (K2.out.rngs_at (Below.refl _ _) (l := [(1, 3), (7, 9)]) rfl (by decide)))
  rw [show nextV [(1, 3), (7, 9)] 4 = 7 by decide, show nextB [(1, 3), (7, 9)] 4 = true by decide] at f2
  refine f2.out.mono ?_
  rintro e w2 ⟨rfl, b2⟩
  have Q2 := hid (B1.out.trans (((Below.refl _ _).alloc (Nat.le_refl _) _).mono B1.out.size |>.trans (b2.mono (Nat.le_trans B1.out.size (by simp)))))
  have C2 := hid b2; clear b2
  have S2 := hid (((Below.refl _ w1).alloc (Nat.le_refl _) _).trans (C2.out.mono (by simp)))
  go_wp2_with fail
  have f3 := hid (retq_b (law_ranges s _ [(1, 7)] [(1, 7)] _ ((RngsR.of_own O1.out).below (S2.out.trans (((Below.refl _ w2).alloc (Nat.le_refl _) _).mono S2.out.size)) |>.mono (Nat.zero_le _) (Nat.le_trans S2.out.size (by simp)))
    ((Blk.at_ w2 36 #[.int .i64 1, .int .i64 7] rfl).rngs_at (Below.refl _ _) (l := [(1, 7)]) rfl (by decide))))
  rw [show decide ([((1 : Int), (7 : Int))] = [(1, 7)]) = true by decide] at f3
  refine f3.out.mono ?_
  rintro e w3 ⟨rfl, b3⟩
  have G3 := hid (((Below.refl _ w2).alloc (Nat.le_refl _) _).trans (b3.mono (by simp))); clear b3
  have C3 := hid (C2.out.trans (G3.out.mono C2.out.size))
  have Q3 := hid (Q2.out.trans (G3.out.mono Q2.out.size))
  clear f2 f3 Q2 C2 S2 G3 O1
  go_wp2_with fail
  have f4 := hid (set_right (.slice (some ⟨w1.heap.size, 0, none⟩) 2 2) [(1, 3), (7, 9)] _ (K2.out.rngs_at C3.out (l := [(1, 3), (7, 9)]) rfl (by decide)))
  rw [show rightB [(1, 3), (7, 9)] = true by decide] at f4
  refine f4.out.mono ?_
  rintro e w4 ⟨rfl, b4⟩
  have C4 := hid (C3.out.trans (b4.mono C3.out.size))
  have Q4 := hid (Q3.out.trans (b4.mono Q3.out.size))
  clear f4 b4 C3 Q3
  go_wp2_with fail
  have f5 := hid (set_size (.slice (some ⟨w1.heap.size, 0, none⟩) 2 2) [(1, 3), (7, 9)] _ (K2.out.rngs_at C4.out (l := [(1, 3), (7, 9)]) rfl (by decide)))
  rw [show sizeV [(1, 3), (7, 9)] = 6 by decide] at f5
  refine f5.out.mono ?_
  rintro e w5 ⟨rfl, b5⟩
  have C5 := hid (C4.out.trans (b5.mono C4.out.size))
  have Q5 := hid (Q4.out.trans (b5.mono Q4.out.size))
  clear f5 b5 C4 Q4
  go_wp2_with fail
  have D5 := hid ((Below.refl _ w5).alloc (Nat.le_refl _) (.cells #[.int .i64 3, .int .i64 8] 36))
  have f6 := hid (set_meet (.slice (some ⟨w1.heap.size, 0, none⟩) 2 2) _ [(1, 3), (7, 9)] [(3, 8)] _ (by decide) (K2.out.rngs_at (C5.out.trans (D5.out.mono C5.out.size)) (l := [(1, 3), (7, 9)]) rfl (by decide))
    ((Blk.at_ w5 36 #[.int .i64 3, .int .i64 8] rfl).rngs_at (Below.refl _ _) (l := [(3, 8)]) rfl (by decide)))
  rw [show meetS [(1, 3), (7, 9)] [(3, 8)] = [(3, 3), (7, 8)] by decide] at f6
  refine f6.out.mono ?_
  rintro e w6 ⟨r6, rfl, b6, own6⟩
  have Q6 := hid (Q5.out.trans ((D5.out.trans (b6.mono D5.out.size)).mono Q5.out.size))
  have O6 := hid own6
  clear f6 b6 Q5 own6 K2 C5
  go_wp2_with fail
  have D6 := hid ((Below.refl _ w6).alloc (Nat.le_refl _) (.cells #[.int .i64 3, .int .i64 3, .int .i64 7, .int .i64 8] 36))
  have f7 := hid (retq_b (law_ranges r6 _ [(3, 3), (7, 8)] [(3, 3), (7, 8)] _ ((RngsR.of_own O6.out).below D6.out |>.mono (Nat.zero_le _) D6.out.size)
    ((Blk.at_ w6 36 #[.int .i64 3, .int .i64 3, .int .i64 7, .int .i64 8] rfl).rngs_at (Below.refl _ _) (l := [(3, 3), (7, 8)]) rfl (by decide))))
  rw [show decide ([((3 : Int), (3 : Int)), (7, 8)] = [(3, 3), (7, 8)]) = true by decide] at f7
  refine f7.out.mono ?_
  rintro e w7 ⟨rfl, b7⟩
  have Q7 := hid (Q6.out.trans ((D6.out.trans (b7.mono D6.out.size)).mono Q6.out.size))
  clear f7 b7 Q6 O6 D6
  go_wp2_with fail
  have D7 := hid ((Below.refl _ w7).alloc (Nat.le_refl _) (.cells #[.int .i64 1, .int .i64 1, .int .i64 2, .int .i64 2] 36))
  have f8 := hid (set_has _ [(1, 1), (2, 2)] 1 _ ((Blk.at_ w7 36 #[.int .i64 1, .int .i64 1, .int .i64 2, .int .i64 2] rfl).rngs_at (Below.refl _ _) (l := [(1, 1), (2, 2)]) rfl (by decide)))
  rw [show hasB [(1, 1), (2, 2)] 1 = false by decide] at f8
  refine f8.out.mono ?_
  rintro e w8 ⟨rfl, b8⟩
  have Q8 := hid (Q7.out.trans ((D7.out.trans (b8.mono D7.out.size)).mono Q7.out.size))
  clear f8 b8 Q7 D7
  go_wp2_with fail
  go_ret
  exact ⟨rfl, ((Below.refl _ w).alloc (Nat.le_refl _) _).trans (Q8.out.mono (by simp))⟩
end Go.Proofs.Ytjdlfmcnjpiaoaa.Old
