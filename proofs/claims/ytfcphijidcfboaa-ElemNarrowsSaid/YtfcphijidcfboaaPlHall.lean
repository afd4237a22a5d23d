/- Plain laws for unlike values: a range's ends without stretches. -/
import Derived.Test.YtfcphijidcfboaaWHall
namespace Go.Proofs.Ytfcphijidcfboaa
open Av
attribute [local irreducible] awp awpOpers
set_option linter.unusedSimpArgs false
set_option linter.unusedVariables false
def covB (S : List Rg) (v : Int) : Bool := S.any fun s => decide (s.1 ≤ v) && decide (v ≤ s.2)
theorem cov_iff {S : List Rg} {v : Int} : covB S v = true ↔ ∃ s ∈ S, s.1 ≤ v ∧ v ≤ s.2 := by simp [covB]
def upF (S : List Rg) (v : Int) : Nat := S.foldr (fun s n => max n (s.2 + 1 - v).toNat) 0
def dnF (S : List Rg) (v : Int) : Nat := S.foldr (fun s n => max n (v - s.1 + 1).toNat) 0
def upGo (S : List Rg) : Nat → Int → Int
  | 0, v => v
  | n + 1, v => if covB S v then upGo S n (v + 1) else v
def dnGo (S : List Rg) : Nat → Int → Int
  | 0, v => v
  | n + 1, v => if covB S v then dnGo S n (v - 1) else v
/-- a range without stretches at its ends -/
def trimV (S : List Rg) (r : Rg) : Rg := (upGo S (upF S r.1) r.1, dnGo S (dnF S r.2) r.2)
theorem upF_le {S : List Rg} {s : Rg} (h : s ∈ S) (v : Int) : s.2 + 1 - v ≤ upF S v := by
  induction S with
  | nil => cases h
  | cons x l ih =>
    unfold upF at ih ⊢
    rw [List.foldr_cons]
    rcases List.mem_cons.1 h with rfl | h
    · omega
    · have := ih h; omega
theorem dnF_le {S : List Rg} {s : Rg} (h : s ∈ S) (v : Int) : v - s.1 + 1 ≤ dnF S v := by
  induction S with
  | nil => cases h
  | cons x l ih =>
    unfold dnF at ih ⊢
    rw [List.foldr_cons]
    rcases List.mem_cons.1 h with rfl | h
    · omega
    · have := ih h; omega
theorem upGo_eq {S : List Rg} {x : Int} (hx : covB S x = false) : ∀ (n : Nat) (v : Int), v ≤ x → x - v ≤ n → (∀ u, v ≤ u → u < x → covB S u = true) → upGo S n v = x
  | 0, v, h1, h2, _ => by unfold upGo; omega
  | n + 1, v, h1, h2, h3 => by
    unfold upGo
    by_cases hv : v = x
    · subst hv; rw [hx]; rfl
    · rw [if_pos (h3 v (by omega) (by omega))]
      exact upGo_eq hx n (v + 1) (by omega) (by omega) (fun u a b => h3 u (by omega) b)
theorem dnGo_eq {S : List Rg} {x : Int} (hx : covB S x = false) : ∀ (n : Nat) (v : Int), x ≤ v → v - x ≤ n → (∀ u, x < u → u ≤ v → covB S u = true) → dnGo S n v = x
  | 0, v, h1, h2, _ => by unfold dnGo; omega
  | n + 1, v, h1, h2, h3 => by
    unfold dnGo
    by_cases hv : v = x
    · subst hv; rw [hx]; rfl
    · rw [if_pos (h3 v (by omega) (by omega))]
      exact dnGo_eq hx n (v - 1) (by omega) (by omega) (fun u a b => h3 u a (by omega))
theorem trim_eq {S : List Rg} {r q : Rg} (h1 : r.1 ≤ q.1) (h2 : ∀ v, r.1 ≤ v → v < q.1 → covB S v = true) (h3 : covB S q.1 = false) (h4 : q.2 ≤ r.2) (h5 : ∀ v, q.2 < v → v ≤ r.2 → covB S v = true) (h6 : covB S q.2 = false) : trimV S r = q := by
  unfold trimV
  have e1 : upGo S (upF S r.1) r.1 = q.1 := by
    refine upGo_eq h3 _ _ h1 ?_ h2
    by_cases h : r.1 = q.1
    · omega
    · obtain ⟨s, hs, a, b⟩ := cov_iff.1 (h2 (q.1 - 1) (by omega) (by omega))
      have := upF_le hs r.1; omega
  have e2 : dnGo S (dnF S r.2) r.2 = q.2 := by
    refine dnGo_eq h6 _ _ h4 ?_ h5
    by_cases h : r.2 = q.2
    · omega
    · obtain ⟨s, hs, a, b⟩ := cov_iff.1 (h5 (q.2 + 1) (by omega) (by omega))
      have := dnF_le hs r.2; omega
  rw [e1, e2]
/-- what the loop knows -/
def EndsJ (S : List Rg) (r : Rg) (a b : Int) : Prop := (r.1 ≤ a ∧ a ≤ 1048577) ∧ (∀ v, r.1 ≤ v → v < a → covB S v = true) ∧ (b ≤ r.2 ∧ -1048577 ≤ b) ∧ ∀ v, b < v → v ≤ r.2 → covB S v = true
def InB (S : List Rg) : Prop := ∀ s ∈ S, -1048576 ≤ s.1 ∧ s.2 ≤ 1048576
theorem endsJ_up {S : List Rg} {r : Rg} {a b : Int} {k : Nat} {x y : Int} (hB : InB S) (h : EndsJ S r a b) (hx : S[k]? = some (x, y)) (h1 : x ≤ a) (h2 : a ≤ y) : EndsJ S r (y + 1) b := by
  have hm := List.mem_of_getElem? hx
  have hb := hB _ hm
  simp only at hb
  obtain ⟨p1, p2, p3, p4⟩ := h
  refine ⟨⟨by omega, by omega⟩, fun v a1 a2 => ?_, p3, p4⟩
  by_cases hv : v < a
  · exact p2 v a1 hv
  · exact cov_iff.2 ⟨_, hm, by simp only; omega, by simp only; omega⟩
theorem endsJ_dn {S : List Rg} {r : Rg} {a b : Int} {k : Nat} {x y : Int} (hB : InB S) (h : EndsJ S r a b) (hx : S[k]? = some (x, y)) (h1 : x ≤ b) (h2 : b ≤ y) : EndsJ S r a (x - 1) := by
  have hm := List.mem_of_getElem? hx
  have hb := hB _ hm
  simp only at hb
  obtain ⟨p1, p2, p3, p4⟩ := h
  refine ⟨p1, p2, ⟨by omega, by omega⟩, fun v a1 a2 => ?_⟩
  by_cases hv : b < v
  · exact p4 v hv a2
  · exact cov_iff.2 ⟨_, hm, by simp only; omega, by simp only; omega⟩
theorem cov_no {S : List Rg} {v : Int} (h : ∀ (j : Nat) s, S[j]? = some s → ¬ (s.1 ≤ v ∧ v ≤ s.2)) : covB S v = false := by
  rw [← Bool.not_eq_true]
  intro hc
  obtain ⟨s, hs, h1⟩ := cov_iff.1 hc
  obtain ⟨j, hj⟩ := List.getElem?_of_mem hs
  exact h j s hj h1
theorem endsJ_eq {S : List Rg} {r : Rg} {a b : Int} (h : EndsJ S r a b) (ha : covB S a = false) (hb : covB S b = false) : trimV S r = (a, b) := trim_eq h.1.1 h.2.1 ha h.2.2.1.1 h.2.2.2 hb
theorem cov_perm {S T : List Rg} (h : S.Perm T) (v : Int) : covB S v = covB T v := by
  rw [Bool.eq_iff_iff, cov_iff, cov_iff]
  constructor
  · rintro ⟨s, hs, h1⟩; exact ⟨s, h.mem_iff.1 hs, h1⟩
  · rintro ⟨s, hs, h1⟩; exact ⟨s, h.mem_iff.2 hs, h1⟩
def tightB (O : List Rg) (p q : Rg) : Bool := decide (0 < cntR O p.1 q.2) && decide ((cntR O p.1 q.2 : Int) = q.2 - p.1 + 1)
def rowU (O : List Rg) (p : Rg) (L : List Rg) : List Rg := L.filterMap fun q => if tightB O p q then some (p.1, q.2) else none
/-- the stretches that ranges fill -/
def fullU (O : List Rg) (L : List Rg) : List Rg := L.flatMap fun p => rowU O p O
theorem rowU_len (O : List Rg) (p : Rg) (L : List Rg) : (rowU O p L).length ≤ L.length := List.length_filterMap_le _ _
theorem fullU_len (O : List Rg) : ∀ L : List Rg, (fullU O L).length ≤ L.length * O.length
  | [] => by simp [fullU]
  | p :: L => by
    have h1 := fullU_len O L
    have h2 := rowU_len O p O
    unfold fullU at h1 ⊢
    rw [List.flatMap_cons, List.length_append, List.length_cons, Nat.succ_mul]; omega
theorem rowU_cons (O : List Rg) (p q : Rg) (L : List Rg) : rowU O p (q :: L) = (if tightB O p q then [(p.1, q.2)] else []) ++ rowU O p L := by
  unfold rowU
  rw [List.filterMap_cons]
  by_cases h : tightB O p q = true <;> simp [h]
theorem rowU_nil (O : List Rg) (p : Rg) : rowU O p [] = [] := rfl
theorem fullU_cons (O : List Rg) (p : Rg) (L : List Rg) : fullU O (p :: L) = rowU O p O ++ fullU O L := by unfold fullU; rw [List.flatMap_cons]
theorem fullU_nil (O : List Rg) : fullU O [] = [] := rfl
theorem mem_fullU {O : List Rg} {s : Rg} : s ∈ fullU O O ↔ ∃ p ∈ O, ∃ q ∈ O, tightB O p q = true ∧ s = (p.1, q.2) := by
  unfold fullU rowU
  simp only [List.mem_flatMap, List.mem_filterMap]
  constructor
  · rintro ⟨p, hp, q, hq, h⟩
    split at h
    · rename_i ht; injection h with h; exact ⟨p, hp, q, hq, ht, h.symm⟩
    · cases h
  · rintro ⟨p, hp, q, hq, ht, rfl⟩
    exact ⟨p, hp, q, hq, by rw [if_pos ht]⟩
def rgAt (l : List Rg) (k : Nat) : Rg := (l[k]?).getD (0, 0)
theorem rgAt_get {l : List Rg} {k : Nat} (h : k < l.length) : l[k]? = some (rgAt l k) := by unfold rgAt; rw [List.getElem?_eq_getElem h]; rfl
def endRows (D : List (List Rg)) (X : List Int) : List Rg := X.map fun x => endsV (rowOf D x)
theorem endRows_len (D : List (List Rg)) (X : List Int) : (endRows D X).length = X.length := by unfold endRows; rw [List.length_map]
theorem endRows_get {D : List (List Rg)} {X : List Int} {k : Nat} (h : k < X.length) : (endRows D X)[k]? = some (endsV (rowOf D (xat X k))) := by
  unfold endRows; rw [List.getElem?_map, xat_get h]; rfl
/-- what is left of a place's range -/
def tightV (l : List Rg) (k : Nat) : Rg := trimV (fullU (l.eraseIdx k) (l.eraseIdx k)) (rgAt l k)
def hallN (l : List Rg) (D : List (List Rg)) (X : List Int) : Nat → List (List Rg)
  | 0 => D
  | k + 1 => (hallN l D X k).set (xat X k).toNat (cutS (tightV l k).1 (tightV l k).2 (rowOf (hallN l D X k) (xat X k)))
def hallL (c : Con) (D : List (List Rg)) : List (List Rg) × Int :=
  if modB (D, [c], 0, 0) = true then
    (if c.1 = 18 then (if roomB (endRows D c.2.1) = true then tell (hallN (endRows D c.2.1) D c.2.1 c.2.1.length, wholeB (hallN (endRows D c.2.1) D c.2.1 c.2.1.length)) else ([], 12)) else ([], 10))
  else ([], 2)
theorem hallN_len (l : List Rg) (D : List (List Rg)) (X : List Int) : ∀ k, (hallN l D X k).length = D.length
  | 0 => rfl
  | k + 1 => by unfold hallN; rw [List.length_set]; exact hallN_len l D X k
theorem hallN_rows {l : List Rg} {D : List (List Rg)} {X : List Int} {n : Nat} (h : ∀ d ∈ D, d.length ≤ n) : ∀ k, ∀ d ∈ hallN l D X k, d.length ≤ n
  | 0 => h
  | k + 1 => fun d hd => by
    unfold hallN at hd
    rcases List.mem_or_eq_of_mem_set hd with h1 | rfl
    · exact hallN_rows h k d h1
    · have ih := hallN_rows (l := l) (X := X) h k
      refine Nat.le_trans (cutS_length _ _ _) ?_
      unfold rowOf
      cases hr : (hallN l D X k)[(xat X k).toNat]? with
      | none => simp
      | some r => exact ih r (List.mem_of_getElem? hr)
theorem upF_perm {S T : List Rg} (h : S.Perm T) (v : Int) : upF S v = upF T v := by
  unfold upF
  induction h with
  | nil => rfl
  | cons x _ ih => simp only [List.foldr_cons, ih]
  | swap x y l => simp only [List.foldr_cons]; omega
  | trans _ _ ih1 ih2 => exact ih1.trans ih2
theorem dnF_perm {S T : List Rg} (h : S.Perm T) (v : Int) : dnF S v = dnF T v := by
  unfold dnF
  induction h with
  | nil => rfl
  | cons x _ ih => simp only [List.foldr_cons, ih]
  | swap x y l => simp only [List.foldr_cons]; omega
  | trans _ _ ih1 ih2 => exact ih1.trans ih2
theorem upGo_perm {S T : List Rg} (h : S.Perm T) : ∀ (n : Nat) (v : Int), upGo S n v = upGo T n v
  | 0, v => rfl
  | n + 1, v => by unfold upGo; rw [cov_perm h v, upGo_perm h n]
theorem dnGo_perm {S T : List Rg} (h : S.Perm T) : ∀ (n : Nat) (v : Int), dnGo S n v = dnGo T n v
  | 0, v => rfl
  | n + 1, v => by unfold dnGo; rw [cov_perm h v, dnGo_perm h n]
theorem trim_perm {S T : List Rg} (h : S.Perm T) (r : Rg) : trimV S r = trimV T r := by unfold trimV; rw [upF_perm h, dnF_perm h, upGo_perm h, dnGo_perm h]
theorem rows_sameH {F : List (List Rg)} {k : Nat} {r : List Rg} (h : F[k]? = some r) : (F.map eRgs).set k (.list 2 (r.map eRg)) = F.map eRgs := by
  apply List.ext_getElem?
  intro i
  by_cases hi : i = k
  · subst hi
    rw [List.getElem?_set_self (by rw [List.length_map]; exact (List.getElem?_eq_some_iff.1 h).1), List.getElem?_map, h]
    rfl
  · rw [List.getElem?_set_ne (fun e => hi e.symm)]
theorem set_rowH (F : List (List Rg)) (k : Nat) (r : List Rg) : (F.map eRgs).set k (.list 2 (r.map eRg)) = (F.set k r).map eRgs := by rw [List.map_set]; rfl
end Go.Proofs.Ytfcphijidcfboaa
