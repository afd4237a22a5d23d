/- Plain laws of all values within domains. -/
import Derived.Test.YtclpkkbamgmooaaPlMod
namespace Go.Proofs.Ytclpkkbamgmooaa
open Av
set_option linter.unusedSimpArgs false
set_option linter.unusedVariables false
/-! the next value of a set -/
theorem nx_some {l : List Rg} {v : Int} (h : nextB l v = true) : Mem l (nextV l v) ∧ v ≤ nextV l v ∧ ∀ u, Mem l u → v ≤ u → nextV l v ≤ u := by
  have hr := next_right h
  have hw := (right_wf hr).1
  unfold nextB at h
  rw [hr] at h
  simp at h
  obtain ⟨x, y, hxy⟩ := at_rg h
  have hm := mem_at hxy
  have hle := wf_le hw _ hm
  simp only at hle
  have e : nextV l v = max v x := by unfold nextV; rw [if_pos hr, hxy]
  rw [e]
  have hy := fromN_at hxy
  refine ⟨⟨(x, y), hm, by simp only; omega, by simp only; omega⟩, by omega, fun u h4 h2 => ?_⟩
  have h5 := (mem_from v (l := l) h2).2 h4
  rw [drop_at hxy, mem_cons] at h5
  have hw2 := wf_drop (fromN v l) hw
  rw [drop_at hxy] at hw2
  rcases h5 with h5 | ⟨s, hs, h6, h7⟩
  · simp only at h5; omega
  · have := hw2.2.1 s hs
    simp only at this
    omega
theorem nx_none {l : List Rg} {v : Int} (hr : rightB l = true) (h : nextB l v = false) : ∀ u, Mem l u → u < v := by
  intro u hu
  unfold nextB at h
  rw [hr] at h
  simp at h
  rcases Int.lt_or_le u v with h1 | h1
  · exact h1
  · have h2 := (mem_from v (l := l) h1).2 hu
    rw [List.drop_eq_nil_of_le h] at h2
    exact absurd h2 (mem_nil _)
def nx (r : List Rg) (v : Int) : Option Int := if nextB r (v + 1) = true then some (nextV r (v + 1)) else none
/-! the values of a set -/
def valsGo : List Rg → List Int
  | [] => []
  | r :: l => (List.range (r.2 - r.1 + 1).toNat).map (fun i : Nat => r.1 + (i : Int)) ++ valsGo l
theorem mem_vals : ∀ {l : List Rg} {v : Int}, v ∈ valsGo l ↔ Mem l v
  | [], v => by simp [valsGo, mem_nil]
  | r :: l, v => by
    unfold valsGo
    rw [List.mem_append, mem_cons, mem_vals (l := l), List.mem_map]
    constructor
    · rintro (⟨i, hi, rfl⟩ | h)
      · rw [List.mem_range] at hi; left; omega
      · exact .inr h
    · rintro (h | h)
      · exact .inl ⟨(v - r.1).toNat, List.mem_range.2 (by omega), by omega⟩
      · exact .inr h
theorem sizeGo_add : ∀ (l : List Rg) (n : Int), sizeGo n l = n + sizeGo 0 l
  | [], n => by simp [sizeGo]
  | r :: l, n => by
    unfold sizeGo
    rw [sizeGo_add l (n + (r.2 - r.1 + 1)), sizeGo_add l (0 + (r.2 - r.1 + 1))]
    omega
theorem len_vals : ∀ {l : List Rg}, Wf l → ((valsGo l).length : Int) = sizeGo 0 l
  | [], _ => rfl
  | r :: l, h => by
    have h1 := h.1
    have h2 := len_vals h.2.2
    unfold valsGo sizeGo
    rw [sizeGo_add, List.length_append, List.length_map, List.length_range]
    omega
theorem vals_sorted : ∀ {l : List Rg}, Wf l → (valsGo l).Pairwise (· < ·)
  | [], _ => List.Pairwise.nil
  | r :: l, h => by
    unfold valsGo
    rw [List.pairwise_append]
    refine ⟨?_, vals_sorted h.2.2, ?_⟩
    · rw [List.pairwise_map]
      exact List.pairwise_lt_range.imp (fun hab => by omega)
    · intro a ha b hb
      obtain ⟨i, hi, rfl⟩ := List.mem_map.1 ha
      rw [List.mem_range] at hi
      obtain ⟨s, hs, h1, h2⟩ := mem_vals.1 hb
      have := h.2.1 s hs
      omega
/-! a list whose elements follow each other -/
def Walk {α : Type} (f : α → Option α) : Option α → List α → Prop
  | none, [] => True
  | some a, b :: l => a = b ∧ Walk f (f a) l
  | none, _ :: _ => False
  | some _, [] => False
theorem walk_at {α : Type} {f : α → Option α} : ∀ {l : List α} {o : Option α}, Walk f o l → o = l[0]? ∧ ∀ (i : Nat) a, l[i]? = some a → f a = l[i + 1]?
  | [], none, _ => ⟨rfl, fun i a h => by simp at h⟩
  | [], some _, h => h.elim
  | b :: l, none, h => h.elim
  | b :: l, some a, h => by
    obtain ⟨rfl, h2⟩ := h
    obtain ⟨h3, h4⟩ := walk_at h2
    refine ⟨rfl, fun i c hi => ?_⟩
    cases i with
    | zero => simp at hi; subst hi; rw [h3]; rfl
    | succ i => simp at hi; rw [h4 i c hi]; rfl
theorem walk_vals {r : List Rg} (hr : rightB r = true) : ∀ (suf pre : List Int), valsGo r = pre ++ suf → Walk (nx r) suf.head? suf
  | [], _, _ => trivial
  | v :: t, pre, h => by
    refine ⟨rfl, ?_⟩
    have hs := vals_sorted (right_wf hr).1
    rw [h, List.pairwise_append] at hs
    obtain ⟨-, hs2, hs3⟩ := hs
    rw [List.pairwise_cons] at hs2
    have e : nx r v = t.head? := by
      have hall : ∀ u, Mem r u → v < u → u ∈ t := by
        intro u hu hlt
        have := mem_vals.2 hu
        rw [h] at this
        rcases List.mem_append.1 this with h1 | h1
        · have := hs3 u h1 v (by simp); omega
        · rcases List.mem_cons.1 h1 with rfl | h1
          · omega
          · exact h1
      have hin : ∀ u, u ∈ t → Mem r u := fun u hu => mem_vals.1 (by rw [h]; simp [hu])
      unfold nx
      cases hn : nextB r (v + 1) with
      | false =>
        rw [if_neg (by simp)]
        cases t with
        | nil => rfl
        | cons w t =>
          have := nx_none hr hn w (hin w (by simp))
          have := hs2.1 w (by simp)
          omega
      | true =>
        rw [if_pos rfl]
        obtain ⟨n1, n2, n3⟩ := nx_some hn
        have hmem := hall _ n1 (by omega)
        cases t with
        | nil => simp at hmem
        | cons w t =>
          have h4 := n3 w (hin w (by simp)) (by have := hs2.1 w (by simp); omega)
          rcases List.mem_cons.1 hmem with h5 | h5
          · rw [h5]; rfl
          · have h6 := (List.pairwise_cons.1 hs2.2).1 _ h5
            omega
    rw [e]
    exact walk_vals hr t (pre ++ [v]) (by rw [h]; simp)
/-! all values within domains -/
def lo0 (r : List Rg) : Int := match r with
  | [] => 0
  | a :: _ => a.1
def firstA (D : List (List Rg)) : List Int := D.map lo0
def aft : List (List Rg) → List Int → Option (List Int)
  | r :: D, v :: a => match aft D a with
    | some a' => some (v :: a')
    | none => (nx r v).map fun n => n :: firstA D
  | _, _ => none
def allA : List (List Rg) → List (List Int)
  | [] => [[]]
  | r :: D => (valsGo r).flatMap fun v => (allA D).map fun a => v :: a
def Full (D : List (List Rg)) : Prop := ∀ r ∈ D, rightB r = true ∧ 0 < r.length
theorem vals_head {r : List Rg} (hr : rightB r = true) (h0 : 0 < r.length) : (valsGo r).head? = some (lo0 r) := by
  cases r with
  | nil => simp at h0
  | cons a l =>
    have h1 := ((right_wf hr).1).1
    unfold valsGo lo0
    obtain ⟨n, hn⟩ : ∃ n, (a.2 - a.1 + 1).toNat = n + 1 := ⟨(a.2 - a.1 + 1).toNat - 1, by omega⟩
    rw [hn, List.range_succ_eq_map]
    simp
theorem walk_prod {r : List Rg} {D : List (List Rg)} {M : List (List Int)} (hM : Walk (aft D) (some (firstA D)) M) : ∀ (L : List Int) (o : Option Int), Walk (nx r) o L →
    Walk (aft (r :: D)) (o.map fun n => n :: firstA D) (L.flatMap fun v => M.map fun a => v :: a)
  | [], none, _ => trivial
  | [], some _, h => h.elim
  | b :: l, none, h => h.elim
  | v :: L, some v', h => by
    obtain ⟨rfl, h2⟩ := h
    have ih := walk_prod hM L _ h2
    have inner : ∀ (M' : List (List Int)) (om : Option (List Int)), Walk (aft D) om M' →
        Walk (aft (r :: D)) (match om with | some m => some (v' :: m) | none => (nx r v').map fun n => n :: firstA D) (M'.map (fun a => v' :: a) ++ L.flatMap fun v => M.map fun a => v :: a) := by
      intro M'
      induction M' with
      | nil =>
        intro om hw
        cases om with
        | none => exact ih
        | some _ => exact hw.elim
      | cons m M' ihM =>
        intro om hw
        cases om with
        | none => exact hw.elim
        | some m' =>
          obtain ⟨rfl, hw2⟩ := hw
          exact ⟨rfl, ihM _ hw2⟩
    exact inner M (some (firstA D)) hM
theorem walk_all : ∀ {D : List (List Rg)}, Full D → Walk (aft D) (some (firstA D)) (allA D)
  | [], _ => ⟨rfl, trivial⟩
  | r :: D, h => by
    obtain ⟨h1, h2⟩ := h r (by simp)
    have ih := walk_all (D := D) fun s hs => h s (by simp [hs])
    have := walk_prod (r := r) ih (valsGo r) (valsGo r).head? (walk_vals h1 _ [] rfl)
    rw [vals_head h1 h2] at this
    exact this
def InBox (D : List (List Rg)) (a : List Int) : Prop := a.length = D.length ∧ ∀ (i : Nat) r v, D[i]? = some r → a[i]? = some v → Mem r v
theorem mem_all : ∀ {D : List (List Rg)} {a : List Int}, a ∈ allA D ↔ InBox D a
  | [], a => by
    unfold allA InBox
    constructor
    · intro h; simp at h; subst h; exact ⟨rfl, fun i r v h => by simp at h⟩
    · rintro ⟨h, -⟩; simp at h ⊢; exact h
  | r :: D, a => by
    unfold allA
    rw [List.mem_flatMap]
    constructor
    · rintro ⟨v, hv, ha⟩
      obtain ⟨b, hb, rfl⟩ := List.mem_map.1 ha
      obtain ⟨h1, h2⟩ := mem_all.1 hb
      refine ⟨by simp [h1], fun i s u hs hu => ?_⟩
      cases i with
      | zero => simp at hs hu; subst hs; subst hu; exact mem_vals.1 hv
      | succ i => simp at hs hu; exact h2 i s u hs hu
    · rintro ⟨h1, h2⟩
      cases a with
      | nil => simp at h1
      | cons v a =>
        refine ⟨v, mem_vals.2 (h2 0 r v rfl rfl), List.mem_map.2 ⟨a, mem_all.2 ⟨by simpa using h1, fun i s u hs hu => h2 (i + 1) s u (by simpa using hs) (by simpa using hu)⟩, rfl⟩⟩
def boxesGo (most : Int) (n : Int) : List (List Rg) → Int
  | [] => n
  | r :: D => if most < sizeV r ∨ most < n * sizeV r then most + 1 else boxesGo most (n * sizeV r) D
theorem len_all : ∀ {D : List (List Rg)} {most n : Int}, Full D → 0 < n → boxesGo most n D ≤ most → n * ((allA D).length : Int) ≤ most ∧ boxesGo most n D = n * ((allA D).length : Int)
  | [], most, n, _, hn, h => by simp [allA, boxesGo] at h ⊢; exact h
  | r :: D, most, n, hF, hn, h => by
    obtain ⟨h1, h2⟩ := hF r (by simp)
    have hw := (right_wf h1).1
    have hl := len_vals hw
    have hs : sizeV r = ((valsGo r).length : Int) := by unfold sizeV; rw [if_pos h1, hl]
    have hp : 0 < sizeV r := by
      rw [hs]
      have := vals_head h1 h2
      cases hq : valsGo r with
      | nil => rw [hq] at this; simp at this
      | cons a l => simp <;> omega
    unfold boxesGo at h ⊢
    by_cases hc : most < sizeV r ∨ most < n * sizeV r
    · rw [if_pos hc] at h; omega
    · rw [if_neg hc] at h ⊢
      obtain ⟨h3, h4⟩ := len_all (D := D) (fun s hs => hF s (by simp [hs])) (Int.mul_pos hn hp) h
      have e : ((allA (r :: D)).length : Int) = sizeV r * ((allA D).length : Int) := by
        have e0 : allA (r :: D) = (valsGo r).flatMap fun v => (allA D).map fun a => v :: a := rfl
        have e1 : ∀ (L : List Int) (c : Nat), (L.map fun _ => c).sum = L.length * c := by
          intro L c
          induction L with
          | nil => simp
          | cons a l ih => simp [ih, Nat.add_mul]; omega
        rw [e0, List.length_flatMap, hs]
        simp only [List.length_map]
        rw [e1]
        simp
      rw [e, ← Int.mul_assoc]
      exact ⟨h3, h4⟩
theorem aft_pre : ∀ {i : Nat} {D : List (List Rg)} {a s : List Int}, a.length = D.length → i ≤ D.length → aft (D.drop i) (a.drop i) = some s → aft D a = some (a.take i ++ s)
  | 0, D, a, s, _, _, h => by simpa using h
  | i + 1, [], a, s, _, hi, _ => by simp at hi
  | i + 1, r :: D, [], s, hl, _, _ => by simp at hl
  | i + 1, r :: D, v :: a, s, hl, hi, h => by
    simp at h hl hi
    have := aft_pre hl hi h
    unfold aft
    rw [this]
    simp
theorem aft_at {D : List (List Rg)} {a : List Int} {i : Nat} {r : List Rg} {v : Int} (hr : D[i]? = some r) (hv : a[i]? = some v) (h : aft (D.drop (i + 1)) (a.drop (i + 1)) = none) : aft (D.drop i) (a.drop i) = (nx r v).map fun n => n :: firstA (D.drop (i + 1)) := by
  rw [drop_at hr, drop_at hv]
  unfold aft
  rw [h]
def aftV (D : List (List Rg)) (a : List Int) : List Int := (aft D a).getD (firstA D)
end Go.Proofs.Ytclpkkbamgmooaa
