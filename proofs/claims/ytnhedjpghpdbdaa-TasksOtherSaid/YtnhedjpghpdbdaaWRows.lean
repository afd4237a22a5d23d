/- Any number of boxes, one behind another: that they are among others, by their places. -/
import Derived.Test.YtnhedjpghpdbdaaWFrz
namespace Go.Proofs.Ytnhedjpghpdbdaa
open Av
attribute [local irreducible] awp awpOpers
set_option linter.unusedSimpArgs false
set_option linter.unusedVariables false
theorem bxGet_pre : ∀ (pre R : Bx) (j : Nat), bxGet (pre ++ R) (pre.length + j) = bxGet R j
  | [], R, j => by simp
  | b :: pre, R, j => by
    have := bxGet_pre pre R j
    have e : (b :: pre).length + j = (pre.length + j) + 1 := by simp; omega
    rw [e]
    simpa [bxGet] using this
/-- such boxes hold flat elements alone -/
def FlatB (R : Bx) : Prop := ∀ j sz es, bxGet R j = some (sz, es) → flatL es = true
theorem flatB_cons {b : Option (Nat × List AV)} {R : Bx} (h : FlatB (b :: R)) : FlatB R := fun j sz es hj => h (j + 1) sz es hj
theorem emb_rows {n : Nat} {ix : List Nat} {bx : Bx} : ∀ (R : Bx) (s : Nat), FlatB R → (∀ j, j < R.length → bxGet bx (s + j) = bxGet R j) → s + R.length ≤ bx.length → embB n ix bx (List.range' s R.length) R
  | [], s, _, _, _ => trivial
  | none :: R, s, hf, h, hl => by
    simp only [List.length_cons] at hl
    show embB n ix bx (s :: List.range' (s + 1) R.length) (none :: R)
    refine ⟨by omega, emb_rows R (s + 1) (flatB_cons hf) (fun j hj => ?_) (by omega)⟩
    have := h (j + 1) (by simp; omega)
    rw [show s + 1 + j = s + (j + 1) by omega]
    exact this
  | some (sz, es) :: R, s, hf, h, hl => by
    simp only [List.length_cons] at hl
    have hfe : flatL es = true := hf 0 sz es rfl
    have h0 := h 0 (by simp)
    show embB n ix bx (s :: List.range' (s + 1) R.length) (some (sz, es) :: R)
    have hg : bxGet bx s = some (sz, es) := by rw [Nat.add_zero] at h0; exact h0
    have hren : renEs ix es = es := by unfold renEs; rw [hfe]
    have hok : okEs n es = true := by unfold okEs; rw [hfe]
    simp only [embB, hg]
    refine ⟨⟨trivial, by rw [hren]; exact wkEs_refl es⟩, hok, emb_rows R (s + 1) (flatB_cons hf) (fun j hj => ?_) (by omega)⟩
    have := h (j + 1) (by simp; omega)
    rw [show s + 1 + j = s + (j + 1) by omega]
    exact this
/-- the boxes behind the first ones -/
theorem emb_tail {n : Nat} {ix : List Nat} (pre R : Bx) (hf : FlatB R) : embB n ix (pre ++ R) (List.range' pre.length R.length) R :=
  emb_rows R pre.length hf (fun j _ => bxGet_pre pre R j) (by simp)
/-- rows as boxes of their own -/
def rowB (F : List (List Rg)) : Bx := F.map fun r => some (2, r.map eRg)
theorem rowB_len (F : List (List Rg)) : (rowB F).length = F.length := by unfold rowB; simp
theorem rowB_get {F : List (List Rg)} {j : Nat} {r : List Rg} (h : F[j]? = some r) : bxGet (rowB F) j = some (2, r.map eRg) := by
  rw [bxGet_eq]
  unfold rowB
  rw [List.getElem?_map, h]
  rfl
theorem flatL_rg (r : List Rg) : flatL (r.map eRg) = true := by
  induction r with
  | nil => rfl
  | cons a r ih => simp only [List.map_cons, flatL, ih]; rfl
theorem rowB_flat (F : List (List Rg)) : FlatB (rowB F) := by
  intro j sz es h
  rw [bxGet_eq] at h
  unfold rowB at h
  rw [List.getElem?_map] at h
  cases hj : F[j]? with
  | none => rw [hj] at h; cases h
  | some r =>
    rw [hj] at h
    simp only [Option.map_some, Option.getD_some, Option.some.injEq, Prod.mk.injEq] at h
    obtain ⟨-, rfl⟩ := h
    exact flatL_rg r
theorem rowB_snoc (F : List (List Rg)) (r : List Rg) : rowB F ++ [some (2, r.map eRg)] = rowB (F ++ [r]) := by unfold rowB; simp
/-! the same boxes, by the same numbers -/
theorem getN_range {n k : Nat} (h : k < n) : getN (List.range n) k = k := getN_eq _ _ _ (List.getElem?_range h)
theorem renL_id {n : Nat} {v : AV} (h : okL n v = true) : renL (List.range n) v = v := by
  cases v with
  | ptr sz k i off =>
    simp only [okL, decide_eq_true_eq] at h
    simp only [renL, getN_range h]
  | sl sz k off m =>
    simp only [okL, decide_eq_true_eq] at h
    simp only [renL, getN_range h]
  | _ => rfl
theorem renC_id {n : Nat} {v : AV} (h : okC n v = true) : renC (List.range n) v = v := by
  cases v with
  | agg l =>
    simp only [okC, List.all_eq_true] at h
    simp only [renC, AV.agg.injEq]
    have : l.map (renL (List.range n)) = l.map id := List.map_congr_left fun x hx => by rw [renL_id (h x hx)]; rfl
    rw [this, List.map_id]
  | ptr sz k i off => exact renL_id (v := .ptr sz k i off) h
  | sl sz k off m => exact renL_id (v := .sl sz k off m) h
  | _ => rfl
theorem renEs_id {n : Nat} {es : List AV} (h : okEs n es = true) : renEs (List.range n) es = es := by
  unfold renEs
  split
  · rfl
  · rename_i hf
    unfold okEs at h
    rw [hf] at h
    simp only [List.all_eq_true] at h
    have : es.map (renC (List.range n)) = es.map id := List.map_congr_left fun x hx => by rw [renC_id (h x hx)]; rfl
    rw [this, List.map_id]
theorem emb_id {n : Nat} : ∀ (bs pre bx : Bx), bx = pre ++ bs → bx.length = n → okBx n bs = true → embB n (List.range n) bx (List.range' pre.length bs.length) bs
  | [], pre, bx, _, _, _ => trivial
  | none :: bs, pre, bx, hb, hl, ho => by
    show embB n (List.range n) bx (pre.length :: List.range' (pre.length + 1) bs.length) (none :: bs)
    have h := emb_id bs (pre ++ [none]) bx (by rw [hb]; simp) hl (by simpa [okBx] using ho)
    rw [List.length_append] at h
    exact ⟨by rw [hb]; simp, h⟩
  | some (sz, es) :: bs, pre, bx, hb, hl, ho => by
    show embB n (List.range n) bx (pre.length :: List.range' (pre.length + 1) bs.length) (some (sz, es) :: bs)
    simp only [okBx, Bool.and_eq_true] at ho
    have h := emb_id bs (pre ++ [some (sz, es)]) bx (by rw [hb]; simp) hl ho.2
    rw [List.length_append] at h
    have hg : bxGet bx pre.length = some (sz, es) := by
      rw [hb]
      have := bxGet_pre pre (some (sz, es) :: bs) 0
      rw [Nat.add_zero] at this
      rw [this]
      rfl
    simp only [embB, hg]
    refine ⟨⟨trivial, ?_⟩, ho.1, h⟩
    rw [renEs_id ho.1]
    exact wkEs_refl es
/-- the same boxes, fewer slots -/
theorem Emb_same {m : Nat} {l' l : List AV} {bx : Bx} (hm : m ≤ bx.length) (ho : okBx bx.length bx = true) (ht : embT bx.length (List.range bx.length) l' l) : Emb m l' bx l bx := by
  refine ⟨List.range bx.length, List.nodup_range, ?_, ?_, ht⟩
  · rw [List.take_range, Nat.min_eq_left hm]
  · have := emb_id bx [] bx rfl rfl ho
    rwa [List.length_nil, ← List.range_eq_range'] at this
end Go.Proofs.Ytnhedjpghpdbdaa
