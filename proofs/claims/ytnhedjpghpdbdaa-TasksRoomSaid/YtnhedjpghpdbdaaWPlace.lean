/- What tasks.place computes, up to its range over slices.Backward. -/
import Derived.RangeFuncNested
import Derived.RangeFuncLeaves
import Derived.Test.YtnhedjpghpdbdaaWTask3
import Derived.Test.YtnhedjpghpdbdaaCPlace
import Derived.Test.YtnhedjpghpdbdaaCBack
import Derived.Test.YtnhedjpghpdbdaaWBack
namespace Go.Proofs.Ytnhedjpghpdbdaa
open Av
attribute [local irreducible] awp awpOpers
set_option linter.unusedSimpArgs false
set_option linter.unusedVariables false
set_option maxRecDepth 100000
set_option maxHeartbeats 4000000
def cCodes (P : Program) (mt : FuncId → Nat) : List Code → Option (List ACode)
  | [] => some []
  | c :: cs => match cCode P mt c, cCodes P mt cs with
    | some x, some xs => some (x :: xs)
    | _, _ => none
def awpL (P : Program) (Q : APost) (K : List AV → Bx → Prop) : List ACode → List AV → Bx → Prop
  | [] => K
  | c :: cs => awp P 0 c (seqQ (awpL P Q K cs) Q)
theorem awpL_nil (P : Program) (Q : APost) (K : List AV → Bx → Prop) (l : List AV) (bx : Bx) : awpL P Q K [] l bx = K l bx := rfl
theorem awpL_cons (P : Program) (Q : APost) (K : List AV → Bx → Prop) (c : ACode) (cs : List ACode) (l : List AV) (bx : Bx) : awpL P Q K (c :: cs) l bx = awp P 0 c (seqQ (awpL P Q K cs) Q) l bx := rfl
section
variable {w0 : World} {pr : Fz} {P : Program}
/-- a row of codes by abstract code, and what is behind it by hand -/
theorem wpIn_awpL {mt : FuncId → Nat} {r : Code} {n : Nat} {K : List AV → Bx → Prop} {Q : APost} {R : Exit → Act → World → Prop} : ∀ (cs : List Code) (acs : List ACode), cCodes P mt cs = some acs → ∀ (l : List AV) (bx : Bx) (fz : Fz) (pl : Pl) (a : Act) (w : World), awpL P Q K acs l bx → RepT fz pl l a → Sim w0 pr fz pl bx w →
    (∀ l' bx' a' w' fz' pl', K l' bx' → FzLe fz fz' → RepT fz' pl' l' a' → Sim w0 pr fz' pl' bx' w' → a'.defers = a.defers → r.wpIn Fence.wide n P R a' w') →
    (∀ e l' bx' a' w' fz' pl', e ≠ .normal → Q e l' bx' → FzLe fz fz' → RepT fz' pl' l' a' → Sim w0 pr fz' pl' bx' w' → a'.defers = a.defers → R e.toExit a' w') → (cs.foldr Code.seq r).wpIn Fence.wide n P R a w
  | [], acs, hc, l, bx, fz, pl, a, w, h, hT, hS, hK, hQ => by
    simp only [cCodes] at hc
    injection hc with hc
    subst hc
    exact hK _ _ _ _ _ _ h (.refl _) hT hS rfl
  | c :: cs, acs, hc, l, bx, fz, pl, a, w, h, hT, hS, hK, hQ => by
    simp only [cCodes] at hc
    split at hc
    · rename_i x xs h1 h2
      injection hc with hc
      subst hc
      refine wpIn_seq (wpIn_wide.2 (awp_sound (m := 0) c x h1 _ l bx fz pl a w h hT hS (Nat.zero_le _) _ ?_))
      intro e l' bx' a' w' fz' pl' hq k1 _ _ hT' hS' hd
      cases e with
      | normal => exact wpIn_awpL cs xs h2 l' bx' fz' pl' a' w' hq hT' hS' (fun l2 bx2 a2 w2 fz2 pl2 p1 p2 p3 p4 p5 => hK l2 bx2 a2 w2 fz2 pl2 p1 (k1.trans p2) p3 p4 (p5.trans hd)) (fun e2 l2 bx2 a2 w2 fz2 pl2 p0 p1 p2 p3 p4 p5 => hQ e2 l2 bx2 a2 w2 fz2 pl2 p0 p1 (k1.trans p2) p3 p4 (p5.trans hd))
      | ret => exact hQ .ret _ _ _ _ _ _ (by simp) hq k1 hT' hS' hd
      | exit i => exact hQ (.exit i) _ _ _ _ _ _ (by simp) hq k1 hT' hS' hd
    · cases hc
end
theorem slices_Back (S : List Rg) : Ctr Try.prog 85 [.list 2 (S.map eRg)] [] (.fn (.func 121) [.rptr [.list 2 (S.map eRg)]]) [] := by
  refine call_pure Try.func85 Try.call85 e_slices_Backward_stasks_stretch_tasks_stretch ?_
  simp +contextual -implicitDefEqProofs (maxSteps := 1000000) only [c_slices_Backward_stasks_stretch_tasks_stretch, sm, sn, sxx, seval]
/-- what is to be done behind: the closure, the three boxes -/
def placeK (S : List Rg) (lo hi : Int) (a b c d e : Int) (l : List AV) (bx : Bx) : Prop :=
  l.length = 94 ∧ getT l 69 = .fn (.func 121) [.rptr [.list 2 (S.map eRg)]] ∧ getT l 4 = .ptr 2 0 0 0 ∧ getT l 5 = .ptr 5 1 0 0 ∧ getT l 6 = .ptr 2 2 0 0 ∧
    bx = [some (2, [.agg [.int .i64 0, .int .i64 0]]), some (5, [.agg [.int .i64 a, .int .i64 b, .int .i64 c, .int .i64 d, .int .i64 e]]), some (2, [.agg [.int .i64 lo, .int .i64 hi]])]
theorem loF_snoc (long : Int) (S : List Rg) (x : Rg) (l : Int) : loF long (S ++ [x]) l = if x.1 < loF long S l + long ∧ loF long S l < x.2 then x.2 else loF long S l := by
  unfold loF
  rw [List.foldl_append]
  rfl
theorem loF_in {long : Int} {S : List Rg} (hS : ∀ x ∈ S, inStr x) : ∀ {l : Int}, -2097152 ≤ l ∧ l ≤ 2097152 → -2097152 ≤ loF long S l ∧ loF long S l ≤ 2097152 := by
  induction S with
  | nil => intro l h; exact h
  | cons x S ih =>
    intro l h
    rw [loF_cons]
    have hx := hS x List.mem_cons_self
    unfold inStr at hx
    refine ih (fun y hy => hS y (List.mem_cons_of_mem _ hy)) ?_
    split <;> omega
theorem tight_in {E : List Rg} {A : List Int} {C : Int} (h : TaskOk E A C) (i : Nat) : ∀ x ∈ tightT E A C i, inStr x := by
  intro x hx
  obtain ⟨k, -, -, rfl⟩ := (mem_strN _).1 hx
  have h1 := marks_val h i k
  have h2 := marks_val h i (k + 1)
  exact ⟨h1, h2⟩
theorem tight_len {E : List Rg} {A : List Int} {C : Int} (h : TaskOk E A C) (i : Nat) : (tightT E A C i).length ≤ 64 := by
  have h1 := strN_len E A C i (marksV E A i) ((marksV E A i).length - 1)
  have h2 := marksV_len E A i
  have h3 := h.1
  unfold tightT
  omega
def placeQ (E : List Rg) (A : List Int) (C : Int) (i : Nat) : APost
  | .ret, l, bx => finP [.cell 4 true 2] (eRg (placeT E A C i)) .ret l bx
  | _, _, _ => False
theorem placeQ_eq (E : List Rg) (A : List Int) (C : Int) (i : Nat) (l : List AV) (bx : Bx) : placeQ E A C i .ret l bx = finP [.cell 4 true 2] (eRg (placeT E A C i)) .ret l bx := rfl
theorem place_ahead (E : List Rg) (A X : List Int) (C : Int) (i : Nat) (h : TaskOk E A C) (hi : i < E.length) :
    awpL Try.prog (placeQ E A C i) (awpL Try.prog (fun _ _ _ => False) (fun l bx => xat A i ≠ 0 ∧ ¬ C < needT E A i ∧ placeK (tightT E A C i) (loF (xat A i) (tightT E A C i) (edAt E i).1) (edAt E i).2 (edAt E i).1 (edAt E i).2 (xat A i) (needT E A i) (xat X i) l bx) [c_place7])
      [c_place0, c_place1, c_place2, c_place3, c_place4, c_place5, c_place6] ([shopP E A X C, .int .i64 i] ++ List.replicate 92 .any) [] := by
  have hn := h.1
  have hl := tkL_len E A X
  have hti := shop_tight E A X C i h hi
  have hg := tkL_get (A := A) X hi
  have hSl := tight_len h i
  have hSi := tight_in h i
  have hrg := task_rg h i
  have hA := task_at h i
  have hB := slices_Back (tightT E A C i)
  have hp : placeT E A C i = if xat A i = 0 then edAt E i else if C < needT E A i then (1, 0) else (loF (xat A i) (tightT E A C i) (edAt E i).1, hiF (xat A i) (tightT E A C i) (edAt E i).2) := rfl
  have hpe : edAt E i = ((edAt E i).1, (edAt E i).2) := rfl
  simp +contextual -implicitDefEqProofs (maxSteps := 1000000) only [awpL_cons, awpL_nil, c_place0, c_place1, shopP_eq, sm, sn, sxx, seval, hl, hi]
  simp only [shopP_eq] at hti
  generalize tkL E A X = L at hl hg hti ⊢
  generalize tightT E A C i = S at hti hB hSl hSi hp ⊢
  generalize (edAt E i).1 = a1 at hg hp hpe hrg ⊢
  generalize (edAt E i).2 = a2 at hg hp hpe hrg ⊢
  generalize needT E A i = nd at hg hp ⊢
  generalize xat A i = lg at hg hp hA ⊢
  generalize xat X i = xx at hg ⊢
  by_cases h0 : lg = 0
  · rw [if_pos h0, hpe] at hp
    simp +contextual -implicitDefEqProofs (maxSteps := 1000000) only [sm, sn, sxx, seval, awpL_cons, awpL_nil, hg, om_Tk, c_place2, h0, placeQ_eq, hp, eRg]
  rw [if_neg h0] at hp
  by_cases hc : C < nd
  · rw [if_pos hc] at hp
    simp +contextual -implicitDefEqProofs (maxSteps := 1000000) only [sm, sn, sxx, seval, awpL_cons, awpL_nil, hg, om_Tk, c_place2, c_place3, c_place4, h0, hc, placeQ_eq, hp, eRg]
  rw [if_neg hc] at hp
  simp +contextual -implicitDefEqProofs (maxSteps := 1000000) only [sm, sn, sxx, seval, awpL_cons, awpL_nil, hg, om_Tk, c_place2, c_place3, c_place4, c_place5, h0, hc]
  refine callA_rule hti (by simp +contextual -implicitDefEqProofs (maxSteps := 1000000) only [sm, sn, sxx, seval]) rfl ?_
  simp +contextual -implicitDefEqProofs (maxSteps := 1000000) only [sm, sn, sxx, seval, awpL_cons, awpL_nil, c_place6]
  refine loop_rule (fun k : Nat => k ≤ S.length) (fun k => tm 94 [(0, .rptr [.list 5 (L.map eTk), .int .i64 C]), (4, .ptr 2 0 0 0), (5, .ptr 5 1 0 0), (6, .ptr 2 2 0 0), (7, .list 2 (S.map eRg)), (43, .list 2 (S.map eRg)), (44, .int .i64 S.length), (45, .int .i64 k)])
    (fun k => [some (2, [.agg [.int .i64 0, .int .i64 0]]), some (5, [.agg [.int .i64 a1, .int .i64 a2, .int .i64 lg, .int .i64 nd, .int .i64 xx]]), some (2, [.agg [.int .i64 (loF lg (S.take k) a1), .int .i64 a2]])]) (fun k => S.length - k) 0 (Nat.zero_le _) ⟨[0, 1, 2], by decide, rfl, ?_, ?_⟩ ?_
  · simp +contextual -implicitDefEqProofs (maxSteps := 1000000) only [sm, sn, sxx, seval, List.take_zero, loF, List.foldl_nil]
  · simp +contextual -implicitDefEqProofs (maxSteps := 1000000) only [sm, sn, sxx, seval, Int.natCast_zero]
  intro k hk
  have hlo := loF_in (long := lg) (S := S.take k) (fun x hx => hSi x (List.mem_of_mem_take hx)) (l := a1) (by omega)
  by_cases hlt : k < S.length
  · have hlt' : (k : Int) < (S.length : Int) := by omega
    have e2 : IntKind.i64.wrap ((k : Int) + 1) = ((k + 1 : Nat) : Int) := by rw [wrap_i64] <;> omega
    obtain ⟨⟨p, q⟩, hx⟩ : ∃ r, S[k]? = some r := ⟨_, List.getElem?_eq_getElem hlt⟩
    have hst : loF lg (S.take (k + 1)) a1 = if p < loF lg (S.take k) a1 + lg ∧ loF lg (S.take k) a1 < q then q else loF lg (S.take k) a1 := by
      rw [← take_snoc hx, loF_snoc]
    generalize loF lg (S.take k) a1 = lo at hlo hst ⊢
    have w1 : IntKind.i64.wrap (lo + lg) = lo + lg := by rw [wrap_i64] <;> omega
    by_cases q1 : p < lo + lg
    · by_cases q2 : lo < q
      · rw [if_pos ⟨q1, q2⟩] at hst
        simp +contextual -implicitDefEqProofs (maxSteps := 1000000) only [sm, sn, sxx, seval, hlt', hx, w1, q1, q2, e2]
        refine ⟨k + 1, by omega, by omega, [0, 1, 2], by decide, rfl, ?_, ?_⟩
        · simp +contextual -implicitDefEqProofs (maxSteps := 1000000) only [sm, sn, sxx, seval, hst]
        · simp +contextual -implicitDefEqProofs (maxSteps := 1000000) only [sm, sn, sxx, seval]
      · rw [if_neg (fun h => q2 h.2)] at hst
        simp +contextual -implicitDefEqProofs (maxSteps := 1000000) only [sm, sn, sxx, seval, hlt', hx, w1, q1, q2, e2]
        refine ⟨k + 1, by omega, by omega, [0, 1, 2], by decide, rfl, ?_, ?_⟩
        · simp +contextual -implicitDefEqProofs (maxSteps := 1000000) only [sm, sn, sxx, seval, hst]
        · simp +contextual -implicitDefEqProofs (maxSteps := 1000000) only [sm, sn, sxx, seval]
    · rw [if_neg (fun h => q1 h.1)] at hst
      simp +contextual -implicitDefEqProofs (maxSteps := 1000000) only [sm, sn, sxx, seval, hlt', hx, w1, q1, e2]
      refine ⟨k + 1, by omega, by omega, [0, 1, 2], by decide, rfl, ?_, ?_⟩
      · simp +contextual -implicitDefEqProofs (maxSteps := 1000000) only [sm, sn, sxx, seval, hst]
      · simp +contextual -implicitDefEqProofs (maxSteps := 1000000) only [sm, sn, sxx, seval]
  · have hkn : k = S.length := by omega
    subst hkn
    rw [List.take_length]
    simp +contextual -implicitDefEqProofs (maxSteps := 1000000) only [sm, sn, sxx, seval, Int.lt_irrefl, c_place7, awpL_cons, awpL_nil]
    refine callA_rule hB (by simp +contextual -implicitDefEqProofs (maxSteps := 1000000) only [sm, sn, sxx, seval]) rfl ?_
    simp +contextual -implicitDefEqProofs (maxSteps := 1000000) only [sm, sn, sxx, seval, awpL_nil, placeK]
    try exact ⟨rfl, rfl, rfl, rfl, rfl, rfl⟩
end Go.Proofs.Ytnhedjpghpdbdaa
