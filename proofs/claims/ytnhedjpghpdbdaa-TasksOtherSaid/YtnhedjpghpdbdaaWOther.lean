/- Words for laws that write into what a narrowing gave back: its rows in boxes of their own. -/
import Derived.Test.YtnhedjpghpdbdaaWRows2
import Derived.Test.YtnhedjpghpdbdaaPlMod
namespace Go.Proofs.Ytnhedjpghpdbdaa
open Av
attribute [local irreducible] awp awpOpers
set_option linter.unusedSimpArgs false
set_option linter.unusedVariables false
set_option maxRecDepth 100000
set_option maxHeartbeats 4000000
theorem rowsM_re {p q : Nat} {ix : List Nat} {F : List (List Rg)} (h : ∀ x, x < F.length → getN ix (p + x) = q + x) : renEs ix (rowsM p F F.length) = rowsM q F F.length := by
  by_cases h0 : F.length = 0
  · have : F = [] := List.length_eq_zero_iff.1 h0
    subst this
    rfl
  have hm : (rowsM p F F.length).map (renC ix) = rowsM q F F.length := by
    unfold rowsM
    rw [List.map_map]
    refine List.map_congr_left fun x hx => ?_
    have hx : x < F.length := by simpa using hx
    simp only [Function.comp_apply, if_pos hx, renC, renL, h x hx]
  unfold renEs
  split
  · rename_i hf
    exfalso
    have hmem := List.mem_of_getElem? (rowsM_get (b := p) (F := F) (k := F.length) (x := 0) (by omega))
    have := flatL_mem hf _ hmem
    rw [if_pos (by omega)] at this
    cases this
  · exact hm
theorem rowsM_reW {p q : Nat} {ix : List Nat} {F : List (List Rg)} (h : ∀ x, x < F.length → getN ix (p + x) = q + x) : wkEs (renEs ix (rowsM p F F.length)) (rowsM q F F.length) := by
  rw [rowsM_re h]
  exact wkEs_refl _
theorem rowsM_snoc {b : Nat} {D : List (List Rg)} {k : Nat} {r : List Rg} (h : D[k]? = some r) : rowsM b (D.take (k + 1)) (k + 1) = rowsM b (D.take k) k ++ [.sl 2 (b + k) 0 r.length] := by
  have hk := (List.getElem?_eq_some_iff.1 h).1
  have l1 : (D.take (k + 1)).length = k + 1 := by rw [List.length_take]; omega
  have l0 : (D.take k).length = k := by rw [List.length_take]; omega
  apply List.ext_getElem?
  intro x
  by_cases hx : x < k
  · rw [rowsM_get (by omega), List.getElem?_append_left (by rw [rowsM_len]; omega), rowsM_get (by omega), if_pos (by omega), if_pos hx, List.getElem?_take, List.getElem?_take, if_pos (by omega), if_pos hx]
  · by_cases hxk : x = k
    · subst hxk
      rw [rowsM_get (by omega), List.getElem?_append_right (by rw [rowsM_len]; omega), rowsM_len, l0, Nat.sub_self, if_pos (by omega), List.getElem?_take, if_pos (by omega), h]
      rfl
    · rw [List.getElem?_eq_none (by rw [rowsM_len]; omega), List.getElem?_eq_none (by rw [List.length_append, rowsM_len]; simp; omega)]
theorem rowsM_nil (b : Nat) : rowsM b [] 0 = [] := rfl
theorem emb_own {n : Nat} {ix : List Nat} {bx : Bx} {k sz : Nat} {es xs : List AV} {ks : List Nat} {bs : Bx} (hg : bxGet bx k = some (sz, xs)) (hw : wkEs (renEs ix es) xs) (ho : okEs n es = true) (hr : embB n ix bx ks bs) : embB n ix bx (k :: ks) (some (sz, es) :: bs) := by
  unfold embB
  rw [hg]
  exact ⟨⟨rfl, hw⟩, ho, hr⟩
theorem bxGet_lt : ∀ (R T : Bx) (j : Nat), j < R.length → bxGet (R ++ T) j = bxGet R j
  | [], _, _, h => by simp at h
  | b :: R, T, 0, _ => by cases b <;> rfl
  | b :: R, T, j + 1, h => by
    have := bxGet_lt R T j (by simp only [List.length_cons] at h; omega)
    cases b <;> exact this
theorem renEs_flat (ix : List Nat) {es : List AV} (h : flatL es = true) : wkEs (renEs ix es) es := by
  have : renEs ix es = es := by unfold renEs; rw [h]
  rw [this]
  exact wkEs_refl _
theorem okEs_flat (n : Nat) {es : List AV} (h : flatL es = true) : okEs n es = true := by unfold okEs; rw [h]
theorem rowB_take {F : List (List Rg)} {k : Nat} {r : List Rg} (h : F[k]? = some r) : rowB (F.take k) ++ [some (2, r.map eRg)] = rowB (F.take (k + 1)) := by rw [rowB_snoc, List.take_add_one, h]; rfl
theorem bxGet_end (R : Bx) (x : Option (Nat × List AV)) : bxGet (R ++ [x]) R.length = bxGet [x] 0 := bxGet_pre R [x] 0
/-- rows that grew by one, in a box anew -/
theorem emb_grow {n : Nat} {pre : Bx} {b : Nat} {F : List (List Rg)} {k : Nat} {r : List Rg} {lit : Option (Nat × List AV)} (hr : F[k]? = some r) (hb : b = pre.length) {ix : List Nat} (hix : ∀ x, x < k + 1 → getN ix (b + x) = b + x) (hn : b + (k + 1) ≤ n) :
    embB n ix (pre ++ (rowB (F.take (k + 1)) ++ [lit] ++ [some (1, rowsM b (F.take (k + 1)) (k + 1))])) ((b + k + 2) :: List.range' b (k + 1)) (some (1, rowsM b (F.take (k + 1)) (k + 1)) :: rowB (F.take (k + 1))) := by
  subst hb
  have hk := (List.getElem?_eq_some_iff.1 hr).1
  have hl : (F.take (k + 1)).length = k + 1 := by rw [List.length_take]; omega
  have hR : (rowB (F.take (k + 1))).length = k + 1 := by rw [rowB_len, hl]
  have hrw := rowsM_reW (p := pre.length) (q := pre.length) (ix := ix) (F := F.take (k + 1)) (by rw [hl]; exact hix)
  rw [hl] at hrw
  have hok : okEs n (rowsM pre.length (F.take (k + 1)) (k + 1)) = true := rowsM_ok hn
  generalize rowsM pre.length (F.take (k + 1)) (k + 1) = W at hrw hok ⊢
  refine emb_own (xs := W) ?_ hrw hok ?_
  · rw [Nat.add_assoc, bxGet_pre]
    have h2 := bxGet_end (rowB (F.take (k + 1)) ++ [lit]) (some (1, W))
    rw [List.length_append, hR] at h2
    exact h2
  · have := emb_rows (n := n) (ix := ix) (bx := pre ++ (rowB (F.take (k + 1)) ++ [lit] ++ [some (1, W)])) (rowB (F.take (k + 1))) pre.length (rowB_flat _) (fun j hj => ?_) (by simp only [List.length_append, hR]; omega)
    · rwa [hR] at this
    · rw [bxGet_pre, List.append_assoc, bxGet_lt _ _ _ hj]
theorem rowB_re (ix : List Nat) (F : List (List Rg)) : (rowB F).map (reB ix) = rowB F := by
  unfold rowB
  rw [List.map_map]
  refine List.map_congr_left fun r _ => ?_
  simp only [Function.comp_apply, reB, renEs, flatL_rg]
/-- what a narrowing gave back, behind two boxes -/
theorem callN_rule {P : Program} {fid : FuncId} {args' args : List AV} {K : AV → Bx → Prop} {a b : Option (Nat × List AV)} {F : List (List Rg)}
    (hc : Ctr P fid args' [] (.tuple [.sl 1 0 0 F.length, .int .i64 0]) (some (1, rowsM 1 F F.length) :: rowB F))
    (ho : args'.all (okR 0) = true) (hw : wkL (args'.map (ren [])) args)
    (h : K (.tuple [.sl 1 2 0 F.length, .int .i64 0]) (a :: b :: some (1, rowsM 3 F F.length) :: rowB F)) : CallOK P (.fn (.func fid) []) args K [a, b] := by
  refine callO_rule hc ho hw ?_ ?_ ?_
  · simp [okR, okC, okL, AV.flat]
  · simp only [okBx, List.length_cons, rowB_len, Bool.and_eq_true]
    exact ⟨rowsM_ok (by omega), okBx_flat _ (rowB_flat _)⟩
  · have e1 : ren (newIx [a, b].length (some (1, rowsM 1 F F.length) :: rowB F).length) (.tuple [.sl 1 0 0 F.length, .int .i64 0]) = .tuple [.sl 1 2 0 F.length, .int .i64 0] := by
      have hg : getN (newIx [a, b].length (some (1, rowsM 1 F F.length) :: rowB F).length) 0 = 2 := getN_eq _ _ _ (newIx_get _ _ _ (by simp))
      simp only [ren, List.map_cons, List.map_nil, renC, renL, hg]
    have e2 : (some (1, rowsM 1 F F.length) :: rowB F).map (reB (newIx [a, b].length (some (1, rowsM 1 F F.length) :: rowB F).length)) = some (1, rowsM 3 F F.length) :: rowB F := by
      rw [List.map_cons, rowB_re]
      simp only [reB]
      rw [rowsM_re (p := 1) (q := 3)]
      intro x hx
      refine getN_eq _ _ _ ?_
      rw [newIx_get _ _ _ (by simp [rowB_len]; omega)]
      simp only [List.length_cons, List.length_nil]
      congr 1
      omega
    rw [e1, e2]
    exact h
theorem rowsM_own {b : Nat} {F : List (List Rg)} {k : Nat} {r : List Rg} (h : F[k]? = some r) : (rowsM b F F.length)[k]? = some (.sl 2 (b + k) 0 r.length) := by
  have hk := (List.getElem?_eq_some_iff.1 h).1
  rw [rowsM_get hk, if_pos hk, h]
  rfl
theorem rowsM_congr {b : Nat} {F : List (List Rg)} {n : Nat} (h : F.length = n) : (rowsM b F n).length = n := by rw [rowsM_len, h]
theorem bxGet3 (a b c : Option (Nat × List AV)) (R : Bx) (k : Nat) : bxGet (a :: b :: c :: R) (3 + k) = bxGet R k := by rw [Nat.add_comm 3 k]; rfl
theorem bxSet3 (a b c : Option (Nat × List AV)) (R : Bx) (k : Nat) (v : Option (Nat × List AV)) : bxSet (a :: b :: c :: R) (3 + k) v = a :: b :: c :: bxSet R k v := by rw [Nat.add_comm 3 k]; rfl
theorem rowB_set : ∀ (F : List (List Rg)) (k : Nat) (r : List Rg), bxSet (rowB F) k (some (2, r.map eRg)) = rowB (F.set k r)
  | [], k, r => rfl
  | _ :: F, 0, r => rfl
  | x :: F, k + 1, r => by
    have := rowB_set F k r
    unfold rowB at this ⊢
    simp only [List.map_cons, List.set_cons_succ, bxSet, this]
/-- a row, the least ends of its first i ranges 77 -/
def t77 (r : List Rg) (i : Nat) : List Rg := (r.take i).map (fun p => (77, p.2)) ++ r.drop i
theorem t77_len (r : List Rg) (i : Nat) : (t77 r i).length = r.length := by unfold t77; rw [List.length_append, List.length_map, List.length_take, List.length_drop]; omega
theorem t77_zero (r : List Rg) : t77 r 0 = r := by unfold t77; simp
theorem t77_at {r : List Rg} {i : Nat} {p : Rg} (h : r[i]? = some p) : (t77 r i)[i]? = some p := by
  have hi := (List.getElem?_eq_some_iff.1 h).1
  unfold t77
  rw [List.getElem?_append_right (by rw [List.length_map, List.length_take]; omega), List.length_map, List.length_take, List.getElem?_drop]
  rw [show i + (i - min i r.length) = i by omega]
  exact h
theorem t77_set {r : List Rg} {i : Nat} {p : Rg} (h : r[i]? = some p) : (t77 r i).set i (77, p.2) = t77 r (i + 1) := by
  have hi := (List.getElem?_eq_some_iff.1 h).1
  unfold t77
  have hd := drop_at h
  rw [hd, ← take_snoc h, List.map_append, List.set_append_right _ _ (by rw [List.length_map, List.length_take]; omega), List.length_map, List.length_take]
  rw [show i - min i r.length = 0 by omega]
  simp
theorem t77_seteq {r : List Rg} {i : Nat} {p : Rg} (h : r[i]? = some p) : ((t77 r i).map eRg).set i (.agg [.int .i64 77, .int .i64 p.2]) = (t77 r (i + 1)).map eRg := by
  rw [← t77_set h, List.map_set]; rfl
/-- the boxes that such a law walks with -/
def oB (c : Con) (D G F : List (List Rg)) : Bx := some (4, [eCon c]) :: some (1, D.map eRgs) :: some (1, rowsM 3 G G.length) :: rowB F
theorem oB_eq (c : Con) (D G F : List (List Rg)) : oB c D G F = some (4, [eCon c]) :: some (1, D.map eRgs) :: some (1, rowsM 3 G G.length) :: rowB F := rfl
theorem doms_ok (n : Nat) (D : List (List Rg)) : okEs n (D.map eRgs) = true := by
  unfold okEs
  split
  · rfl
  · rw [List.all_eq_true]
    intro v hv
    obtain ⟨r, -, rfl⟩ := List.mem_map.1 hv
    exact okC_rgs n r
theorem oB_len (c : Con) (D G F : List (List Rg)) : (oB c D G F).length = F.length + 3 := by unfold oB; simp [rowB_len]
theorem oB_ok (c : Con) (D : List (List Rg)) {G F : List (List Rg)} (h : F.length = G.length) : okBx (oB c D G F).length (oB c D G F) = true := by
  rw [oB_len]
  unfold oB
  simp only [okBx, Bool.and_eq_true]
  refine ⟨?_, doms_ok _ _, rowsM_ok (by omega), okBx_flat _ (rowB_flat _)⟩
  have : flatL [eCon c] = true := rfl
  unfold okEs
  rw [this]
theorem oB_emb {l' l : List AV} {c : Con} {D G F : List (List Rg)} (h : F.length = G.length) (ht : embT (F.length + 3) (List.range (F.length + 3)) l' l) : Emb 0 l' (oB c D G F) l (oB c D G F) := by
  rw [← oB_len c D G F] at ht
  exact Emb_same (Nat.zero_le _) (oB_ok c D h) ht
theorem set_same {F : List (List Rg)} {k : Nat} {r : List Rg} (h : F[k]? = some r) : F.set k r = F := by
  apply List.ext_getElem?
  intro j
  rw [List.getElem?_set]
  split
  · rename_i e; subst e
    rw [h]
    split
    · rfl
    · rename_i hn; exact absurd (List.getElem?_eq_some_iff.1 h).1 hn
  · rfl
theorem oB_0 (c : Con) (D G F : List (List Rg)) : bxGet (oB c D G F) 0 = some (4, [eCon c]) := rfl
theorem oB_1 (c : Con) (D G F : List (List Rg)) : bxGet (oB c D G F) 1 = some (1, D.map eRgs) := rfl
theorem oB_2 (c : Con) (D G F : List (List Rg)) : bxGet (oB c D G F) 2 = some (1, rowsM 3 G G.length) := rfl
theorem oB_row {c : Con} {D G F : List (List Rg)} {k : Nat} {r : List Rg} (h : F[k]? = some r) : bxGet (oB c D G F) (3 + k) = some (2, r.map eRg) := by
  unfold oB
  rw [bxGet3]
  exact rowB_get h
theorem oB_put (c : Con) (D G F : List (List Rg)) (k : Nat) (r : List Rg) : bxSet (oB c D G F) (3 + k) (some (2, r.map eRg)) = oB c D G (F.set k r) := by
  unfold oB
  rw [bxSet3, rowB_set]
/-- the copies that are made of domains, one by one -/
def wasR (D : List (List Rg)) (k : Nat) : List AV := (D.take k).map eRgs ++ List.replicate (D.length - k) .nils
theorem wasR_len (D : List (List Rg)) {k : Nat} (h : k ≤ D.length) : (wasR D k).length = D.length := by
  unfold wasR
  rw [List.length_append, List.length_map, List.length_take, List.length_replicate]; omega
theorem wasR_zero (D : List (List Rg)) : wasR D 0 = List.replicate D.length .nils := by unfold wasR; simp
theorem wasR_full (D : List (List Rg)) : wasR D D.length = D.map eRgs := by unfold wasR; simp
theorem wasR_set {D : List (List Rg)} {k : Nat} {r : List Rg} (h : D[k]? = some r) : (wasR D k).set k (eRgs r) = wasR D (k + 1) := by
  have hk := (List.getElem?_eq_some_iff.1 h).1
  unfold wasR
  rw [← take_snoc h, List.map_append, List.set_append_right _ _ (by rw [List.length_map, List.length_take]; omega), List.length_map, List.length_take]
  rw [show k - min k D.length = 0 by omega]
  obtain ⟨m, hm⟩ : ∃ m, D.length - k = m + 1 := ⟨D.length - k - 1, by omega⟩
  rw [hm, List.replicate_succ, List.set_cons_zero, show D.length - (k + 1) = m by omega]
  simp
theorem wasR_at {D : List (List Rg)} {k : Nat} (h : k < D.length) : (wasR D k)[k]? = some .nils := by
  unfold wasR
  rw [List.getElem?_append_right (by rw [List.length_map, List.length_take]; omega), List.length_map, List.length_take, List.getElem?_replicate, if_pos (by omega)]
theorem wasR_flat (D : List (List Rg)) (k : Nat) : flatL (wasR D k) = true := by
  have h : ∀ (l : List AV), (∀ v ∈ l, v.flat = true) → flatL l = true := by
    intro l
    induction l with
    | nil => intro _; rfl
    | cons x l ih =>
      intro h
      simp only [flatL, Bool.and_eq_true]
      exact ⟨h x List.mem_cons_self, ih fun v hv => h v (List.mem_cons_of_mem _ hv)⟩
  refine h _ fun v hv => ?_
  unfold wasR at hv
  rcases List.mem_append.1 hv with h1 | h1
  · obtain ⟨r, -, rfl⟩ := List.mem_map.1 h1
    exact flat_eRgs r
  · rw [(List.mem_replicate.1 h1).2]; rfl
theorem le_rowsO {E D : List (List Rg)} (hle : LeD E D) : ∀ d ∈ E, d.length ≤ 1000000000000 := by
  intro d hd
  obtain ⟨i, hi, rfl⟩ := List.getElem_of_mem hd
  have hs := hle.2 (i : Int) (by omega) (by have := hle.1; omega)
  have e : rowOf E (i : Int) = E[i] := by unfold rowOf; rw [Int.toNat_natCast, List.getElem?_eq_getElem hi]; rfl
  rw [e] at hs
  have := right_length hs.1
  omega
theorem anyUp {X : List Int} {k : Nat} {x y : Int} (h : X[k]? = some y) : ((X.take (k + 1)).any fun z => decide (x = z)) = (((X.take k).any fun z => decide (x = z)) || decide (x = y)) := by
  rw [← take_snoc h, List.any_append]; simp
end Go.Proofs.Ytnhedjpghpdbdaa
