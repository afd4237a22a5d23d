/- Old walks over sets (App, SetR1, SetR2, SetR3, SetR4, SetR5, SetR6). -/
import Derived.Maps.AppendAt
import Derived.Deep.AppendLies
import Derived.RegionTactic
import Derived.OwnWalk
import Derived.Test.YtjdlfmcnjpiaoaaOldB
/- append onto a row of the call's own, the source nil, empty or not: at a plain list of operations and at a step of a region that draws its order. -/
namespace Go.Proofs.Ytjdlfmcnjpiaoaa.Old
open Go.RowKit
set_option linter.unusedVariables false
section
variable {P : Program} (w : World)
theorem run_append_nil (base : Nat) (t ty e : TypeId) (i : TypeInfo) (size : Nat) (ht : P.underlying t = some (.slice e)) (hi : P.info? e = some i)
    (v : Value) (n : Nat) (xs : List Value) (hown : w.ownsRow base e size v n xs) (c : Nat) : (Builtin.append_ #[t, t] ty #[v, .slice none 0 c]).run P w = .ok v w := by
  rcases hown.2 with ⟨rfl, rfl⟩ | ⟨g, cap, cur, rfl, _, _, hnc, _⟩
  · simp [Builtin.append_, run_underlying ht, sizeOf, typeInfo, hi, Builtin.lenOf, Builtin.firstCells]
  · simp [Builtin.append_, run_underlying ht, sizeOf, typeInfo, hi, Builtin.lenOf, Builtin.firstCells, hnc, storeCells]

theorem run_append_cells (base : Nat) (t ty e : TypeId) (z : Value) (size bytes : Nat) (ht : P.underlying t = some (.slice e))
    (hinfo : (P.info? e).map (fun i => (i.zero, i.size, i.bytes)) = some (some z, size, bytes)) (hzs : z.cells.size = size) (hsz : 0 < size) (hby : bytes ≤ 64)
    (v : Value) (n : Nat) (xs : List Value) (hown : w.ownsRow base e size v n xs)
    (x : Value) (lo hi m : Nat) (news : List Value) (hr : CellsR w lo hi x m size news) (h1 : ∀ u ∈ news, u.oneCell' = true)
    (hnm : n + m ≤ 8000000) (hbase : base ≤ w.heap.size) :
    ∃ v' w', (Builtin.append_ #[t, t] ty #[v, x]).run P w = .ok v' w' ∧ w'.ownsRow base e size v' (n + m) (xs ++ news) ∧ w.grownBy w' v.ownBlock := by
  obtain ⟨i, hi', hz, hz1, hz2⟩ := info_parts hinfo
  obtain ⟨A, c, rfl, hmc, hcm, ⟨hl, hnil⟩, hc⟩ := hr
  have hbytes : (n + m) * bytes ≤ 140737488355328 := by
    have := Nat.mul_le_mul hnm hby
    omega
  rcases A with _ | ad
  · have hm : m = 0 := by
      rcases Nat.eq_zero_or_pos m with h0 | h0
      · exact h0
      · obtain ⟨ad, h, _⟩ := hc h0
        cases h
    subst hm
    have hn : news = [] := List.eq_nil_of_length_eq_zero (by simpa using hl)
    subst hn
    exact ⟨v, w, run_append_nil w base t ty e i size ht hi' v n xs hown c, by simpa using hown, World.grownBy.refl w _⟩
  · have hcells : ∀ j u, news[j]? = some u → w.cell? (ad.add j) = some u := by
      intro j u hu
      rcases Nat.eq_zero_or_pos m with h0 | h0
      · subst h0
        have hn : news = [] := List.eq_nil_of_length_eq_zero (by simpa using hl)
        subst hn
        simp at hu
      · obtain ⟨ad', h, _, _, hc⟩ := hc h0
        injection h with h
        subst h
        exact hc j u hu
    obtain ⟨v', w', hrun, h2, h3, _, _⟩ := run_append_own_at (P := P) w base t ty e i z size bytes ht hi' hz hz1 hz2 hzs hsz v n xs hown ad m c news hl hcells h1 (by unfold maxLen; omega) hbytes hbase
    exact ⟨v', w', hrun, h2, h3⟩

theorem wp_append_cells {o : Oper} {a : Act} {K : Act → World → Prop} {Q : Exit → Act → World → Prop} (s x : Operand) (t : TypeId)
    (ho : o.op = .call { callee := .builtin .append, args := #[s, x], argTypes := #[t, t] })
    (base : Nat) (e : TypeId) (z : Value) (size bytes : Nat) (ht : P.underlying t = some (.slice e))
    (hinfo : (P.info? e).map (fun i => (i.zero, i.size, i.bytes)) = some (some z, size, bytes)) (hzs : z.cells.size = size) (hsz : 0 < size) (hby : bytes ≤ 64)
    (v : Value) (n : Nat) (xs : List Value) (hs : a.eval s = v) (hown : w.ownsRow base e size v n xs)
    (y : Value) (lo hi m : Nat) (news : List Value) (hx : a.eval x = y) (hr : CellsR w lo hi y m size news) (h1 : ∀ u ∈ news, u.oneCell' = true)
    (hnm : n + m ≤ 8000000) (hbase : base ≤ w.heap.size)
    (h : ∀ v' w', w'.ownsRow base e size v' (n + m) (xs ++ news) → Below base w w' → K (a.put o.dst v') w') : o.wp P a w K Q := by
  obtain ⟨v', w', hrun, h2, h3⟩ := run_append_cells (P := P) w base t o.type e z size bytes ht hinfo hzs hsz hby v n xs hown y lo hi m news hr h1 hnm hbase
  unfold Oper.wp execOp
  simp only [ho, resolve, invoke, builtin, Sem.run_bind, Sem.run_pure, Result.andThen_ok, List.map_toArray, List.map_cons, List.map_nil, hs, hx, hrun]
  exact h v' w' h2 ((Below.refl _ _).grown h3 hbase (fun k hk => (hown.lt k hk).1))

theorem wpList_append_cells {ops : Array Oper} {rest : List Oper} {o : Oper} {a : Act} {Q : Exit → Act → World → Prop} (hgd : o.guard = none) (s x : Operand) (t : TypeId)
    (ho : o.op = .call { callee := .builtin .append, args := #[s, x], argTypes := #[t, t] })
    (base : Nat) (e : TypeId) (z : Value) (size bytes : Nat) (ht : P.underlying t = some (.slice e))
    (hinfo : (P.info? e).map (fun i => (i.zero, i.size, i.bytes)) = some (some z, size, bytes)) (hzs : z.cells.size = size) (hsz : 0 < size) (hby : bytes ≤ 64)
    (v : Value) (n : Nat) (xs : List Value) (hs : a.eval s = v) (hown : w.ownsRow base e size v n xs)
    (y : Value) (lo hi m : Nat) (news : List Value) (hx : a.eval x = y) (hr : CellsR w lo hi y m size news) (h1 : ∀ u ∈ news, u.oneCell' = true)
    (hnm : n + m ≤ 8000000) (hbase : base ≤ w.heap.size)
    (h : ∀ v' w', w'.ownsRow base e size v' (n + m) (xs ++ news) → Below base w w' → wpList P ops Q rest (a.put o.dst v') w') : wpList P ops Q (o :: rest) a w :=
  wpList_plain hgd fun _ hK => wp_append_cells w s x t ho base e z size bytes ht hinfo hzs hsz hby v n xs hs hown y lo hi m news hx hr h1 hnm hbase fun v' w' h2 h3 => hK _ _ (h v' w' h2 h3)

theorem step_append_cells {ops : Array Oper} {o : Oper} {a : Act} {K : Act → World → Prop} {Q : Exit → Act → World → Prop} {E : Prop} (hgd : o.guard = none) (s x : Operand) (t : TypeId)
    (ho : o.op = .call { callee := .builtin .append, args := #[s, x], argTypes := #[t, t] })
    (base : Nat) (e : TypeId) (z : Value) (size bytes : Nat) (ht : P.underlying t = some (.slice e))
    (hinfo : (P.info? e).map (fun i => (i.zero, i.size, i.bytes)) = some (some z, size, bytes)) (hzs : z.cells.size = size) (hsz : 0 < size) (hby : bytes ≤ 64)
    (v : Value) (n : Nat) (xs : List Value) (hs : a.eval s = v) (hown : w.ownsRow base e size v n xs)
    (y : Value) (lo hi m : Nat) (news : List Value) (hx : a.eval x = y) (hr : CellsR w lo hi y m size news) (h1 : ∀ u ∈ news, u.oneCell' = true)
    (hnm : n + m ≤ 8000000) (hbase : base ≤ w.heap.size)
    (h : ∀ v' w', w'.ownsRow base e size v' (n + m) (xs ++ news) → Below base w w' → K (a.put o.dst v') w') :
    if Region.wanted o (yielded ops a.tmps) = true then Oper.wp P o a w K Q else E := by
  have hw : Region.wanted o (yielded ops a.tmps) = true := by simp [Region.wanted, hgd]
  rw [if_pos hw]
  exact wp_append_cells w s x t ho base e z size bytes ht hinfo hzs hsz hby v n xs hs hown y lo hi m news hx hr h1 hnm hbase h

/-- One range more; only the row appended to has turned. -/
theorem wpList_app_rng_g {ops : Array Oper} {rest : List Oper} {o : Oper} {a : Act} {Q : Exit → Act → World → Prop} (hgd : o.guard = none) (s x : Operand) (T E : TypeId)
    (ho : o.op = .call { callee := .builtin .append, args := #[s, x], argTypes := #[T, T] }) (ht : P.underlying T = some (.slice E))
    (hinfo : (P.info? E).map (fun i => (i.zero, i.size, i.bytes)) = some (some (.agg #[.int .i64 0, .int .i64 0]), 2, 16))
    (B : Nat) (v : Value) (acc : List Rg) (hs : a.eval s = v) (hown : w.ownsRow B E 2 v acc.length (rcells acc))
    (g : Nat) (p q : Int) (hx : a.eval x = .slice (some ⟨g, 0, none⟩) 1 1) (hblk : Blk w g E #[.int .i64 p, .int .i64 q]) (hn : acc.length ≤ 7000000) (hB : B ≤ w.heap.size)
    (h : ∀ v' w', w'.ownsRow B E 2 v' (acc ++ [(p, q)]).length (rcells (acc ++ [(p, q)])) → w.grownBy w' v.ownBlock → Below B w w' → wpList P ops Q rest (a.put o.dst v') w') : wpList P ops Q (o :: rest) a w := by
  obtain ⟨i0, hi0, hz0, hz1, hz2⟩ := info_parts hinfo
  refine wpList_append_own w hgd s x T ho B E i0 _ 2 16 ht hi0 hz0 hz1 hz2 rfl (by omega) v acc.length (rcells acc) hs hown ⟨g, 0, none⟩ 1 1 (rcells [(p, q)]) hx rfl (fun j u hu => ?_) (rcells_one _) (by unfold maxLen; omega) (by omega) hB
    (fun v' w' h1 h2 _ => h v' w' (by rw [rcells_append, List.length_append]; exact h1) h2 ((Below.refl _ _).grown h2 hB (fun k hk => (hown.lt k hk).1)))
  have e : (⟨g, 0, none⟩ : Addr).add j = ⟨g, j, none⟩ := by unfold Addr.add; split <;> simp_all
  rw [e, hblk.cell, ← hu]
  simp [rcells]
theorem Blk.grown {w w' : World} {g : Nat} {t : TypeId} {cs : Array Value} {row : Option Nat} (h : Blk w g t cs) (hb : w.grownBy w' row) (hg : some g ≠ row) : Blk w' g t cs := (hb.block g h.lt hg).trans h
theorem own_not {w : World} {b e size n : Nat} {v : Value} {xs : List Value} (h : w.ownsRow b e size v n xs) : some w.heap.size ≠ v.ownBlock := by
  intro he
  have := (h.lt _ he.symm).2
  omega
end
end Go.Proofs.Ytjdlfmcnjpiaoaa.Old
/- The walks of the reference of chapter 9: Within, Right, Has, Next. -/
namespace Go.Proofs.Ytjdlfmcnjpiaoaa.Old
open Go.RowKit
set_option linter.unusedVariables false


/-- Only draws have been made. -/
def DQ (w w' : World) : Prop := ∃ n, w' = w.drewN n
theorem gap_eq (x y : Int) : decide (x - y < 2) = decide (x < y + 2) := by
  by_cases h : x - y < 2
  · rw [decide_eq_true h, decide_eq_true (by omega)]
  · rw [decide_eq_false h, decide_eq_false (by omega)]
def rhasB (l : List Rg) (v : Int) : Bool := l.any (fun r => decide (r.1 ≤ v) && decide (v ≤ r.2)) && rightB l
theorem rhas_yes {l : List Rg} {k : Nat} {x y v : Int} (h : l[k]? = some (x, y)) (h1 : x ≤ v) (h2 : v ≤ y) : rhasB l v = rightB l := by
  unfold rhasB
  have : l.any (fun r => decide (r.1 ≤ v) && decide (v ≤ r.2)) = true := List.any_eq_true.2 ⟨(x, y), mem_at h, by simp [h1, h2]⟩
  rw [this, Bool.true_and]
theorem rhas_no {l : List Rg} {v : Int} (h : ∀ (j : Nat) (x y : Int), l[j]? = some (x, y) → ¬ (x ≤ v ∧ v ≤ y)) : rhasB l v = false := by
  unfold rhasB
  have : l.any (fun r => decide (r.1 ≤ v) && decide (v ≤ r.2)) = false := by
    rw [List.any_eq_false]
    intro r hr
    obtain ⟨k, hk, rfl⟩ := List.getElem_of_mem hr
    have := h k _ _ (List.getElem?_eq_getElem hk)
    simpa using this
  rw [this, Bool.false_and]
theorem rhas_more {l : List Rg} {k : Nat} {x y v : Int} (h : ∀ (j : Nat) (x y : Int), j < k → l[j]? = some (x, y) → ¬ (x ≤ v ∧ v ≤ y)) (h1 : l[k]? = some (x, y)) (h2 : ¬ (x ≤ v ∧ v ≤ y)) :
    ∀ (j : Nat) (x y : Int), j < k + 1 → l[j]? = some (x, y) → ¬ (x ≤ v ∧ v ≤ y) := by
  intro j x' y' hj hx'
  rcases Nat.lt_or_ge j k with h' | h'
  · exact h j x' y' h' hx'
  · have e : j = k := by omega
    subst e
    rw [h1] at hx'
    simp at hx'
    obtain ⟨rfl, rfl⟩ := hx'
    exact h2
theorem next_more {l : List Rg} {k : Nat} {x y v : Int} (h : ∀ (j : Nat) (x y : Int), j < k → l[j]? = some (x, y) → y < v) (h1 : l[k]? = some (x, y)) (h2 : y < v) :
    ∀ (j : Nat) (x y : Int), j < k + 1 → l[j]? = some (x, y) → y < v := by
  intro j x' y' hj hx'
  rcases Nat.lt_or_ge j k with h' | h'
  · exact h j x' y' h' hx'
  · have e : j = k := by omega
    subst e
    rw [h1] at hx'
    simp at hx'
    obtain ⟨rfl, rfl⟩ := hx'
    exact h2
set_option maxHeartbeats 400000 in
theorem rset_within (n : Int) (w : World) :
    Calls Try.prog 60 #[.int .i64 n] w (RetQ (.bool (withinB n)) w) := by
  go_enter Try.func60, Try.ntmps60
  go_wp2
  all_goals go_ret
  all_goals exact ⟨retb_eq (by unfold withinB; simp; omega), 0, rfl⟩

set_option maxRecDepth 100000 in
set_option maxHeartbeats 1000000 in
theorem rset_right_q (u : Value) (l : List Rg) (w : World) (hx : RngsR w 0 w.heap.size u l) :
    Calls Try.prog 19 #[u] w (RetQ (.bool (rightB l)) w) := by
  obtain ⟨A, c, rfl, h1, h2, _⟩ := hx.open_
  have hl : l.length ≤ 9223372036854775807 := by omega
  have HX := hid hx; clear hx h1 h2
  go_enter Try.func19, Try.ntmps19
  go_wp2_with fail
  go_loopw [3] (fun vi wr => ∃ k : Nat, k ≤ l.length ∧ vi = .int .i64 k ∧ Hid (∀ j, j < k → okAt l j = true) ∧ DQ w wr) (fun vi wr => (l.length - (intOf vi).toNat))
  case atStart => exact ⟨0, by omega, rfl, hid (fun j hj => by omega), 0, rfl⟩
  case round =>
    obtain ⟨k, hk, rfl, hall, q, rfl⟩ := hrel
    by_cases hlt : k < l.length
    · obtain ⟨x, y, hxy⟩ := at_rg hlt
      obtain ⟨a, rfl, _, hab, hc⟩ := HX.out.get hlt
      obtain ⟨g1, g2⟩ := hc _ _ _ hxy
      have Hxy := hid hxy; clear hxy
      cases h1 : decide (y < x)
      · cases h2 : withinB x
        · clear hc
          go_wp2_with fail
          go_quiet ((go_at_call 60; first | exact quiet2 (rset_within _ _) | exact quiet1 (rset_within _ _)))
          go_wp2_with fail
          go_ret
          exact ⟨retb_eq (rightB_no hlt (ok_2 Hxy.out h1 h2)).symm, by first | exact ⟨_, rfl⟩ | exact ⟨_, World.drewN_drewN _ _ _⟩⟩
        · cases h3 : withinB y
          · clear hc
            go_wp2_with fail
            go_quiet ((go_at_call 60; first | exact quiet2 (rset_within _ _) | exact quiet1 (rset_within _ _)))
            go_wp2_with fail
            go_ret
            exact ⟨retb_eq (rightB_no hlt (ok_3 Hxy.out h1 h2 h3)).symm, by first | exact ⟨_, rfl⟩ | exact ⟨_, World.drewN_drewN _ _ _⟩⟩
          · obtain ⟨bx1, bx2⟩ := withinB_iff.1 h2
            by_cases h0 : k = 0
            · have h4 : decide (0 < k) = false := by simp; omega
              have H0 := hid h0; clear h0 hc
              go_wp2_with fail
              go_quiet ((go_at_call 60; first | exact quiet2 (rset_within _ _) | exact quiet1 (rset_within _ _)))
              go_wp2_with fail
              go_roundw
              case rel => exact ⟨k + 1, by omega, by go_num, hid (ok_more hall.out (ok_4 Hxy.out h1 h2 h3 H0.out)), by first | exact ⟨_, rfl⟩ | exact ⟨_, World.drewN_drewN _ _ _⟩⟩
              case measure => simp [intOf]; omega
            · have h4 : decide (0 < k) = true := by simp; omega
              obtain ⟨x', y', hxy'⟩ := at_rg (l := l) (k := k - 1) (by omega)
              obtain ⟨g3, g4⟩ := hc _ _ _ hxy'
              obtain ⟨by1, by2⟩ := withinB_iff.1 (ok_within (hall.out (k - 1) (by omega)) hxy')
              have Hxy' := hid hxy'; clear hxy'
              have e5 : (1 : Int) ≤ (k : Int) := by omega
              have H0 := hid h0; clear h0 hc g3
              have e6 : (k : Int) - 1 < (l.length : Int) := by omega
              have e7 : ((k : Int) - 1).toNat = k - 1 := by omega
              have e8 : IntKind.i64.wrap ((k : Int) - 1) = (k : Int) - 1 := IntWalk.i64_in _ (by omega)
              have e9 : IntKind.i64.wrap (y' + 2) = y' + 2 := IntWalk.i64_in _ (by omega)
              have h7 := gap_eq x y'
              cases h6 : decide (x < y' + 2)
              · rw [h6] at h7
                go_wp2_with fail
                go_quiet ((go_at_call 60; first | exact quiet2 (rset_within _ _) | exact quiet1 (rset_within _ _)))
                clear e5 e6 e7 e8 e9
                go_wp2_with fail
                go_roundw
                case rel => exact ⟨k + 1, by omega, by go_num, hid (ok_more hall.out (ok_5 Hxy.out h1 h2 h3 H0.out Hxy'.out h7)), by first | exact ⟨_, rfl⟩ | exact ⟨_, World.drewN_drewN _ _ _⟩⟩
                case measure => simp [intOf]; omega
              · rw [h6] at h7
                go_wp2_with fail
                go_quiet ((go_at_call 60; first | exact quiet2 (rset_within _ _) | exact quiet1 (rset_within _ _)))
                clear e5 e6 e7 e8 e9
                go_wp2_with fail
                go_ret
                exact ⟨retb_eq (rightB_no hlt (ok_5 Hxy.out h1 h2 h3 H0.out Hxy'.out h7)).symm, by first | exact ⟨_, rfl⟩ | exact ⟨_, World.drewN_drewN _ _ _⟩⟩
      · clear hc
        go_wp2_with fail
        go_quiet ((go_at_call 60; first | exact quiet2 (rset_within _ _) | exact quiet1 (rset_within _ _)))
        go_wp2_with fail
        go_ret
        exact ⟨retb_eq (rightB_no hlt (ok_1 Hxy.out h1)).symm, by first | exact ⟨_, rfl⟩ | exact ⟨_, World.drewN_drewN _ _ _⟩⟩
    · go_wp2_with fail
      go_ret
      exact ⟨retb_eq (rightB_yes (fun j hj => hall.out j (by omega))).symm, by first | exact ⟨_, rfl⟩ | exact ⟨_, World.drewN_drewN _ _ _⟩⟩

theorem retq_b {P : Program} {f : FuncId} {args : Array Value} {w : World} {v : Value} (h : Calls P f args w (RetQ v w)) : Calls P f args w (RetB v w) :=
  h.mono fun _ _ ⟨he, n, hn⟩ => ⟨he, hn ▸ below_q w n⟩
theorem rset_right (u : Value) (l : List Rg) (w : World) (hx : RngsR w 0 w.heap.size u l) : Calls Try.prog 19 #[u] w (RetB (.bool (rightB l)) w) := retq_b (rset_right_q u l w hx)
set_option maxRecDepth 100000 in
set_option maxHeartbeats 1000000 in
theorem rset_has (u : Value) (l : List Rg) (v : Int) (w : World) (hx : RngsR w 0 w.heap.size u l) :
    Calls Try.prog 26 #[u, .int .i64 v] w (RetQ (.bool (rhasB l v)) w) := by
  have C := fun q => rset_right_q u l (w.drewN q) (hx.below (below_q w q))
  obtain ⟨A, c, rfl, h1, h2, _⟩ := hx.open_
  have hl : l.length ≤ 9223372036854775807 := by omega
  have HX := hid hx; clear hx h1 h2
  have C := hid C
  go_enter Try.func26, Try.ntmps26
  go_wp2_with fail
  go_loopw [5] (fun vi wr => ∃ k : Nat, k ≤ l.length ∧ vi = .int .i64 k ∧ Hid (∀ j x y, j < k → l[j]? = some (x, y) → ¬ (x ≤ v ∧ v ≤ y)) ∧ DQ w wr) (fun vi wr => (l.length - (intOf vi).toNat))
  case atStart => exact ⟨0, by omega, rfl, hid (fun j x y hj => by omega), 0, rfl⟩
  case round =>
    obtain ⟨k, hk, rfl, hall, q, rfl⟩ := hrel
    by_cases hlt : k < l.length
    · obtain ⟨x, y, hxy⟩ := at_rg hlt
      obtain ⟨a, rfl, _, hab, hc⟩ := HX.out.get hlt
      obtain ⟨g1, g2⟩ := hc _ _ _ hxy
      have Hxy := hid hxy; clear hxy
      clear hc
      by_cases h1 : x ≤ v
      · by_cases h2 : v ≤ y
        · go_wp2_with fail
          refine (C.out _).mono ?_
          rintro e w' ⟨rfl, n1, rfl⟩
          go_wp2_with fail
          go_ret
          exact ⟨retb_eq (rhas_yes Hxy.out h1 h2).symm, by first | exact ⟨_, rfl⟩ | exact ⟨_, World.drewN_drewN _ _ _⟩⟩
        · go_wp2_with fail
          go_roundw
          case rel => exact ⟨k + 1, by omega, by go_num, hid (rhas_more hall.out Hxy.out (fun h => h2 h.2)), by first | exact ⟨_, rfl⟩ | exact ⟨_, World.drewN_drewN _ _ _⟩⟩
          case measure => simp [intOf]; omega
      · go_wp2_with fail
        go_roundw
        case rel => exact ⟨k + 1, by omega, by go_num, hid (rhas_more hall.out Hxy.out (fun h => h1 h.1)), by first | exact ⟨_, rfl⟩ | exact ⟨_, World.drewN_drewN _ _ _⟩⟩
        case measure => simp [intOf]; omega
    · go_wp2_with fail
      go_ret
      exact ⟨retb_eq (rhas_no (fun j x y hj => hall.out j x y (by have := (List.getElem?_eq_some_iff.1 hj).1; omega) hj)).symm, by first | exact ⟨_, rfl⟩ | exact ⟨_, World.drewN_drewN _ _ _⟩⟩

theorem next_hit {l : List Rg} {k : Nat} {x y v : Int} (hr : rightB l = true) (hk : k < l.length) (h1 : l[k]? = some (x, y)) (h : ∀ (j : Nat) (x y : Int), j < k → l[j]? = some (x, y) → y < v) (h2 : v ≤ y) : nextV l v = max v x ∧ nextB l v = true := by
  have e : fromN v l = k := fromN_eq (by omega) h (fun x' y' h' => by rw [h1] at h'; simp at h'; omega)
  unfold nextV nextB
  rw [hr, e, h1]
  exact ⟨rfl, by simpa using hk⟩
theorem next_miss {l : List Rg} {v : Int} (hr : rightB l = true) (h : ∀ (j : Nat) (x y : Int), j < l.length → l[j]? = some (x, y) → y < v) : nextV l v = 0 ∧ nextB l v = false := by
  have e : fromN v l = l.length := fromN_eq (Nat.le_refl _) h (fun x' y' h' => by simp at h')
  unfold nextV nextB
  rw [hr, e]
  exact ⟨by simp, by simp⟩
set_option maxRecDepth 100000 in
set_option maxHeartbeats 1000000 in
theorem rset_next (u : Value) (l : List Rg) (v : Int) (w : World) (hx : RngsR w 0 w.heap.size u l) :
    Calls Try.prog 25 #[u, .int .i64 v] w (RetQ (.tuple #[.int .i64 (nextV l v), .bool (nextB l v)]) w) := by
  have C := rset_right_q u l w hx
  obtain ⟨A, c, rfl, h1, h2, _⟩ := hx.open_
  have hl : l.length ≤ 9223372036854775807 := by omega
  have HX := hid hx; clear hx h1 h2
  cases hr : rightB l
  · have e1 : nextV l v = 0 := by unfold nextV; rw [hr]; rfl
    have e2 : nextB l v = false := by unfold nextB; rw [hr]; rfl
    rw [e1, e2]
    clear e1 e2
    rw [hr] at C
    have C := hid C
    go_enter Try.func25, Try.ntmps25
    go_wp2_with fail
    refine C.out.mono ?_
    rintro e w' ⟨rfl, n1, rfl⟩
    go_wp2_with fail
    go_ret2
    exact ⟨rfl, _, rfl⟩
  · rw [hr] at C
    have C := hid C
    have Hr := hid hr; clear hr
    go_enter Try.func25, Try.ntmps25
    go_wp2_with fail
    refine C.out.mono ?_
    rintro e w' ⟨rfl, n1, rfl⟩
    go_wp2_with fail
    go_loopw [6] (fun vi wr => ∃ k : Nat, k ≤ l.length ∧ vi = .int .i64 k ∧ Hid (∀ j x y, j < k → l[j]? = some (x, y) → y < v) ∧ DQ w wr) (fun vi wr => (l.length - (intOf vi).toNat))
    case atStart => exact ⟨0, by omega, rfl, hid (fun j x y hj => by omega), _, rfl⟩
    case round =>
      obtain ⟨k, hk, rfl, hall, q, rfl⟩ := hrel
      by_cases hlt : k < l.length
      · obtain ⟨x, y, hxy⟩ := at_rg hlt
        obtain ⟨a, rfl, _, hab, hc⟩ := HX.out.get hlt
        obtain ⟨g1, g2⟩ := hc _ _ _ hxy
        have Hxy := hid hxy; clear hxy
        clear hc
        by_cases h1 : v ≤ y
        · obtain ⟨p, hp⟩ : ∃ p, p = max v x := ⟨_, rfl⟩
          have hp' : (if v < x then x else v) = p := by rw [hp]; split <;> omega
          have HP := hid hp; clear hp
          go_wp2_with fail
          go_ret2
          refine ⟨?_, by first | exact ⟨_, rfl⟩ | exact ⟨_, World.drewN_drewN _ _ _⟩⟩
          rw [(next_hit Hr.out hlt Hxy.out hall.out h1).1, (next_hit Hr.out hlt Hxy.out hall.out h1).2, ← HP.out]
          exact rfl
        · go_wp2_with fail
          go_roundw
          case rel => exact ⟨k + 1, by omega, by go_num, hid (next_more hall.out Hxy.out (by omega)), by first | exact ⟨_, rfl⟩ | exact ⟨_, World.drewN_drewN _ _ _⟩⟩
          case measure => simp [intOf]; omega
      · go_wp2_with fail
        go_ret2
        refine ⟨?_, by first | exact ⟨_, rfl⟩ | exact ⟨_, World.drewN_drewN _ _ _⟩⟩
        rw [(next_miss Hr.out (fun j x y hj h => hall.out j x y (by omega) h)).1, (next_miss Hr.out (fun j x y hj h => hall.out j x y (by omega) h)).2]
        exact rfl

end Go.Proofs.Ytjdlfmcnjpiaoaa.Old
/- The walks of the reference of chapter 9: Size, Cut, Same, Ends. -/
namespace Go.Proofs.Ytjdlfmcnjpiaoaa.Old
open Go.RowKit
set_option linter.unusedVariables false


set_option maxRecDepth 100000 in
set_option maxHeartbeats 1000000 in
theorem rset_size (u : Value) (l : List Rg) (w : World) (hx : RngsR w 0 w.heap.size u l) :
    Calls Try.prog 27 #[u] w (RetQ (.int .i64 (sizeV l)) w) := by
  have C := rset_right_q u l w hx
  obtain ⟨A, c, rfl, h1, h2, _⟩ := hx.open_
  have hl : l.length ≤ 9223372036854775807 := by omega
  have HX := hid hx; clear hx h1 h2
  cases hr : rightB l
  · have e1 : sizeV l = 0 := by unfold sizeV; rw [hr]; rfl
    rw [e1]
    clear e1
    rw [hr] at C
    have C := hid C
    go_enter Try.func27, Try.ntmps27
    go_wp2_with fail
    refine C.out.mono ?_
    rintro e w' ⟨rfl, n1, rfl⟩
    go_wp2_with fail
    go_ret
    exact ⟨rfl, _, rfl⟩
  · obtain ⟨T, hT⟩ : ∃ T, T = sizeV l := ⟨_, rfl⟩
    rw [← hT]
    have hl := right_length hr
    have e0 := hid (show sizeGo 0 (l.drop 0) = T by rw [hT]; unfold sizeV; rw [hr]; rfl)
    clear hT
    rw [hr] at C
    have C := hid C
    have Hr := hid hr; clear hr
    go_enter Try.func27, Try.ntmps27
    go_wp2_with fail
    refine C.out.mono ?_
    rintro e w' ⟨rfl, n1, rfl⟩
    go_wp2_with fail
    go_loopw [3, 4] (fun vn vi wr => ∃ (k : Nat) (n : Int), k ≤ l.length ∧ 0 ≤ n ∧ n ≤ 2097153 * (k : Int) ∧ vi = .int .i64 k ∧ vn = .int .i64 n ∧ Hid (sizeGo n (l.drop k) = T) ∧ DQ w wr) (fun vn vi wr => (l.length - (intOf vi).toNat))
    case atStart => exact ⟨0, 0, by omega, by omega, by omega, rfl, rfl, e0, _, rfl⟩
    case round =>
      obtain ⟨k, n, hk, hn0, hn1, rfl, rfl, hs, q, rfl⟩ := hrel
      by_cases hlt : k < l.length
      · obtain ⟨x, y, hxy⟩ := at_rg hlt
        obtain ⟨a, rfl, _, hab, hc⟩ := (HX.out).get hlt
        obtain ⟨g1, g2⟩ := hc _ _ _ hxy
        clear hc
        obtain ⟨r1, r2, r3, r4, r5⟩ := right_rg Hr.out hxy
        have hs := hs.out
        rw [drop_at hxy] at hs
        have Hs := hid hs; clear hs
        clear hxy
        have e1 : IntKind.i64.wrap (n + y) = n + y := IntWalk.i64_in _ (by omega)
        have e2 : IntKind.i64.wrap (n + y - x) = n + y - x := IntWalk.i64_in _ (by omega)
        have e3 : IntKind.i64.wrap (n + y - x + 1) = n + y - x + 1 := IntWalk.i64_in _ (by omega)
        go_wp2_with fail
        go_quiet (fail)
        clear e1 e2 e3
        go_wp2_with fail
        go_roundw
        case rel => exact ⟨k + 1, n + y - x + 1, by omega, by omega, by omega, by go_num, by go_num, hid (by have h := Hs.out; unfold sizeGo at h; rw [← h]; congr 1; omega), by first | exact ⟨_, rfl⟩ | exact ⟨_, World.drewN_drewN _ _ _⟩⟩
        case measure => simp [intOf]; omega
      · go_wp2_with fail
        go_ret
        have hs := hs.out
        rw [List.drop_eq_nil_of_le (by omega)] at hs
        rw [← hs]
        exact ⟨rfl, _, rfl⟩

def rcutGo (lo hi : Int) : List Rg → List Rg
  | [] => []
  | r :: l => if max lo r.1 ≤ min hi r.2 then (max lo r.1, min hi r.2) :: rcutGo lo hi l else rcutGo lo hi l
def rcutS (lo hi : Int) (l : List Rg) : List Rg := if rightB l = true then rcutGo lo hi l else []
set_option maxRecDepth 100000 in
set_option maxHeartbeats 1000000 in
theorem rset_cut (u : Value) (l : List Rg) (lo hi : Int) (w : World) (hx : RngsR w 0 w.heap.size u l) :
    Calls Try.prog 53 #[u, .int .i64 lo, .int .i64 hi] w (RetP (fun ro w' => w'.ownsRow w.heap.size 36 2 ro (rcutS lo hi l).length (rcells (rcutS lo hi l))) w) := by
  have C := rset_right_q u l w hx
  obtain ⟨A, c, rfl, h1, h2, _⟩ := hx.open_
  have hl : l.length ≤ 9223372036854775807 := by omega
  have HX := hid hx; clear hx h1 h2
  cases hr : rightB l
  · have e1 : rcutS lo hi l = [] := by unfold rcutS; rw [hr]; rfl
    rw [e1]
    clear e1
    rw [hr] at C
    have C := hid C
    go_enter Try.func53, Try.ntmps53
    go_wp2_with fail
    refine C.out.mono ?_
    rintro e w' ⟨rfl, n1, rfl⟩
    go_wp2_with fail
    go_ret
    exact ⟨_, rfl, below_q _ _, World.ownsRow_nil _ _ _ _⟩
  · obtain ⟨T, hT⟩ : ∃ T, T = rcutS lo hi l := ⟨_, rfl⟩
    rw [← hT]
    have hl := right_length hr
    have e0 := hid (show [] ++ rcutGo lo hi (l.drop 0) = T by rw [hT]; unfold rcutS; rw [hr]; rfl)
    clear hT
    rw [hr] at C
    have C := hid C
    have Hr := hid hr; clear hr
    go_enter Try.func53, Try.ntmps53
    go_wp2_with fail
    refine C.out.mono ?_
    rintro e w' ⟨rfl, n1, rfl⟩
    go_wp2_with fail
    go_loopw [7, 8] (fun vo vi wr => ∃ (k : Nat) (acc : List Rg), k ≤ l.length ∧ acc.length ≤ k ∧ vi = .int .i64 k ∧ Hid (wr.ownsRow w.heap.size 36 2 vo acc.length (rcells acc)) ∧ Hid (acc ++ rcutGo lo hi (l.drop k) = T) ∧ Hid (Below w.heap.size w wr)) (fun vo vi wr => (l.length - (intOf vi).toNat))
    case atStart => exact ⟨0, [], by omega, by simp, rfl, World.ownsRow_nil _ _ _ _, e0, below_q _ _⟩
    case round =>
      obtain ⟨k, acc, hk, hak, rfl, hown, hs, hB⟩ := hrel
      by_cases hlt : k < l.length
      · obtain ⟨x, y, hxy⟩ := at_rg hlt
        obtain ⟨a, rfl, _, hab, hc⟩ := (HX.out.below hB.out).get hlt
        obtain ⟨g1, g2⟩ := hc _ _ _ hxy
        clear hc
        have hs := hs.out
        rw [drop_at hxy] at hs
        have hz := hB.out.size
        have n1 : (a.add (k * 2)).block < wr.heap.size := by rw [block_add]; omega
        obtain ⟨p, hp⟩ : ∃ p, p = max lo x := ⟨_, rfl⟩
        obtain ⟨q, hq⟩ : ∃ q, q = min hi y := ⟨_, rfl⟩
        have hp' : (if lo < x then x else lo) = p := by rw [hp]; split <;> omega
        have hq' : (if y < hi then y else hi) = q := by rw [hq]; split <;> omega
        unfold rcutGo at hs
        rw [← hp, ← hq] at hs
        clear hp hq hxy
        by_cases q1 : p ≤ q
        · rw [if_pos q1] at hs
          have hs := hid (show acc ++ [(p, q)] ++ rcutGo lo hi (l.drop (k + 1)) = T by rw [← hs, List.append_assoc]; rfl)
          go_wp2_with fail
          go_region
          go_wp2_with (at_builtin; refine wpList_app_rng _ rfl (.tmp 40) (.tmp 42) 22 36 rfl Try.underlying22 rng_info w.heap.size _ acc rfl (by exact ((hown.out.alloc _).alloc _).drew) (wr.heap.size + 1) p q rfl (by exact (Blk.at_ _ _ _ (by simp)).drew) (by omega) (by simp; omega) ?_; intro v1 w3 own1 bw1)
          go_roundw
          case rel => exact ⟨k + 1, acc ++ [(p, q)], by omega, by simp; omega, by go_num, hid own1, hs, hid ((((hB.out.alloc hz _).alloc (by simp; omega) _).drew).trans bw1)⟩
          case measure => simp [intOf]; omega
        · rw [if_neg q1] at hs
          have hs := hid hs
          go_wp2_with fail
          go_region
          go_wp2_with fail
          go_roundw
          case rel => exact ⟨k + 1, acc, by omega, by omega, by go_num, hid (hown.out.alloc _).drew, hs, hid (hB.out.alloc hz _).drew⟩
          case measure => simp [intOf]; omega
      · go_wp2_with fail
        go_ret
        have hs := hs.out
        rw [List.drop_eq_nil_of_le (by omega)] at hs
        simp [rcutGo] at hs
        subst hs
        exact ⟨_, rfl, hB.out, hown.out⟩

theorem len_ne {l m : List Rg} (h : ¬ l.length = m.length) : decide (l = m) = false := by simp; rintro rfl; exact h rfl
def rsameB (l m : List Rg) : Bool := rightB l && rightB m && decide (l = m)
set_option maxRecDepth 100000 in
set_option maxHeartbeats 1000000 in
theorem rset_same (u v : Value) (l m : List Rg) (w : World) (hx : RngsR w 0 w.heap.size u l) (hy : RngsR w 0 w.heap.size v m) :
    Calls Try.prog 52 #[u, v] w (RetQ (.bool (rsameB l m)) w) := by
  have C := rset_right_q u l w hx
  have D := fun q => rset_right_q v m (w.drewN q) (hy.below (below_q w q))
  obtain ⟨A, c, rfl, a1, a2, _⟩ := hx.open_
  obtain ⟨B, d, rfl, b1, b2, _⟩ := hy.open_
  have HX := hid hx; clear hx
  have HY := hid hy; clear hy
  unfold rsameB
  cases hr : rightB l
  · rw [hr] at C
    have C := hid C
    have D := hid D
    go_enter Try.func52, Try.ntmps52
    go_wp2_with fail
    refine C.out.mono ?_
    rintro e w' ⟨rfl, n1, rfl⟩
    go_wp2_with fail
    go_ret
    exact ⟨rfl, _, rfl⟩
  · cases hm : rightB m
    · rw [hr] at C
      rw [hm] at D
      have C := hid C
      have D := hid D
      go_enter Try.func52, Try.ntmps52
      go_wp2_with fail
      refine C.out.mono ?_
      rintro e w' ⟨rfl, n1, rfl⟩
      go_wp2_with fail
      refine (D.out _).mono ?_
      rintro e w' ⟨rfl, n2, rfl⟩
      go_wp2_with fail
      go_ret
      exact ⟨rfl, by first | exact ⟨_, rfl⟩ | exact ⟨_, World.drewN_drewN _ _ _⟩⟩
    · rw [hr] at C
      rw [hm] at D
      have hl := right_length hr
      have hl' := right_length hm
      have C := hid C
      have D := hid D
      by_cases hlen : l.length = m.length
      · have hz := nef_nat hlen
        have HL := hid hlen; clear hlen
        go_enter Try.func52, Try.ntmps52
        go_wp2_with fail
        refine C.out.mono ?_
        rintro e w' ⟨rfl, n1, rfl⟩
        go_wp2_with fail
        refine (D.out _).mono ?_
        rintro e w' ⟨rfl, n2, rfl⟩
        go_wp2_with fail
        go_loopw [5] (fun vi wr => ∃ k : Nat, k ≤ l.length ∧ vi = .int .i64 k ∧ Hid (∀ j, j < k → l[j]? = m[j]?) ∧ DQ w wr) (fun vi wr => (l.length - (intOf vi).toNat))
        case atStart => exact ⟨0, by omega, rfl, hid (fun j hj => by omega), by first | exact ⟨_, rfl⟩ | exact ⟨_, World.drewN_drewN _ _ _⟩⟩
        case round =>
          obtain ⟨k, hk, rfl, hall, q, rfl⟩ := hrel
          by_cases hlt : k < l.length
          · have hlt' : k < m.length := by have := HL.out; omega
            obtain ⟨x, y, hxy⟩ := at_rg hlt
            obtain ⟨x', y', hxy'⟩ := at_rg hlt'
            obtain ⟨a, rfl, _, hab, hc⟩ := HX.out.get hlt
            obtain ⟨b, rfl, _, hbb, hd⟩ := HY.out.get hlt'
            obtain ⟨g1, g2⟩ := hc _ _ _ hxy
            obtain ⟨g3, g4⟩ := hd _ _ _ hxy'
            clear hc hd
            have Hxy := hid hxy; clear hxy
            have Hxy' := hid hxy'; clear hxy'
            by_cases he : x = x' ∧ y = y'
            · obtain ⟨rfl, rfl⟩ := he
              go_wp2_with fail
              go_quiet (fail)
              go_wp2_with fail
              go_roundw
              case rel => exact ⟨k + 1, by omega, by go_num, hid (eq_more hall.out Hxy.out Hxy'.out), by first | exact ⟨_, rfl⟩ | exact ⟨_, World.drewN_drewN _ _ _⟩⟩
              case measure => simp [intOf]; omega
            · have HE := hid he
              rcases (show x ≠ x' ∨ y ≠ y' by omega) with hn | hn
              all_goals
                have hn' := eqf hn
                clear he hn
                go_wp2_with fail
                go_quiet (fail)
                go_wp2_with fail
                go_ret
                exact ⟨retb_eq (by rw [ne_at Hxy.out Hxy'.out (rg_ne HE.out)]; rfl), by first | exact ⟨_, rfl⟩ | exact ⟨_, World.drewN_drewN _ _ _⟩⟩
          · go_wp2_with fail
            go_ret
            exact ⟨retb_eq (by rw [decide_eq_true (eq_all HL.out (fun j hj => hall.out j (by omega)))]; rfl), _, rfl⟩
      · have hz := net_nat hlen
        have e := len_ne hlen
        rw [e]
        clear e hlen
        go_enter Try.func52, Try.ntmps52
        go_wp2_with fail
        refine C.out.mono ?_
        rintro e w' ⟨rfl, n1, rfl⟩
        go_wp2_with fail
        refine (D.out _).mono ?_
        rintro e w' ⟨rfl, n2, rfl⟩
        go_wp2_with fail
        go_ret
        exact ⟨rfl, by first | exact ⟨_, rfl⟩ | exact ⟨_, World.drewN_drewN _ _ _⟩⟩

set_option maxHeartbeats 1000000 in
theorem rset_ends (u : Value) (l : List Rg) (w : World) (hx : RngsR w 0 w.heap.size u l) :
    Calls Try.prog 24 #[u] w (RetB (.tuple #[.agg #[.int .i64 (endsV l).1, .int .i64 (endsV l).2], .bool (endsB l)]) w) := by
  obtain ⟨A, c, rfl, h1, h2, _⟩ := hx.open_
  have HX := hid hx; clear hx
  have hB0 := (Below.refl w.heap.size w).alloc (Nat.le_refl _) (.cells #[.int .i64 0, .int .i64 0] 36)
  have HX1 := hid ((HX.out.below hB0).mono (Nat.le_refl _) hB0.size)
  have HB0 := hid hB0; clear hB0
  cases hr : rightB l
  · have e1 : endsV l = (0, 0) := by unfold endsV; rw [hr]; rfl
    have e2 : endsB l = false := by unfold endsB; rw [hr]; rfl
    rw [e1, e2]
    clear e1 e2
    go_enter Try.func24, Try.ntmps24
    go_wp2_with fail
    refine (rset_right _ l _ HX1.out).mono ?_
    rintro e w1 ⟨rfl, b1⟩
    obtain ⟨c0, c1, f0, f1⟩ := ((Blk.new w _ _).below b1 (by simp)).two
    have hz := b1.size
    have B1 := hid b1; clear b1
    go_wp2_with fail
    refine bodyPost_ret (v := .tuple #[.agg #[.int .i64 0, .int .i64 0], .bool false]) (by simp [results, Try.results24, go_sem, c0, c1]) rfl ?_
    exact ⟨rfl, (HB0.out.trans (B1.out.mono (by simp))).setCell (Nat.le_refl _) _ |>.setCell (Nat.le_refl _) _⟩
  · by_cases hn : l.length = 0
    · have e0 : l = [] := List.eq_nil_of_length_eq_zero hn
      have e1 : endsV l = (0, 0) := by unfold endsV; rw [hr, e0]; rfl
      have e2 : endsB l = false := by unfold endsB; rw [hr, e0]; rfl
      rw [e1, e2]
      clear e1 e2
      have hz0 : ((l.length : Int) == 0) = true := by simp; omega
      clear e0 hn
      go_enter Try.func24, Try.ntmps24
      go_wp2_with fail
      refine (rset_right _ l _ HX1.out).mono ?_
      rintro e w1 ⟨rfl, b1⟩
      obtain ⟨c0, c1, f0, f1⟩ := ((Blk.new w _ _).below b1 (by simp)).two
      have hz := b1.size
      have B1 := hid b1; clear b1
      go_wp2_with fail
      refine bodyPost_ret (v := .tuple #[.agg #[.int .i64 0, .int .i64 0], .bool false]) (by simp [results, Try.results24, go_sem, c0, c1]) rfl ?_
      exact ⟨rfl, (HB0.out.trans (B1.out.mono (by simp))).setCell (Nat.le_refl _) _ |>.setCell (Nat.le_refl _) _⟩
    · obtain ⟨x, y, hxy⟩ := at_rg (l := l) (k := 0) (by omega)
      obtain ⟨x', y', hxy'⟩ := at_rg (l := l) (k := l.length - 1) (by omega)
      have hll : l.length ≤ 9223372036854775807 := by omega
      have e1 : endsV l = (x, y') := by
        unfold endsV; rw [hr, List.head?_eq_getElem?, List.getLast?_eq_getElem?, hxy, hxy']; rfl
      have e2 : endsB l = true := by unfold endsB; rw [hr]; cases l with | nil => simp at hn | cons a b => rfl
      rw [e1, e2]
      clear e1 e2
      have hz0 : ((l.length : Int) == 0) = false := eqf (by omega)
      go_enter Try.func24, Try.ntmps24
      go_wp2_with fail
      refine (rset_right _ l _ HX1.out).mono ?_
      rintro e w1 ⟨rfl, b1⟩
      obtain ⟨c0, c1, f0, f1⟩ := ((Blk.new w _ _).below b1 (by simp)).two
      have hz := b1.size
      obtain ⟨a, rfl, _, hab, hc⟩ := (HX.out.below (HB0.out.trans (b1.mono (by simp)))).get (k := 0) (by omega)
      obtain ⟨g1, _⟩ := hc _ _ _ hxy
      have g1 : w1.cell? a = some (.int .i64 x) := g1
      obtain ⟨_, g2⟩ := hc _ _ _ hxy'
      have B1 := hid b1; clear b1 hc hxy hxy'
      have e3 : 0 < l.length := by omega
      have e5 : (1 : Int) ≤ (l.length : Int) := by omega
      have e6 : (l.length : Int) - 1 < (l.length : Int) := by omega
      have e7 : ((l.length : Int) - 1).toNat = l.length - 1 := by omega
      have e8 : IntKind.i64.wrap ((l.length : Int) - 1) = (l.length : Int) - 1 := IntWalk.i64_in _ (by omega)
      have n0 : ∀ (W : World) (u : Value) (j : Nat), (W.setCell ⟨w.heap.size, j, none⟩ u).cell? a = W.cell? a := fun W u j => cell_far u (by simp; omega)
      have n1 : ∀ (W : World) (u : Value) (j : Nat), (W.setCell ⟨w.heap.size, j, none⟩ u).cell? { block := (a.add ((l.length - 1) * 2)).block, off := (a.add ((l.length - 1) * 2)).off + 1 } = W.cell? { block := (a.add ((l.length - 1) * 2)).block, off := (a.add ((l.length - 1) * 2)).off + 1 } := fun W u j => cell_far u (by simp [block_add]; omega)
      clear hn
      go_wp2_with fail
      go_region_held3 (fun w' => w'.cell? a = some (.int .i64 x) ∧ w'.cell? { block := (a.add ((l.length - 1) * 2)).block, off := (a.add ((l.length - 1) * 2)).off + 1 } = some (.int .i64 y')) (go_keep) (fail)
      go_wp2_with fail
      refine bodyPost_ret (v := .tuple #[.agg #[.int .i64 x, .int .i64 y'], .bool true]) (by simp [results, Try.results24, go_sem, c0, c1]) rfl ?_
      exact ⟨rfl, ((HB0.out.trans (B1.out.mono (by simp))).setCell (Nat.le_refl _) _ |>.setCell (Nat.le_refl _) _).drew⟩
end Go.Proofs.Ytjdlfmcnjpiaoaa.Old
/- The walks of the reference of chapter 9: Without. -/
namespace Go.Proofs.Ytjdlfmcnjpiaoaa.Old
open Go.RowKit
set_option linter.unusedVariables false


def rwithoutGo (v : Int) : List Rg → List Rg
  | [] => []
  | r :: l => (if v < r.1 ∨ r.2 < v then [r] else (if r.1 < v then [(r.1, v - 1)] else []) ++ (if v < r.2 then [(v + 1, r.2)] else [])) ++ rwithoutGo v l
def rwithoutS (v : Int) (l : List Rg) : List Rg := if rightB l = true then rwithoutGo v l else []
set_option maxRecDepth 100000 in
set_option maxHeartbeats 1000000 in
theorem rset_without (u : Value) (l : List Rg) (v : Int) (w : World) (hx : RngsR w 0 w.heap.size u l) :
    Calls Try.prog 54 #[u, .int .i64 v] w (RetP (fun ro w' => w'.ownsRow w.heap.size 36 2 ro (rwithoutS v l).length (rcells (rwithoutS v l))) w) := by
  have C := rset_right_q u l w hx
  obtain ⟨A, c, rfl, h1, h2, _⟩ := hx.open_
  have hl : l.length ≤ 9223372036854775807 := by omega
  have HX := hid hx; clear hx h1 h2
  cases hr : rightB l
  · have e1 : rwithoutS v l = [] := by unfold rwithoutS; rw [hr]; rfl
    rw [e1]
    clear e1
    rw [hr] at C
    have C := hid C
    go_enter Try.func54, Try.ntmps54
    go_wp2_with fail
    refine C.out.mono ?_
    rintro e w' ⟨rfl, n1, rfl⟩
    go_wp2_with fail
    go_ret
    exact ⟨_, rfl, below_q _ _, World.ownsRow_nil _ _ _ _⟩
  · obtain ⟨T, hT⟩ : ∃ T, T = rwithoutS v l := ⟨_, rfl⟩
    rw [← hT]
    have hl := right_length hr
    have e0 := hid (show [] ++ rwithoutGo v (l.drop 0) = T by rw [hT]; unfold rwithoutS; rw [hr]; rfl)
    clear hT
    rw [hr] at C
    have C := hid C
    have Hr := hid hr; clear hr
    go_enter Try.func54, Try.ntmps54
    go_wp2_with fail
    refine C.out.mono ?_
    rintro e w' ⟨rfl, n1, rfl⟩
    go_wp2_with fail
    go_loopw [5, 6] (fun vo vi wr => ∃ (k : Nat) (acc : List Rg), k ≤ l.length ∧ acc.length ≤ 2 * k ∧ vi = .int .i64 k ∧ Hid (wr.ownsRow w.heap.size 36 2 vo acc.length (rcells acc)) ∧ Hid (acc ++ rwithoutGo v (l.drop k) = T) ∧ Hid (Below w.heap.size w wr)) (fun vo vi wr => (l.length - (intOf vi).toNat))
    case atStart => exact ⟨0, [], by omega, by simp, rfl, World.ownsRow_nil _ _ _ _, e0, below_q _ _⟩
    case round =>
      obtain ⟨k, acc, hk, hak, rfl, hown, hs, hB⟩ := hrel
      by_cases hlt : k < l.length
      · obtain ⟨x, y, hxy⟩ := at_rg hlt
        obtain ⟨a, rfl, _, hab, hc⟩ := (HX.out.below hB.out).get hlt
        obtain ⟨g1, g2⟩ := hc _ _ _ hxy
        clear hc
        have hs := hs.out
        rw [drop_at hxy] at hs
        have hz := hB.out.size
        obtain ⟨r1, r2, r3, r4, r5⟩ := right_rg Hr.out hxy
        unfold rwithoutGo at hs
        clear hxy
        by_cases h1 : v < x
        · have hc1 : v < x ∨ y < v := .inl h1
          have hs := hid (show acc ++ [(x, y)] ++ rwithoutGo v (l.drop (k + 1)) = T by rw [← hs]; simp [hc1])
          go_wp2_with (at_builtin; refine wpList_app_rng_g _ rfl (.tmp 32) (.tmp 34) 22 36 rfl Try.underlying22 rng_info w.heap.size _ (acc) rfl (by exact ((hown.out.alloc _).alloc _)) (wr.heap.size + 1) x y rfl (by exact Blk.at_ _ _ _ (by simp)) (by first | omega | (simp; omega)) (by simp; omega) ?_; intro v3 w3 own3 hg3 bw3)
          go_roundw
          case rel => exact ⟨k + 1, acc ++ [(x, y)], by omega, by first | omega | (simp; omega), by go_num, hid (own3), hs, hid (((hB.out.alloc hz _).alloc (by simp; omega) _).trans bw3)⟩
          case measure => simp [intOf]; omega
        · by_cases h2 : y < v
          · have hc1 : v < x ∨ y < v := .inr h2
            have hs := hid (show acc ++ [(x, y)] ++ rwithoutGo v (l.drop (k + 1)) = T by rw [← hs]; simp [hc1])
            go_wp2_with (at_builtin; refine wpList_app_rng_g _ rfl (.tmp 32) (.tmp 34) 22 36 rfl Try.underlying22 rng_info w.heap.size _ (acc) rfl (by exact ((hown.out.alloc _).alloc _)) (wr.heap.size + 1) x y rfl (by exact Blk.at_ _ _ _ (by simp)) (by first | omega | (simp; omega)) (by simp; omega) ?_; intro v3 w3 own3 hg3 bw3)
            go_roundw
            case rel => exact ⟨k + 1, acc ++ [(x, y)], by omega, by first | omega | (simp; omega), by go_num, hid (own3), hs, hid (((hB.out.alloc hz _).alloc (by simp; omega) _).trans bw3)⟩
            case measure => simp [intOf]; omega
          · rw [if_neg (by omega)] at hs
            by_cases h3 : x < v
            · rw [if_pos h3] at hs
              by_cases h4 : v < y
              · have hs := hid (show acc ++ [(x, v - 1)] ++ [(v + 1, y)] ++ rwithoutGo v (l.drop (k + 1)) = T by rw [← hs]; simp [h4])
                go_wp2_with (first | (at_builtin; refine wpList_app_rng_g _ rfl (.tmp 40) (.tmp 46) 22 36 rfl Try.underlying22 rng_info w.heap.size _ (acc) rfl (by exact ((hown.out.alloc _).alloc _)) (wr.heap.size + 1) x (v - 1) rfl (by exact Blk.at_ _ _ _ (by simp)) (by first | omega | (simp; omega)) (by simp; omega) ?_; intro v3 w3 own3 hg3 bw3; obtain ⟨f0, f1, _, _⟩ := (((Blk.new wr 36 #[.int .i64 x, .int .i64 y]).alloc (.cells #[.int .i64 x, .int .i64 (v - 1)] 36)).grown hg3 (own_not hown.out)).two) | (at_builtin; refine wpList_app_rng_g _ rfl (.tmp 52) (.tmp 58) 22 36 rfl Try.underlying22 rng_info w.heap.size _ (acc ++ [(x, v - 1)]) rfl (by exact own3.alloc _) w3.heap.size (v + 1) y rfl (by exact Blk.at_ _ _ _ (by simp)) (by first | omega | (simp; omega)) (by have := bw3.size; simp at this ⊢; omega) ?_; intro v4 w4 own4 hg4 bw4))
                go_roundw
                case rel => exact ⟨k + 1, acc ++ [(x, v - 1)] ++ [(v + 1, y)], by omega, by first | omega | (simp; omega), by go_num, hid (own4), hs, hid (((((hB.out.alloc hz _).alloc (by simp; omega) _).trans bw3).alloc (by have := bw3.size; simp at this ⊢; omega) _).trans bw4)⟩
                case measure => simp [intOf]; omega
              · have hs := hid (show acc ++ [(x, v - 1)] ++ rwithoutGo v (l.drop (k + 1)) = T by rw [← hs]; simp [h4])
                go_wp2_with (at_builtin; refine wpList_app_rng_g _ rfl (.tmp 40) (.tmp 46) 22 36 rfl Try.underlying22 rng_info w.heap.size _ (acc) rfl (by exact ((hown.out.alloc _).alloc _)) (wr.heap.size + 1) x (v - 1) rfl (by exact Blk.at_ _ _ _ (by simp)) (by first | omega | (simp; omega)) (by simp; omega) ?_; intro v3 w3 own3 hg3 bw3; obtain ⟨f0, f1, _, _⟩ := (((Blk.new wr 36 #[.int .i64 x, .int .i64 y]).alloc (.cells #[.int .i64 x, .int .i64 (v - 1)] 36)).grown hg3 (own_not hown.out)).two)
                go_roundw
                case rel => exact ⟨k + 1, acc ++ [(x, v - 1)], by omega, by first | omega | (simp; omega), by go_num, hid (own3), hs, hid (((hB.out.alloc hz _).alloc (by simp; omega) _).trans bw3)⟩
                case measure => simp [intOf]; omega
            · rw [if_neg h3] at hs
              by_cases h4 : v < y
              · have hs := hid (show acc ++ [(v + 1, y)] ++ rwithoutGo v (l.drop (k + 1)) = T by rw [← hs]; simp [h4])
                go_wp2_with (at_builtin; refine wpList_app_rng_g _ rfl (.tmp 52) (.tmp 58) 22 36 rfl Try.underlying22 rng_info w.heap.size _ (acc) rfl (by exact ((hown.out.alloc _).alloc _)) (wr.heap.size + 1) (v + 1) y rfl (by exact Blk.at_ _ _ _ (by simp)) (by first | omega | (simp; omega)) (by simp; omega) ?_; intro v3 w3 own3 hg3 bw3)
                go_roundw
                case rel => exact ⟨k + 1, acc ++ [(v + 1, y)], by omega, by first | omega | (simp; omega), by go_num, hid (own3), hs, hid (((hB.out.alloc hz _).alloc (by simp; omega) _).trans bw3)⟩
                case measure => simp [intOf]; omega
              · rw [if_neg h4] at hs
                have hs := hid (show acc ++ rwithoutGo v (l.drop (k + 1)) = T by rw [← hs]; rfl)
                go_wp2_with fail
                go_roundw
                case rel => exact ⟨k + 1, acc, by omega, by first | omega | (simp; omega), by go_num, hid (hown.out.alloc _), hs, hid (hB.out.alloc hz _)⟩
                case measure => simp [intOf]; omega
      · go_wp2_with fail
        go_ret
        have hs := hs.out
        rw [List.drop_eq_nil_of_le (by omega)] at hs
        simp [rwithoutGo] at hs
        subst hs
        exact ⟨_, rfl, hB.out, hown.out⟩

end Go.Proofs.Ytjdlfmcnjpiaoaa.Old
/- The walks of the reference of chapter 9: Meet. -/
namespace Go.Proofs.Ytjdlfmcnjpiaoaa.Old
open Go.RowKit
set_option linter.unusedVariables false


def rmeetGo (a : List Rg) : List Rg → List Rg
  | [] => []
  | r :: l => rcutS r.1 r.2 a ++ rmeetGo a l
def rmeetS (a b : List Rg) : List Rg := if (rightB a && rightB b) = true then rmeetGo a b else []
theorem rcutGo_length (lo hi : Int) : ∀ l : List Rg, (rcutGo lo hi l).length ≤ l.length
  | [] => by simp [rcutGo]
  | r :: l => by
    have := rcutGo_length lo hi l
    unfold rcutGo
    split <;> simp <;> omega
theorem rcutS_length (lo hi : Int) (l : List Rg) : (rcutS lo hi l).length ≤ l.length := by
  unfold rcutS
  split
  · exact rcutGo_length lo hi l
  · simp
set_option maxRecDepth 100000 in
set_option maxHeartbeats 1000000 in
theorem rset_meet (u v : Value) (a b : List Rg) (w : World) (hab : a.length * b.length + a.length ≤ 4000000) (hx : RngsR w 0 w.heap.size u a) (hy : RngsR w 0 w.heap.size v b) :
    Calls Try.prog 55 #[u, v] w (RetP (fun ro w' => w'.ownsRow w.heap.size 36 2 ro (rmeetS a b).length (rcells (rmeetS a b))) w) := by
  have C := rset_right_q u a w hx
  have D := fun q => rset_right_q v b (w.drewN q) (hy.below (below_q w q))
  have E := fun wr lo hi (hb : Below w.heap.size w wr) => rset_cut u a lo hi wr ((hx.below hb).mono (Nat.le_refl _) hb.size)
  obtain ⟨A, c, hu, a1, a2, _⟩ := hx.open_
  obtain ⟨B, d, rfl, b1, b2, _⟩ := hy.open_
  have HX := hid hx; clear hx
  have HY := hid hy; clear hy
  clear hu
  cases ha : rightB a
  · rw [ha] at C
    have C := hid C
    have D := hid D
    have E := hid E
    have e1 : rmeetS a b = [] := by unfold rmeetS; rw [ha]; rfl
    rw [e1]
    clear e1
    go_enter Try.func55, Try.ntmps55
    go_wp2_with fail
    refine C.out.mono ?_
    rintro e w' ⟨rfl, n1, rfl⟩
    go_wp2_with fail
    go_ret
    exact ⟨_, rfl, below_q _ _, World.ownsRow_nil _ _ _ _⟩
  · cases hb : rightB b
    · rw [ha] at C
      rw [hb] at D
      have C := hid C
      have D := hid D
      have E := hid E
      have e1 : rmeetS a b = [] := by unfold rmeetS; rw [ha, hb]; rfl
      rw [e1]
      clear e1
      go_enter Try.func55, Try.ntmps55
      go_wp2_with fail
      refine C.out.mono ?_
      rintro e w' ⟨rfl, n1, rfl⟩
      go_wp2_with fail
      refine (D.out _).mono ?_
      rintro e w' ⟨rfl, n2, rfl⟩
      go_wp2_with fail
      go_ret
      exact ⟨_, rfl, by first | exact below_q _ _ | (rw [World.drewN_drewN]; exact below_q _ _), World.ownsRow_nil _ _ _ _⟩
    · rw [ha] at C
      rw [hb] at D
      have C := hid C
      have D := hid D
      have E := hid E
      have hlb := right_length hb
      obtain ⟨T, hT⟩ : ∃ T, T = rmeetS a b := ⟨_, rfl⟩
      rw [← hT]
      have e0 := hid (show [] ++ rmeetGo a (b.drop 0) = T by rw [hT]; unfold rmeetS; rw [ha, hb]; rfl)
      clear hT
      have HAB := hid hab; clear hab
      go_enter Try.func55, Try.ntmps55
      go_wp2_with fail
      refine C.out.mono ?_
      rintro e w' ⟨rfl, n1, rfl⟩
      go_wp2_with fail
      refine (D.out _).mono ?_
      rintro e w' ⟨rfl, n2, rfl⟩
      go_wp2_with fail
      go_loopw [5, 6] (fun vo vi wr => ∃ (k : Nat) (acc : List Rg), k ≤ b.length ∧ Hid (acc.length ≤ a.length * k) ∧ vi = .int .i64 k ∧ Hid (wr.ownsRow w.heap.size 36 2 vo acc.length (rcells acc)) ∧ Hid (acc ++ rmeetGo a (b.drop k) = T) ∧ Hid (Below w.heap.size w wr)) (fun vo vi wr => (b.length - (intOf vi).toNat))
      case atStart => exact ⟨0, [], by omega, hid (by simp), rfl, World.ownsRow_nil _ _ _ _, e0, hid (by first | exact below_q _ _ | (rw [World.drewN_drewN]; exact below_q _ _))⟩
      case round =>
        obtain ⟨k, acc, hk, hak, rfl, hown, hs, hB⟩ := hrel
        by_cases hlt : k < b.length
        · obtain ⟨x, y, hxy⟩ := at_rg hlt
          obtain ⟨ad, rfl, _, hab, hc⟩ := (HY.out.below hB.out).get hlt
          obtain ⟨g1, g2⟩ := hc _ _ _ hxy
          clear hc
          have hs := hs.out
          rw [drop_at hxy] at hs
          unfold rmeetGo at hs
          clear hxy
          rw [← List.append_assoc] at hs
          have hs := hid hs
          have hz := hB.out.size
          have hcl := rcutS_length x y a
          have hmul := hid (show a.length * (k + 1) ≤ a.length * b.length from Nat.mul_le_mul_left _ hlt)
          have n1 : (ad.add (k * 2)).block < wr.heap.size := by rw [block_add]; omega
          have hnn := hid (show acc.length + (rcutS x y a).length ≤ 8000000 by have := hak.out; have := hmul.out; have := HAB.out; rw [Nat.mul_add] at *; omega)
          go_wp2_with fail
          go_region_held3 (fun w' => w'.cell? (ad.add (k * 2)) = some (.int .i64 x) ∧ w'.cell? { block := (ad.add (k * 2)).block, off := (ad.add (k * 2)).off + 1 } = some (.int .i64 y)) (first | go_keep | exact ⟨(bw3.cell (p := ad.add (k * 2)) (by rw [block_add]; exact hab)).trans ((b1.cell (p := ad.add (k * 2)) n1).trans g1), (bw3.cell (p := ⟨(ad.add (k * 2)).block, (ad.add (k * 2)).off + 1, none⟩) (by rw [block_add]; exact hab)).trans ((b1.cell (p := ⟨(ad.add (k * 2)).block, (ad.add (k * 2)).off + 1, none⟩) n1).trans g2)⟩ | exact ⟨(b1.cell (p := ad.add (k * 2)) n1).trans g1, (b1.cell (p := ⟨(ad.add (k * 2)).block, (ad.add (k * 2)).off + 1, none⟩) n1).trans g2⟩) (first | (go_at_call 53; refine (E.out _ _ _ (by first | exact hB.out | exact hB.out.drew)).mono ?_; rintro e w1 ⟨r, rfl, b1, own1⟩) | (refine step_append_cells _ rfl (.tmp 22) (.tmp 34) 22 rfl w.heap.size 36 _ 2 16 Try.underlying22 rng_info rfl (by omega) (by omega) _ acc.length (rcells acc) rfl (by first | exact own_below hown.out b1 | exact own_below hown.out.drew b1) r _ _ (rcutS x y a).length (rcells (rcutS x y a)) rfl (by exact CellsR.of_own own1) (rcells_one _) hnn.out (by exact Nat.le_trans hz b1.size) ?_; intro v3 w3 own3 bw3))
          go_wp2_with fail
          go_roundw
          case rel => exact ⟨k + 1, acc ++ rcutS x y a, by omega, hid (by have := hak.out; rw [List.length_append, Nat.mul_add]; omega), by go_num, hid (by rw [rcells_append, List.length_append]; exact own3), hs, hid (hB.out.drew.trans (b1.mono hz) |>.trans bw3)⟩
          case measure => simp [intOf]; omega
        · go_wp2_with fail
          go_ret
          have hs := hs.out
          rw [List.drop_eq_nil_of_le (by omega)] at hs
          simp [rmeetGo] at hs
          subst hs
          exact ⟨_, rfl, hB.out, hown.out⟩

end Go.Proofs.Ytjdlfmcnjpiaoaa.Old
/- The walks of the reference of chapter 9: joined. -/
namespace Go.Proofs.Ytjdlfmcnjpiaoaa.Old
open Go.RowKit
set_option linter.unusedVariables false


def joinedGo : Rg → Bool → List Rg → List Rg
  | r, laid, [] => if laid = true then [] else [r]
  | r, laid, d :: l =>
    if d.2 + 1 < r.1 then d :: joinedGo r laid l
    else if r.2 + 1 < d.1 then (if laid = true then [d] else [r, d]) ++ joinedGo r true l
    else joinedGo (min r.1 d.1, max r.2 d.2) laid l
def InB (r : Rg) : Prop := -1048576 ≤ r.1 ∧ r.1 ≤ 1048576 ∧ -1048576 ≤ r.2 ∧ r.2 ≤ 1048576
theorem own_drewN' {w : World} {b e size n : Nat} {v : Value} {xs : List Value} (h : w.ownsRow b e size v n xs) (k : Nat) : (w.drewN k).ownsRow b e size v n xs := h
theorem own_base5 {w : World} {b b' e size n : Nat} {v : Value} {xs : List Value} (h : w.ownsRow b e size v n xs) (hb : b' ≤ b) : w.ownsRow b' e size v n xs := by
  obtain ⟨h1, h2⟩ := h
  refine ⟨h1, ?_⟩
  rcases h2 with h2 | ⟨g, cap, cur, hv, hg, r⟩
  · exact .inl h2
  · exact .inr ⟨g, cap, cur, hv, by omega, r⟩
theorem cells_at {w : World} {lo hi n c : Nat} {a : Addr} {l : List Rg} {k : Nat} {x y : Int} (h : RngsR w lo hi (.slice (some a) n c) l) (hk : l[k]? = some (x, y)) :
    w.cell? (a.add (k * 2)) = some (.int .i64 x) ∧ w.cell? { block := (a.add (k * 2)).block, off := (a.add (k * 2)).off + 1 } = some (.int .i64 y) := by
  obtain ⟨a', e, _, _, hc⟩ := h.get (List.getElem?_eq_some_iff.1 hk).1
  injection e with e
  subst e
  exact hc _ _ _ hk
theorem joined_length : ∀ (l : List Rg) (r : Rg) (b : Bool), (joinedGo r b l).length ≤ l.length + (if b = true then 0 else 1)
  | [], r, b => by unfold joinedGo; cases b <;> simp
  | d :: l, r, b => by
    unfold joinedGo
    split
    · have := joined_length l r b; simp; omega
    · split
      · have := joined_length l r true
        cases b <;> simp at * <;> omega
      · have := joined_length l (min r.1 d.1, max r.2 d.2) b; simp; omega
theorem joined_inB : ∀ (l : List Rg) (r : Rg) (b : Bool), InB r → (∀ d ∈ l, InB d) → ∀ d ∈ joinedGo r b l, InB d
  | [], r, b, hr, hl, d, hd => by
    unfold joinedGo at hd
    cases b
    · simp at hd; exact hd ▸ hr
    · simp at hd
  | e :: l, r, b, hr, hl, d, hd => by
    have he := hl e (by simp)
    have hl' : ∀ d ∈ l, InB d := fun d hd => hl d (by simp [hd])
    unfold joinedGo at hd
    split at hd
    · simp at hd
      rcases hd with rfl | hd
      · exact he
      · exact joined_inB l r b hr hl' d hd
    · split at hd
      · rw [List.mem_append] at hd
        rcases hd with hd | hd
        · cases b
          · simp at hd; rcases hd with rfl | rfl
            · exact hr
            · exact he
          · simp at hd; exact hd ▸ he
        · exact joined_inB l r true hr hl' d hd
      · refine joined_inB l _ b ?_ hl' d hd
        unfold InB at *
        simp
        omega
set_option maxRecDepth 100000 in
set_option maxHeartbeats 1000000 in
theorem rset_joined (u : Value) (l : List Rg) (p0 q0 : Int) (w : World) (hl : l.length ≤ 3000000) (hI0 : InB (p0, q0)) (hIl : ∀ d ∈ l, InB d) (hx : RngsR w 0 w.heap.size u l) :
    Calls Try.prog 61 #[u, .agg #[.int .i64 p0, .int .i64 q0]] w (RetP (fun ro w' => w'.ownsRow w.heap.size 36 2 ro (joinedGo (p0, q0) false l).length (rcells (joinedGo (p0, q0) false l))) w) := by
  obtain ⟨A, c, rfl, h1, h2, _⟩ := hx.open_
  have HX := hid hx; clear hx h1 h2
  have HIL := hid hIl; clear hIl
  have HI0 := hid hI0; clear hI0
  obtain ⟨T, hT⟩ : ∃ T, T = joinedGo (p0, q0) false l := ⟨_, rfl⟩
  rw [← hT]
  have e0 := hid (show [] ++ joinedGo (p0, q0) false (l.drop 0) = T by rw [hT]; rfl)
  clear hT
  have hK0 := hid (Blk.new w 36 #[.int .i64 p0, .int .i64 q0])
  have hB0 := hid ((Below.refl w.heap.size w).alloc (Nat.le_refl _) (.cells #[.int .i64 p0, .int .i64 q0] 36))
  go_enter Try.func61, Try.ntmps61
  go_wp2_with fail
  go_loopw [5, 6, 7] (fun vo vl vk wr => ∃ (k : Nat) (acc : List Rg) (p q : Int) (b : Bool), k ≤ l.length ∧ acc.length ≤ 2 * k ∧ Hid (InB (p, q)) ∧ vk = .int .i64 k ∧ vl = .bool b ∧ Hid (wr.ownsRow (w.heap.size + 1) 36 2 vo acc.length (rcells acc)) ∧ Hid (acc ++ joinedGo (p, q) b (l.drop k) = T) ∧ Hid (Blk wr w.heap.size 36 #[.int .i64 p, .int .i64 q]) ∧ Hid (Below w.heap.size w wr)) (fun vo vl vk wr => (l.length - (intOf vk).toNat))
  case atStart => exact ⟨0, [], p0, q0, false, by omega, by simp, HI0, rfl, rfl, World.ownsRow_nil _ _ _ _, e0, hK0, hB0⟩
  case round =>
    obtain ⟨k, acc, p, q, b, hk, hak, hI, rfl, rfl, hown, hs, hK, hB⟩ := hrel
    have hz := hB.out.size
    have hz1 := hK.out.lt
    obtain ⟨f0, f1, z0, z1⟩ := hK.out.two
    obtain ⟨i1, i2, i3, i4⟩ := hI.out
    simp only at i1 i2 i3 i4
    by_cases hlt : k < l.length
    · obtain ⟨x, y, hxy⟩ := at_rg hlt
      obtain ⟨a, rfl, _, hab, hc⟩ := (HX.out.below hB.out).get hlt
      obtain ⟨g1, g2⟩ := hc _ _ _ hxy
      clear hc
      obtain ⟨j1, j2, j3, j4⟩ := HIL.out _ (mem_at hxy)
      simp only at j1 j2 j3 j4
      replace hs := hs.out
      rw [drop_at hxy] at hs
      have Hxy := hid hxy
      clear hxy
      unfold joinedGo at hs
      simp only at hs
      have e1 : IntKind.i64.wrap (y + 1) = y + 1 := IntWalk.i64_in _ (by omega)
      have e2 : IntKind.i64.wrap (q + 1) = q + 1 := IntWalk.i64_in _ (by omega)
      have n1 : (a.add (k * 2)).block < wr.heap.size := by rw [block_add]; omega
      obtain ⟨p', hp⟩ : ∃ p', p' = min p x := ⟨_, rfl⟩
      obtain ⟨q', hq⟩ : ∃ q', q' = max q y := ⟨_, rfl⟩
      have hp' : (if x < p then x else p) = p' := by rw [hp]; split <;> omega
      have hq' : (if q < y then y else q) = q' := by rw [hq]; split <;> omega
      have hI' := hid (show InB (p', q') by unfold InB; simp only; omega)
      rw [← hp, ← hq] at hs
      clear hp hq
      by_cases c1 : y + 1 < p
      · rw [if_pos c1] at hs
        replace hs := hid (show acc ++ [(x, y)] ++ joinedGo (p, q) b (l.drop (k + 1)) = T by rw [← hs, List.append_assoc]; rfl)
        go_wp2_with fail
        go_quiet (fail)
        clear e1 e2
        go_wp2_with (at_builtin; refine wpList_app_rng _ rfl (.tmp 23) (.tmp 28) 22 36 rfl Try.underlying22 rng_info (w.heap.size + 1) _ (acc) rfl (by exact (own_drewN' hown.out _).alloc _) wr.heap.size x y rfl (by exact Blk.at_ _ _ _ (by simp)) (by first | omega | (simp; omega)) (by simp; omega) ?_; intro v3 w3 own3 bw3)
        go_roundw
        case rel => exact ⟨k + 1, acc ++ [(x, y)], p, q, b, by omega, by first | omega | (simp; omega), hI, by go_num, rfl, hid (own3), hs, hid (((hK.out.drewN _).alloc _).below bw3 (by omega)), hid (((below_drewN hB.out _).alloc hz _).trans (bw3.mono (by omega)))⟩
        case measure => simp [intOf]; omega
      · rw [if_neg c1] at hs
        by_cases c2 : q + 1 < x
        · rw [if_pos c2] at hs
          cases b
          · replace hs := hid (show acc ++ [(p, q)] ++ [(x, y)] ++ joinedGo (p, q) true (l.drop (k + 1)) = T by rw [← hs]; simp)
            go_wp2_with fail
            go_quiet (fail)
            go_wp2_with fail
            go_quiet (fail)
            clear e1 e2
            go_wp2_with (first | (at_builtin; refine wpList_app_rng _ rfl (.tmp 41) (.tmp 43) 22 36 rfl Try.underlying22 rng_info (w.heap.size + 1) _ (acc) rfl (by exact (own_drewN' hown.out _).alloc _) wr.heap.size p q rfl (by exact Blk.at_ _ _ _ (by simp)) (by first | omega | (simp; omega)) (by simp; omega) ?_; intro v3 w3 own3 bw3; have B3 := hid (((below_drewN hB.out _).alloc hz _).trans (bw3.mono (by omega))); have K3 := hid (((hK.out.drewN _).alloc _).below bw3 (by omega)); have hz3 := B3.out.size; have hy3 := K3.out.lt; obtain ⟨k0, k1, _, _⟩ := K3.out.two; obtain ⟨g5, g6⟩ := cells_at (HX.out.below B3.out) Hxy.out) | (at_builtin; refine wpList_app_rng _ rfl (.tmp 45) (.tmp 50) 22 36 rfl Try.underlying22 rng_info (w.heap.size + 1) _ (acc ++ [(p, q)]) rfl (by exact own3.alloc _) w3.heap.size x y rfl (by exact Blk.at_ _ _ _ (by simp)) (by first | omega | (simp; omega)) (by simp; omega) ?_; intro v4 w4 own4 bw4))
            go_roundw
            case rel => exact ⟨k + 1, acc ++ [(p, q)] ++ [(x, y)], p, q, true, by omega, by first | omega | (simp; omega), hI, by go_num, rfl, hid (own4), hs, hid ((K3.out.alloc _).below bw4 (by omega)), hid ((B3.out.alloc hz3 _).trans (bw4.mono (by omega)))⟩
            case measure => simp [intOf]; omega
          · replace hs := hid (show acc ++ [(x, y)] ++ joinedGo (p, q) true (l.drop (k + 1)) = T by rw [← hs]; simp)
            go_wp2_with fail
            go_quiet (fail)
            go_wp2_with fail
            go_quiet (fail)
            clear e1 e2
            go_wp2_with (at_builtin; refine wpList_app_rng _ rfl (.tmp 45) (.tmp 50) 22 36 rfl Try.underlying22 rng_info (w.heap.size + 1) _ (acc) rfl (by exact (own_drewN' hown.out _).alloc _) wr.heap.size x y rfl (by exact Blk.at_ _ _ _ (by simp)) (by first | omega | (simp; omega)) (by simp; omega) ?_; intro v3 w3 own3 bw3)
            go_roundw
            case rel => exact ⟨k + 1, acc ++ [(x, y)], p, q, true, by omega, by first | omega | (simp; omega), hI, by go_num, rfl, hid (own3), hs, hid (((hK.out.drewN _).alloc _).below bw3 (by omega)), hid (((below_drewN hB.out _).alloc hz _).trans (bw3.mono (by omega)))⟩
            case measure => simp [intOf]; omega
        · rw [if_neg c2] at hs
          replace hs := hid hs
          go_wp2_with fail
          go_quiet (fail)
          go_wp2_with fail
          go_quiet (fail)
          clear e1 e2
          go_wp2_with fail
          go_region
          go_wp2_with fail
          go_roundw
          case rel => exact ⟨k + 1, acc, p', q', b, by omega, by first | omega | (simp; omega), hI', by go_num, rfl, hid (ownsRow_setCell_below (ownsRow_setCell_below (own_drewN' hown.out _) (by simp) _) (by simp) _), hs, hid (((hK.out.drewN _).set_ 0 _).set_ 1 _), hid (((below_drewN hB.out _).setCell (Nat.le_refl _) _).setCell (Nat.le_refl _) _)⟩
          case measure => simp [intOf]; omega
    · replace hs := hs.out
      rw [List.drop_eq_nil_of_le (by omega)] at hs
      unfold joinedGo at hs
      cases b
      · replace hs := hid (show acc ++ [(p, q)] = T from hs)
        go_wp2_with (at_builtin; refine wpList_app_rng _ rfl (.tmp 71) (.tmp 73) 22 36 rfl Try.underlying22 rng_info (w.heap.size + 1) _ (acc) rfl (by exact hown.out.alloc _) wr.heap.size p q rfl (by exact Blk.at_ _ _ _ (by simp)) (by first | omega | (simp; omega)) (by simp; omega) ?_; intro v3 w3 own3 bw3)
        go_ret
        have e := hs.out
        subst e
        exact ⟨_, rfl, (hB.out.alloc hz _).trans (bw3.mono (by omega)), own_base5 own3 (by omega)⟩
      · replace hs := hid (show acc ++ [] = T from hs)
        go_wp2_with fail
        go_ret
        have e := hs.out
        rw [List.append_nil] at e
        subst e
        exact ⟨_, rfl, hB.out, own_base5 hown.out (by omega)⟩

end Go.Proofs.Ytjdlfmcnjpiaoaa.Old
/- The walks of the reference of chapter 9: Of. -/
namespace Go.Proofs.Ytjdlfmcnjpiaoaa.Old
open Go.RowKit
set_option linter.unusedVariables false


def rofGo : List Rg → List Rg → List Rg × Int
  | acc, [] => (acc, 0)
  | acc, r :: l => if r.2 < r.1 then rofGo acc l else if (withinB r.1 && withinB r.2) = true then rofGo (joinedGo r false acc) l else ([], 2)
def rofS (l : List Rg) : List Rg × Int := rofGo [] l
theorem InB_of {x y : Int} (h2 : withinB x = true) (h3 : withinB y = true) : InB (x, y) := by
  have h4 := withinB_iff.1 h2
  have h5 := withinB_iff.1 h3
  unfold InB
  simp only
  omega
set_option maxRecDepth 100000 in
set_option maxHeartbeats 1000000 in
theorem rset_of (u : Value) (l : List Rg) (w : World) (hl : l.length ≤ 3000000) (hx : RngsR w 0 w.heap.size u l) :
    Calls Try.prog 16 #[u] w (RetP (fun v w' => ∃ s, v = .tuple #[s, .int .i64 (rofS l).2] ∧ RngsR w' 0 w'.heap.size s (rofS l).1) w) := by
  obtain ⟨A, c, rfl, h1, h2, _⟩ := hx.open_
  have HX := hid hx; clear hx h1 h2
  obtain ⟨T, hT⟩ : ∃ T, T = rofS l := ⟨_, rfl⟩
  rw [← hT]
  have e0 := hid (show rofGo [] (l.drop 0) = T by rw [hT]; rfl)
  clear hT
  go_enter Try.func16, Try.ntmps16
  go_wp2_with fail
  go_loopw [4, 5] (fun vo vi wr => ∃ (k : Nat) (acc : List Rg), k ≤ l.length ∧ acc.length ≤ k ∧ vi = .int .i64 k ∧ Hid (RngsR wr 0 wr.heap.size vo acc) ∧ Hid (∀ d ∈ acc, InB d) ∧ Hid (rofGo acc (l.drop k) = T) ∧ Hid (Below w.heap.size w wr)) (fun vo vi wr => (l.length - (intOf vi).toNat))
  case atStart => exact ⟨0, [], by omega, by simp, rfl, RngsR.nil _ _ _, hid (by simp), e0, hid (Below.refl _ _)⟩
  case round =>
    obtain ⟨k, acc, hk, hak, rfl, hO, hI, hs, hB⟩ := hrel
    by_cases hlt : k < l.length
    · obtain ⟨x, y, hxy⟩ := at_rg hlt
      obtain ⟨a, rfl, _, hab, hc⟩ := (HX.out.below hB.out).get hlt
      obtain ⟨g1, g2⟩ := hc _ _ _ hxy
      clear hc
      replace hs := hs.out
      rw [drop_at hxy] at hs
      clear hxy
      unfold rofGo at hs
      simp only at hs
      by_cases c1 : y < x
      · rw [if_pos c1] at hs
        replace hs := hid hs
        go_wp2_with fail
        go_quiet (fail)
        go_wp2_with fail
        go_roundw
        case rel => exact ⟨k + 1, acc, by omega, by omega, by go_num, hid (((hO.out.below (below_q _ _))).mono (Nat.le_refl _) (by simp)), hid (hI.out), hs, hid (below_drewN hB.out _)⟩
        case measure => simp [intOf]; omega
      · rw [if_neg c1] at hs
        cases h2 : withinB x
        · rw [h2, Bool.false_and, if_neg (by simp)] at hs
          replace hs := hid hs
          go_wp2_with fail
          go_quiet (fail)
          go_wp2_with (go_at_call 60; refine (rset_within _ _).mono ?_; rintro e w' ⟨rfl, n9, rfl⟩)
          go_ret2
          have e := hs.out
          subst e
          exact ⟨_, rfl, by first | exact below_drewN hB.out _ | (rw [← World.drewN_drewN]; exact below_drewN (below_drewN hB.out _) _), _, rfl, RngsR.nil _ _ _⟩
        · cases h3 : withinB y
          · rw [h2, h3, Bool.true_and, if_neg (by simp)] at hs
            replace hs := hid hs
            go_wp2_with fail
            go_quiet (fail)
            go_wp2_with (go_at_call 60; refine (rset_within _ _).mono ?_; rintro e w' ⟨rfl, n9, rfl⟩)
            go_ret2
            have e := hs.out
            subst e
            exact ⟨_, rfl, by first | exact below_drewN hB.out _ | (rw [← World.drewN_drewN]; exact below_drewN (below_drewN hB.out _) _), _, rfl, RngsR.nil _ _ _⟩
          · rw [h2, h3, Bool.true_and, if_pos rfl] at hs
            have hI2 := InB_of h2 h3
            have hjl := joined_length acc (x, y) false
            simp only [Bool.false_eq_true, if_false] at hjl
            have hI3 := hid (joined_inB acc (x, y) false hI2 hI.out)
            have J := hid (fun wx (hb : Below wr.heap.size wr wx) => rset_joined u4 acc x y wx (by omega) hI2 hI.out ((hO.out.below hb).mono (Nat.le_refl _) hb.size))
            clear hI2
            obtain ⟨m, hm⟩ : ∃ m, m = joinedGo (x, y) false acc := ⟨_, rfl⟩
            rw [← hm] at J hs hjl hI3
            clear hm
            replace hs := hid hs
            go_wp2_with fail
            go_quiet (fail)
            go_wp2_with (go_at_call 60; refine (rset_within _ _).mono ?_; rintro e w' ⟨rfl, n9, rfl⟩)
            refine (J.out _ (by first | exact below_q _ _ | (rw [← World.drewN_drewN]; exact below_drewN (below_q _ _) _))).mono ?_
            rintro e w3 ⟨r, rfl, b3, own3⟩
            go_wp2_with fail
            have B3 := hid ((show Below w.heap.size w _ from below_drewN hB.out _).trans (b3.mono (by simpa using hB.out.size)))
            go_roundw
            case rel => exact ⟨k + 1, m, by omega, by omega, by go_num, hid ((RngsR.of_own own3).mono (Nat.zero_le _) (Nat.le_refl _)), hid (hI3.out), hs, hid (B3.out)⟩
            case measure => simp [intOf]; omega
    · go_wp2_with fail
      go_ret2
      replace hs := hs.out
      rw [List.drop_eq_nil_of_le (by omega)] at hs
      unfold rofGo at hs
      subst hs
      exact ⟨_, rfl, hB.out, _, rfl, hO.out⟩

end Go.Proofs.Ytjdlfmcnjpiaoaa.Old
