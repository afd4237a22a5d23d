/- A box's row, laid anew by a function of the library. -/
import Derived.Test.YtbmcjhjbifojnaaAv3
namespace Go.Proofs.Ytbmcjhjbifojnaa
open Av
attribute [local irreducible] awp awpOpers
set_option linter.unusedSimpArgs false
set_option linter.unusedVariables false
theorem Sim_cells {w0 w w' : World} {pr fz : Fz} {pl : Pl} {bx : Bx} {k sz b n : Nat} {es es' : List AV} {arr arr' : Array Value} {e e' : TypeId} (hS : Sim w0 pr fz pl bx w) (hk : bxGet bx k = some (sz, es)) (B : BoxAt pr fz pl w k sz es b n arr e)
    (h1 : w'.os = w.os) (h2 : w'.tape = w.tape) (h3 : w'.output = w.output) (h4 : w.heap.size ≤ w'.heap.size) (h5 : ∀ c, c < w.heap.size → c ≠ b → w'.heap[c]? = w.heap[c]?) (h6 : w'.heap[b]? = some (.cells arr' e' (0, 0))) (h7 : arr'.size = n)
    (he : ∀ x ∈ es', x.cells.length = sz) (hf : es'.length * sz ≤ n)
    (hr : ∀ (i : Nat) v c, (es'.flatMap AV.cells)[i]? = some v → arr'[i]? = some c → c.oneCell' = true ∧ Rep fz pl v c) :
    Sim w0 pr fz pl (bxSet bx k (some (sz, es'))) w' := by
  have lt : ∀ c x, w.heap[c]? = some x → c < w.heap.size := fun c x e => (Array.getElem?_eq_some_iff.1 e).1
  have oth : ∀ {c : Nat} {o}, c ≠ b → w.heap[c]? = some o → w'.heap[c]? = some o := fun hne ho => by rw [h5 _ (lt _ _ ho) hne]; exact ho
  have nb : ∀ {g : Fz} {c o}, g b = none → g c = some o → c ≠ b := fun hn hg e => by rw [e, hn] at hg; cases hg
  refine ⟨h1.trans hS.os, h2.trans hS.tape, h3.trans hS.output, Nat.le_trans hS.size h4, fun c o a => oth (nb B.nfz a) (hS.frz _ _ a), fun c o a => oth (nb B.npr a) (hS.prt _ _ a), hS.dis, by rw [bxSet_length]; exact hS.len, ?_, ?_⟩
  · intro j s xs hj
    by_cases hkj : k = j
    · subst hkj
      rw [bxGet_set_self (bxGet_lt hk)] at hj
      injection hj with hj; injection hj with e1 e2; subst e1; subst e2
      exact .inr ⟨b, n, arr', e', ⟨B.plc, B.nfz, B.npr, h6, h7, he, by rw [flat_len he]; exact hf, fun i v c a d => (hr i v c a d).1, fun i v c a d => (hr i v c a d).2⟩⟩
    · rw [bxGet_set_ne hkj] at hj
      rcases hS.box j s xs hj with (h2 | ⟨b', o', M'⟩) | ⟨b', n', ar, e', B'⟩
      · exact .inl (.inl h2)
      · refine .inl (.inr ⟨b', o', { M' with heap := oth ?_ M'.heap }⟩)
        intro hbb; subst hbb
        exact hkj (hS.inj k j _ _ b' n 0 hk hj B.plc M'.plc)
      · refine .inr ⟨b', n', ar, e', { B' with heap := oth ?_ B'.heap }⟩
        intro hbb; subst hbb
        exact hkj (hS.inj k j _ _ b' n n' hk hj B.plc B'.plc)
  · intro j j' x y b1 n1 n2 hj hj' p1 p2
    have key : ∀ {i z}, bxGet (bxSet bx k (some (sz, es'))) i = some z → ∃ z', bxGet bx i = some z' := by
      intro i z hi
      by_cases hki : k = i
      · subst hki; exact ⟨_, hk⟩
      · rw [bxGet_set_ne hki] at hi; exact ⟨_, hi⟩
    obtain ⟨_, k1⟩ := key hj
    obtain ⟨_, k2⟩ := key hj'
    exact hS.inj j j' _ _ b1 n1 n2 k1 k2 p1 p2
/-- the cells of a row of ranges, of a row of numbers -/
theorem cells_rg (l : List Rg) (j : Nat) (r : Rg) (h : l[j]? = some r) : ((l.map eRg).flatMap AV.cells)[2 * j]? = some (.int .i64 r.1) ∧ ((l.map eRg).flatMap AV.cells)[2 * j + 1]? = some (.int .i64 r.2) := by
  have hz : ∀ x ∈ l.map eRg, x.cells.length = 2 := by
    intro x hx
    obtain ⟨r, _, rfl⟩ := List.mem_map.1 hx
    rfl
  have hj : (l.map eRg)[j]? = some (eRg r) := by rw [List.getElem?_map, h]; rfl
  exact ⟨by have := flat_get hz hj (t := 0) (v := .int .i64 r.1) rfl; rwa [Nat.mul_comm, Nat.add_zero] at this, by have := flat_get hz hj (t := 1) (v := .int .i64 r.2) rfl; rwa [Nat.mul_comm] at this⟩
theorem len_rg (l : List Rg) : ∀ x ∈ l.map eRg, x.cells.length = 2 := by
  intro x hx
  obtain ⟨r, _, rfl⟩ := List.mem_map.1 hx
  rfl
theorem len_I (l : List Int) : ∀ x ∈ l.map eI, x.cells.length = 1 := by
  intro x hx
  obtain ⟨r, _, rfl⟩ := List.mem_map.1 hx
  rfl
theorem flat_I (l : List Int) : (l.map eI).flatMap AV.cells = l.map eI := by
  induction l with
  | nil => rfl
  | cons x l ih => rw [List.map_cons, List.flatMap_cons, ih]; rfl
/-- a box of ranges, in memory -/
theorem box_rg {w : World} {pr fz : Fz} {pl : Pl} {k b n : Nat} {l : List Rg} {arr : Array Value} {e : TypeId} (B : BoxAt pr fz pl w k 2 (l.map eRg) b n arr e) {j : Nat} {r : Rg} (h : l[j]? = some r) :
    arr[2 * j]? = some (.int .i64 r.1) ∧ arr[2 * j + 1]? = some (.int .i64 r.2) := by
  have hl := (List.getElem?_eq_some_iff.1 h).1
  have hf := B.fits
  rw [flat_len B.elem, List.length_map] at hf
  have hs := B.size
  obtain ⟨c1, c2⟩ := cells_rg l j r h
  have a1 : arr[2 * j]? = some arr[2 * j] := Array.getElem?_eq_getElem (by omega)
  have a2 : arr[2 * j + 1]? = some arr[2 * j + 1] := Array.getElem?_eq_getElem (by omega)
  have r1 := (B.rep _ _ _ c1 a1).inv_int
  have r2 := (B.rep _ _ _ c2 a2).inv_int
  exact ⟨by rw [a1, r1], by rw [a2, r2]⟩
/-- a box of numbers, in memory -/
theorem box_I {w : World} {pr fz : Fz} {pl : Pl} {k b n : Nat} {l : List Int} {arr : Array Value} {e : TypeId} (B : BoxAt pr fz pl w k 1 (l.map eI) b n arr e) {j : Nat} {x : Int} (h : l[j]? = some x) : arr[j]? = some (.int .i64 x) := by
  have hl := (List.getElem?_eq_some_iff.1 h).1
  have hf := B.fits
  rw [flat_len B.elem, List.length_map] at hf
  have hs := B.size
  have c1 : ((l.map eI).flatMap AV.cells)[j]? = some (.int .i64 x) := by rw [flat_I, List.getElem?_map, h]; rfl
  have a1 : arr[j]? = some arr[j] := Array.getElem?_eq_getElem (by omega)
  have r1 := (B.rep _ _ _ c1 a1).inv_int
  rw [a1, r1]
/-- a row of ranges that a box may hold -/
theorem rep_rg {fz : Fz} {pl : Pl} {l : List Rg} {arr : Array Value} (h : ∀ (j : Nat) r, l[j]? = some r → arr[2 * j]? = some (.int .i64 r.1) ∧ arr[2 * j + 1]? = some (.int .i64 r.2)) :
    ∀ (i : Nat) v c, ((l.map eRg).flatMap AV.cells)[i]? = some v → arr[i]? = some c → c.oneCell' = true ∧ Rep fz pl v c := by
  intro i v c hv hc
  obtain ⟨e, g1, g2⟩ := flat_split (len_rg l) hv (by omega)
  rw [List.getElem?_map] at g1
  cases hl : l[i / 2]? with
  | none => rw [hl] at g1; cases g1
  | some r =>
    rw [hl] at g1
    injection g1 with g1; subst g1
    obtain ⟨a1, a2⟩ := h _ _ hl
    rcases Nat.mod_two_eq_zero_or_one i with h2 | h2
    · rw [h2] at g2
      injection g2 with g2; subst g2
      rw [show 2 * (i / 2) = i by omega, hc] at a1
      injection a1 with a1; subst a1
      exact ⟨rfl, .frz (.int _ _)⟩
    · rw [h2] at g2
      injection g2 with g2; subst g2
      rw [show 2 * (i / 2) + 1 = i by omega, hc] at a2
      injection a2 with a2; subst a2
      exact ⟨rfl, .frz (.int _ _)⟩
theorem rep_I {fz : Fz} {pl : Pl} {l : List Int} {arr : Array Value} (h : ∀ (j : Nat) x, l[j]? = some x → arr[j]? = some (.int .i64 x)) :
    ∀ (i : Nat) v c, ((l.map eI).flatMap AV.cells)[i]? = some v → arr[i]? = some c → c.oneCell' = true ∧ Rep fz pl v c := by
  intro i v c hv hc
  rw [flat_I, List.getElem?_map] at hv
  cases hl : l[i]? with
  | none => rw [hl] at hv; cases hv
  | some x =>
    rw [hl] at hv
    injection hv with hv; subst hv
    have := h _ _ hl
    rw [hc] at this
    injection this with this; subst this
    exact ⟨rfl, .frz (.int _ _)⟩
theorem run_clear_row {P : Program} {w : World} {t e : TypeId} {z : Value} {i : TypeInfo} {zs : List AV} (hut : P.underlying t = some (.slice e)) (hi : P.info? e = some i) (hz : i.zero = some z) (hzl : leafs z.cells.toList = some zs)
    {b o m c : Nat} {arr : Array Value} {e' : TypeId} (hb : w.heap[b]? = some (.cells arr e' (0, 0))) (hm : 0 < m) (hfit : o + m * z.cells.size ≤ arr.size) (ty : TypeId) :
    (Builtin.clear_ #[t] ty #[.slice (some ⟨b, o, none⟩) m c]).run P w = .ok (.tuple #[]) (w.setRow b (arr.toList.take o ++ (Builtin.zeroCells z.cells m).toList ++ arr.toList.drop (o + m * z.cells.size)).toArray) := by
  obtain ⟨m, rfl⟩ : ∃ q, m = q + 1 := ⟨m - 1, by omega⟩
  have hzone : ∀ v ∈ (Builtin.zeroCells z.cells (m + 1)).toList, v.oneCell' = true := by
    intro v hv
    simp only [Builtin.zeroCells, Array.toList_map, List.mem_map] at hv
    obtain ⟨j, hj, rfl⟩ := hv
    simp at hj
    have hpos : 0 < z.cells.size := by
      rcases Nat.eq_zero_or_pos z.cells.size with h | h
      · rw [h] at hj; simp at hj
      · exact h
    have hlt : j % z.cells.size < z.cells.size := Nat.mod_lt _ hpos
    rw [getElem!_pos z.cells _ hlt]
    obtain ⟨_, l2, _⟩ := leafs_rep (fz := fun _ => none) hzl
    exact l2 (j % z.cells.size) _ (by simp [hlt])
  have hzlen : (Builtin.zeroCells z.cells (m + 1)).toList.length = (m + 1) * z.cells.size := by rw [Array.length_toList, size_zeroCells]
  have hst := run_storeCells_at (P := P) b o e' (Builtin.zeroCells z.cells (m + 1)).toList 0 arr w hb (by rw [hzlen]; omega) hzone
  simp only [Nat.add_zero, hzlen] at hst
  have hzv : (zeroValue e).run P w = .ok z w := by simp [zeroValue, typeInfo, hi, hz]
  simp only [Builtin.clear_, Sem.run_bind, run_underlying hut, hzv]
  simp [hut, run_underlying hut, hzv, hst]
theorem run_append_row {P : Program} (w : World) (t ty e e' : TypeId) (i : TypeInfo) (ht : P.underlying t = some (.slice e)) (hi : P.info? e = some i)
    (g sLen sCap : Nat) (cur : Array Value) (hg : w.heap[g]? = some (.cells cur e' (0, 0)))
    (a : Addr) (m c : Nat) (news : List Value) (hl : news.length = m * i.size) (hnews : ∀ j u, news[j]? = some u → w.cell? (a.add j) = some u) (h1 : ∀ u ∈ news, u.oneCell' = true)
    (hroom : sLen + m ≤ sCap) (hfit : sLen * i.size + news.length ≤ cur.size) :
    (Builtin.append_ #[t, t] ty #[.slice (some ⟨g, 0, none⟩) sLen sCap, .slice (some a) m c]).run P w =
      .ok (.slice (some ⟨g, 0, none⟩) (sLen + m) sCap) (w.setRow g (cur.toList.take (sLen * i.size) ++ news ++ cur.toList.drop (sLen * i.size + news.length)).toArray) := by
  have hf := run_firstCells_some (P := P) w i.size m a m c news hl hnews
  have hst := run_storeCells_at P g (sLen * i.size) e' news 0 cur w hg (by simpa using hfit) h1
  simp only [Nat.add_zero] at hst
  simp [Builtin.append_, run_underlying ht, sizeOf, typeInfo, hi, Builtin.lenOf, hroom, hf, Addr.add_lit, hst]
end Go.Proofs.Ytbmcjhjbifojnaa
