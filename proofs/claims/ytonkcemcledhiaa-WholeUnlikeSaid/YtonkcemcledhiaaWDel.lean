/- slices.Delete of one range out of a row. -/
import Derived.Test.YtonkcemcledhiaaWBridge
import Derived.Test.YtonkcemcledhiaaProg
import Derived.WalkKit
import Derived.Deep.LoopGhost
import Derived.Deep.RegionLaw
import Derived.Lib.Walk
import Derived.Lib.SliceRun
namespace Go.Proofs.Ytonkcemcledhiaa
open Av Go.RowKit
set_option linter.unusedSimpArgs false
set_option linter.unusedVariables false
theorem step_append_row {P : Program} {ops : Array Oper} {o : Oper} {a : Act} {w : World} {K : Act → World → Prop} {Q : Exit → Act → World → Prop} {E : Prop}
    (hg : o.guard = none) (s x : Operand) (t : TypeId) (hop : o.op = Op.call { callee := Callee.builtin Builtin.append, args := #[s, x], argTypes := #[t, t] })
    (b n cap m : Nat) (vs : Value) (hs : a.eval s = .slice (some ⟨b, 0, none⟩) n cap) (hx : a.eval x = vs) (w' : World)
    (hrun : ∀ ty, (Builtin.append_ #[t, t] ty #[.slice (some ⟨b, 0, none⟩) n cap, vs]).run P w = .ok (.slice (some ⟨b, 0, none⟩) m cap) w')
    (hK : K (a.put o.dst (.slice (some ⟨b, 0, none⟩) m cap)) w') :
    if Region.wanted o (yielded ops a.tmps) = true then Oper.wp P o a w K Q else E := by
  have hw : Region.wanted o (yielded ops a.tmps) = true := by simp [Region.wanted, hg]
  rw [if_pos hw]
  unfold Oper.wp
  simp [execOp, hop, resolve, invoke, builtin, hs, hx, hrun, Result.andThen]
  exact hK
set_option maxHeartbeats 4000000 in
set_option maxRecDepth 1000000 in
theorem del_walk (w W1 W2 : World) (b n cap i j m : Nat) (hij : i < j) (hj : j ≤ n) (hmn : m ≤ n) (hc : n ≤ cap)
    (happ : ∀ ty, (Builtin.append_ #[29, 29] ty #[.slice (some ⟨b, 0, none⟩) i cap, .slice (if cap = j then some (⟨b, 0, none⟩ : Addr) else some ⟨b, j * 2, none⟩) (n - j) (cap - j)]).run Try.prog w.drew = .ok (.slice (some ⟨b, 0, none⟩) m cap) W1)
    (hcl : ∀ ty, (Builtin.clear_ #[29] ty #[.slice (if cap = m then some (⟨b, 0, none⟩ : Addr) else some ⟨b, m * 2, none⟩) (n - m) (cap - m)]).run Try.prog W1 = .ok (.tuple #[]) W2) :
    Calls Try.prog 108 #[.slice (some ⟨b, 0, none⟩) n cap, .int .i64 i, .int .i64 j] w fun e w' => e = .returned (.slice (some ⟨b, 0, none⟩) m cap) ∧ w' = W2 := by
  have hic : i ≤ cap := by omega
  have hjc : j ≤ cap := by omega
  have hmc : m ≤ cap := by omega
  go_enter Try.func108, Try.ntmps108
  go_wp2_with fail
  go_region_law (refine step_append_row rfl (.tmp 22) (.tmp 25) 29 rfl b i cap m _ (by simp [Act.eval, Act.put]) (by simp [Act.eval, Act.put]) W1 happ ?_)
  go_wp2
  all_goals
    go_ret
    exact ⟨rfl, rfl⟩
theorem cs_two {v0 v1 v2 : AV} {fz : Fz} {pl : Pl} {cs : Array Value} (hl : 3 = cs.size) (hA : ∀ (i : Nat) v c, [v0, v1, v2][i]? = some v → cs[i]? = some c → Rep fz pl v c) : ∃ c0 c1 c2, cs = #[c0, c1, c2] ∧ Rep fz pl v0 c0 ∧ Rep fz pl v1 c1 ∧ Rep fz pl v2 c2 := by
  have g0 : cs[0]? = some cs[0] := Array.getElem?_eq_getElem (by omega)
  have g1 : cs[1]? = some cs[1] := Array.getElem?_eq_getElem (by omega)
  have g2 : cs[2]? = some cs[2] := Array.getElem?_eq_getElem (by omega)
  refine ⟨cs[0], cs[1], cs[2], ?_, hA 0 _ _ rfl g0, hA 1 _ _ rfl g1, hA 2 _ _ rfl g2⟩
  apply Array.ext
  · simpa using hl.symm
  · intro i h1 h2
    have h3 : i = 0 ∨ i = 1 ∨ i = 2 := by omega
    rcases h3 with rfl | rfl | rfl <;> rfl
theorem erase_get {l : List Rg} {i j : Nat} : (l.eraseIdx i)[j]? = if j < i then l[j]? else l[j + 1]? := List.getElem?_eraseIdx ..
theorem del_old {arr arr1 : Array Value} {news Z rest : List Value} {n i : Nat} (h1 : arr1 = (arr.toList.take (i * 2) ++ news ++ arr.toList.drop (i * 2 + news.length)).toArray) (hnl : news.length = (n - (i + 1)) * 2)
    (hget : ∀ t, t < 2 * (n - (i + 1)) → news[t]? = arr[2 * (i + 1) + t]?) (hN : n * 2 ≤ arr.size) (hi : i < n) (p : Nat) (hp : p < (n - 1) * 2) :
    (arr1.toList.take ((n - 1) * 2) ++ Z ++ rest).toArray[p]? = if p < i * 2 then arr[p]? else arr[p + 2]? := by
  have hs1 : arr1.size = arr.size := by rw [h1]; simp [hnl]; omega
  rw [List.getElem?_toArray, List.append_assoc, List.getElem?_append_left (by rw [List.length_take, Array.length_toList, hs1]; omega), List.getElem?_take, if_pos hp, h1]
  simp only [List.append_assoc]
  by_cases hpi : p < i * 2
  · rw [if_pos hpi, List.getElem?_append_left (by rw [List.length_take, Array.length_toList]; omega), List.getElem?_take, if_pos hpi, Array.getElem?_toList]
  · have hmin : (arr.toList.take (i * 2)).length = i * 2 := by rw [List.length_take, Array.length_toList]; omega
    rw [if_neg hpi, List.getElem?_append_right (by omega), hmin, List.getElem?_append_left (by omega), hget _ (by omega)]
    congr 1; omega
set_option maxRecDepth 100000 in
theorem del_rgs (l : List Rg) (i : Nat) (hi : i < l.length) : Ctr Try.prog 108 [.sl 2 0 0 l.length, .int .i64 i, .int .i64 ((i : Int) + 1)] [some (2, l.map eRg)] (.sl 2 0 0 (l.length - 1)) [some (2, (l.eraseIdx i).map eRg)] := by
  refine ⟨Try.call108, ?_⟩
  intro w0 pr fz pl w cs hS hl hA
  obtain ⟨c0, c1, c2, rfl, r0, r1, r2⟩ := cs_two hl hA
  have e1 := r1.inv_int
  have e2 := r2.inv_int
  subst e1; subst e2
  rcases r0.inv_sl with ⟨b, n', cap, rfl, hp, hcap, hfit⟩ | ⟨_, _, h0⟩
  rotate_left
  · omega
  rcases hS.box 0 2 (l.map eRg) rfl with ⟨a1, _⟩ | ⟨b', n'', arr, e, B⟩
  · rw [a1] at hp; cases hp
  obtain ⟨rfl, rfl⟩ := B.unique hp
  have hsz := B.size
  have hfits := B.fits
  rw [flat_len B.elem, List.length_map] at hfits
  simp only [Nat.zero_mul, Nat.zero_add] at hfit r0 ⊢
  generalize hn : l.length = n at *
  -- the row that is moved
  obtain ⟨news, hnews⟩ : ∃ news, news = (arr.toList.drop (2 * (i + 1))).take (2 * (n - (i + 1))) := ⟨_, rfl⟩
  have hnl : news.length = (n - (i + 1)) * 2 := by rw [hnews, List.length_take, List.length_drop, Array.length_toList]; omega
  have hget : ∀ t u, news[t]? = some u → t < 2 * (n - (i + 1)) ∧ arr[2 * (i + 1) + t]? = some u := by
    intro t u hu
    rw [hnews, List.getElem?_take] at hu
    split at hu
    · rename_i ht
      rw [List.getElem?_drop, Array.getElem?_toList] at hu
      exact ⟨ht, hu⟩
    · cases hu
  have h1c : ∀ u ∈ news, u.oneCell' = true := by
    intro u hu
    obtain ⟨t, ht⟩ := List.getElem?_of_mem hu
    obtain ⟨h1, h2⟩ := hget t u ht
    have hlt : 2 * (i + 1) + t < ((l.map eRg).flatMap AV.cells).length := by rw [flat_len B.elem, List.length_map]; omega
    exact B.one _ _ _ (List.getElem?_eq_getElem hlt) h2
  have hb : w.drew.heap[b]? = some (.cells arr e (0, 0)) := B.heap
  obtain ⟨A, hAd, hsrc⟩ : ∃ A : Addr, (if cap = i + 1 then some (⟨b, 0, none⟩ : Addr) else some ⟨b, (i + 1) * 2, none⟩) = some A ∧ ∀ t u, news[t]? = some u → w.drew.cell? (A.add t) = some u := by
    by_cases h : cap = i + 1
    · refine ⟨⟨b, 0, none⟩, by simp [h], fun t u hu => ?_⟩
      have := (hget t u hu).1
      omega
    · refine ⟨⟨b, (i + 1) * 2, none⟩, by simp [h], fun t u hu => ?_⟩
      have := (hget t u hu).2
      rw [Addr.add_lit]
      unfold World.cell?
      simp only [hb]
      rw [if_neg (by simp), Nat.mul_comm (i + 1) 2]; exact this
  have happ := fun ty => run_append_row (P := Try.prog) w.drew 29 ty 36 e _ rfl rfl b i cap arr (by exact hb) A (n - (i + 1)) (cap - (i + 1)) news (by exact hnl) hsrc h1c (by omega) (by rw [hnl]; show i * 2 + _ ≤ _; omega)
  rw [show i + (n - (i + 1)) = n - 1 by omega] at happ
  obtain ⟨arr1, harr1⟩ : ∃ arr1, arr1 = (arr.toList.take (i * 2) ++ news ++ arr.toList.drop (i * 2 + news.length)).toArray := ⟨_, rfl⟩
  have hs1 : arr1.size = arr.size := by rw [harr1]; simp [hnl]; omega
  have hb1 : (w.drew.setRow b arr1).heap[b]? = some (.cells arr1 e (0, 0)) := setRow_heap _ _ _ _ _ _ hb
  have hcl := fun ty => run_clear_row (P := Try.prog) (w := w.drew.setRow b arr1) (t := 29) (e := 36) (zs := [.int .i64 0, .int .i64 0]) rfl rfl rfl rfl (o := (n - 1) * 2) (m := 1) (c := cap - (n - 1)) hb1 (by omega) (by rw [hs1]; show _ + 1 * 2 ≤ _; omega) ty
  have hw := del_walk w (w.drew.setRow b arr1) _ b n cap i (i + 1) (n - 1) (by omega) (by omega) (by omega) hcap (fun ty => by rw [hAd, harr1]; exact happ ty) (fun ty => by rw [if_neg (by omega), show n - (n - 1) = 1 by omega]; exact hcl ty)
  refine hw.mono ?_
  rintro e' w' ⟨rfl, rfl⟩
  rw [setRow_setRow]
  have hel : (l.eraseIdx i).length = n - 1 := by rw [List.length_eraseIdx, if_pos (by omega), hn]
  refine ⟨_, fz, pl, rfl, .refl _, List.prefix_refl _, ?_, Sim_cells (w := w) hS (k := 0) rfl B rfl rfl rfl (by simp) (fun c hc hne => by rw [setRow_other _ _ _ _ hne]; rfl) (setRow_heap _ _ _ _ _ _ hb) ?_ (len_rg _) (by rw [List.length_map, hel]; omega) (rep_rg ?_)⟩
  · have := Rep.sl (fz := fz) (pl := pl) 2 0 0 (n - 1) b n' cap hp (by omega) (by omega)
    simpa using this
  · simp only [List.size_toArray, List.length_append, List.length_take, List.length_drop, Array.length_toList, size_zeroCells, hs1]
    generalize hq : Array.size (Value.cells _) = q
    have : q = 2 := by rw [← hq]; rfl
    omega
  · intro j r hj
    have hjl := (List.getElem?_eq_some_iff.1 hj).1
    rw [hel] at hjl
    have hg2 : ∀ t, t < 2 * (n - (i + 1)) → news[t]? = arr[2 * (i + 1) + t]? := by
      intro t ht
      rw [hnews, List.getElem?_take, if_pos ht, List.getElem?_drop, Array.getElem?_toList]
    rw [del_old harr1 hnl hg2 (by omega) hi (2 * j) (by omega), del_old harr1 hnl hg2 (by omega) hi (2 * j + 1) (by omega)]
    rw [erase_get] at hj
    by_cases hji : j < i
    · rw [if_pos hji] at hj
      rw [if_pos (by omega), if_pos (by omega)]
      exact box_rg B hj
    · rw [if_neg hji] at hj
      rw [if_neg (by omega), if_neg (by omega)]
      have := box_rg B hj
      rw [show 2 * (j + 1) = 2 * j + 2 by omega] at this
      rw [show 2 * j + 1 + 2 = 2 * j + 2 + 1 by omega]
      exact this
end Go.Proofs.Ytonkcemcledhiaa
