/- A store's call and the document's, joined: one fact for each kind of call. -/
import Derived.Test.YtbmcjhjbifojnaaWLaw10a
import Derived.Test.YtbmcjhjbifojnaaWRef10b
import Derived.Test.YtbmcjhjbifojnaaWRef10c
import Derived.Test.YtbmcjhjbifojnaaPlTrail2
namespace Go.Proofs.Ytbmcjhjbifojnaa
open Av
attribute [local irreducible] awp awpOpers
set_option linter.unusedSimpArgs false
set_option linter.unusedVariables false
set_option maxRecDepth 100000
set_option maxHeartbeats 4000000
theorem meetS_len (a b : List Rg) : (meetS a b).length ≤ 1048577 := by
  cases ha : rightB a
  · unfold meetS; simp [ha]
  cases hb : rightB b
  · unfold meetS; simp [ha, hb]
  exact right_length (meetS_facts ha hb).1
/-- what Narrow does to a store's state -/
inductive Nar (s : S10) (x : Int) (V : List Rg) : Bool → Int → S10 → Prop
  | no (e : Int) : Nar s x V false e s
  | new (n : Nat) (r : List Rg) (tr' : List (Int × List Rg)) (hx : x = (n : Int)) (hr : s.d[n]? = some r) (hR : rightB V = true) (hm : meetS r V ≠ []) (hs : (rightB (meetS r V) && decide (meetS r V = r)) = false) :
      Nar s x V true 0 ⟨s.d.set n (meetS r V), tr', s.lv, insS n s.ks, s.W, s.F.set n true⟩
abbrev NarC (s : S10) (x : Int) (V : List Rg) (ok : Bool) (e : Int) (bs' : Bx) : Prop :=
  Ctr Try.prog 12 [.ptr 5 0 0 0, .int .i64 x, eRgs V] (sB s.d s.tr s.lv s.ks) (.tuple [.bool ok, .int .i64 e]) bs'
abbrev NarR (s : S10) (x : Int) (V : List Rg) (ok : Bool) (e : Int) (s' : S10) : Prop :=
  Ctr Try.prog 13 [eSt s.d s.W s.F, .int .i64 x, eRgs V] [] (.tuple [eSt s'.d s'.W s'.F, .bool ok, .int .i64 e]) []
theorem narrow_any {i : Nat} {s : S10} (hok : OK10 i s) (hi : i ≤ 1000) (x : Int) (V : List Rg) (hV : V.length ≤ 1000000000000) :
    (∃ ok e s', NarC s x V ok e (sB s'.d s'.tr s'.lv s'.ks) ∧ NarR s x V ok e s' ∧ OK10 (i + 1) s' ∧ Nar s x V ok e s') ∨
    (∃ s', NarC s x V true 0 [some (5, [.agg [.bool true, .sl 1 1 0 s'.d.length, .sl 2 5 0 s'.tr.length, .sl 1 3 0 s'.lv.length, .mp 4]]), some (1, s'.d.map eRgs), none, some (1, s'.lv.map eI), some (encK s'.ks + 1, [.agg []]), some (2, s'.tr.map eEnt)]
      ∧ NarR s x V true 0 s' ∧ OK10 (i + 1) s' ∧ Nar s x V true 0 s' ∧ s.lv ≠ []) := by
  obtain ⟨d, tr, lv, ks, W, F⟩ := s
  have hdl0 : d.length ≤ 64 := hok.dl
  have htl0 : tr.length ≤ i := hok.tl
  have hfl0 : F.length = d.length := hok.same.flen
  by_cases harg : ¬ (0 ≤ x ∧ x < (d.length : Int)) ∨ rightB V = false
  · exact .inl ⟨false, 2, ⟨d, tr, lv, ks, W, F⟩, Narrow_arg d tr lv ks x V hV harg, ref10_Narrow_arg d W F x V hV harg, hok.mono (by omega), .no 2⟩
  · have hxr : 0 ≤ x ∧ x < (d.length : Int) := Classical.byContradiction fun h => harg (.inl h)
    have hR : rightB V = true := by
      cases hb : rightB V with
      | true => rfl
      | false => exact absurd (.inr hb) harg
    obtain ⟨x0, x1⟩ := hxr
    obtain ⟨n, rfl⟩ := Int.eq_ofNat_of_zero_le x0
    have hnd : n < d.length := by omega
    obtain ⟨r, hr⟩ : ∃ r, d[n]? = some r := ⟨_, List.getElem?_eq_getElem hnd⟩
    have hrl : r.length ≤ 1000000000000 := by have := hok.row r (List.mem_of_getElem? hr); omega
    have hme : rmeetS r V = meetS r V := (meet_eq r V).symm
    have hml := meetS_len r V
    by_cases hm : meetS r V = []
    · exact .inl ⟨false, 12, ⟨d, tr, lv, ks, W, F⟩, Narrow_fail d tr lv ks n r V hV hr hrl hR hm, ref10_Narrow_fail d W F n r V hV hr hrl hR (by rw [hme]; exact hm), hok.mono (by omega), .no 12⟩
    · cases hs : (rightB (meetS r V) && decide (meetS r V = r))
      · have hN := ref10_Narrow_new d W F n r V hV hr hrl hR (by rw [hme]; exact hm) (by rw [hme]; omega) (by rw [hme, ← same_eq]; exact hs) hfl0 (by omega)
        rw [hme] at hN
        by_cases hl0 : lv = []
        · subst hl0
          exact .inl ⟨true, 0, ⟨d.set n (meetS r V), tr, [], insS n ks, W, F.set n true⟩, Narrow_new0 d tr ks n r V hV hr hrl hR hm (by omega) hs, hN, hok.new0 rfl hr hml, .new n r tr rfl hr hR hm hs⟩
        · exact .inr ⟨⟨d.set n (meetS r V), tr ++ [((n : Int), r)], lv, insS n ks, W, F.set n true⟩, Narrow_new d tr lv ks n r V hV hr hrl hR hm (by omega) hs hl0 (by omega), hN, hok.new hr hml, .new n r _ rfl hr hR hm hs, hl0⟩
      · exact .inl ⟨false, 0, ⟨d, tr, lv, ks, W, F⟩, Narrow_same d tr lv ks n r V hV hr hrl hR hm (by omega) hs, ref10_Narrow_same d W F n r V hV hr hrl hR (by rw [hme]; exact hm) (by rw [hme]; omega) (by rw [hme, ← same_eq]; exact hs), hok.mono (by omega), .no 0⟩
theorem pop_any {i : Nat} {s : S10} (hok : OK10 i s) (hi : i ≤ 1000) :
    (s.lv = [] ∧ s.W = [] ∧ Ctr Try.prog 17 [.ptr 5 0 0 0] (sB s.d s.tr s.lv s.ks) (.int .i64 11) (sB s.d s.tr s.lv s.ks) ∧
      Ctr Try.prog 16 [eSt s.d s.W s.F] [] (.tuple [eSt s.d s.W s.F, .int .i64 11]) []) ∨
    (∃ (q m : Nat) (E : List (List Rg)), s.lv.length = q + 1 ∧ s.W[q]? = some E ∧
      Ctr Try.prog 17 [.ptr 5 0 0 0] (sB s.d s.tr s.lv s.ks) (.int .i64 0) (sB E (s.tr.take m) (s.lv.take q) []) ∧
      Ctr Try.prog 16 [eSt s.d s.W s.F] [] (.tuple [eSt E (s.W.take q) (List.replicate E.length false), .int .i64 0]) [] ∧
      OK10 i ⟨E, s.tr.take m, s.lv.take q, [], s.W.take q, List.replicate E.length false⟩) := by
  obtain ⟨d, tr, lv, ks, W, F⟩ := s
  have hwl : W.length = lv.length := hok.same.wlen
  have hll : lv.length ≤ 512 := hok.ll
  have htl : tr.length ≤ i := hok.tl
  cases hq : lv.length with
  | zero =>
    have h1 : lv = [] := List.eq_nil_of_length_eq_zero hq
    have h2 : W = [] := List.eq_nil_of_length_eq_zero (by omega)
    subst h1; subst h2
    exact .inl ⟨rfl, rfl, Pop_none d tr ks, ref10_Pop_none d F⟩
  | succ q =>
    obtain ⟨t, ht⟩ : ∃ t, lv[q]? = some t := ⟨_, List.getElem?_eq_getElem (by omega)⟩
    obtain ⟨E, hE⟩ : ∃ E, W[q]? = some E := ⟨_, List.getElem?_eq_getElem (by omega)⟩
    obtain ⟨m, rfl, _, _⟩ := hok.same.lev q t E ht hE
    obtain ⟨h1, h2, h3⟩ := hok.pop hq ht hE
    simp only at h1 h2 h3
    have hEl : E.length ≤ 64 := h3.dl
    refine .inr ⟨q, m, E, rfl, hE, ?_, ref10_Pop d W F q E (by omega) hE (by omega) (by omega), h3⟩
    have hc := Pop_ctr d tr lv ks q m hq ht h1 (by omega) (by omega) (fun j x r _ h => hok.same.top j x r h)
    have hc2 := Ctr.trunc (Ctr.trunc hc (k := 2) rfl m) (k := 3) rfl q
    have e : bxSet (bxSet [some (5, [AV.agg [.bool true, .sl 1 1 0 d.length, .sl 2 2 0 m, .sl 1 3 0 q, .mp 4]]), some (1, (undoS d (tr.drop m)).map eRgs), some (2, tr.map eEnt), some (1, lv.map eI), some (1, [.agg []])] 2 (some (2, (tr.map eEnt).take m))) 3 (some (1, (lv.map eI).take q)) = sB E (tr.take m) (lv.take q) [] := by
      have e0 : encK [] = 0 := rfl
      have l1 : (tr.take m).length = m := by rw [List.length_take]; omega
      have l2 : (lv.take q).length = q := by rw [List.length_take]; omega
      rw [sB_eq, l1, l2, h2, undoS_len, ← h2, List.map_take, List.map_take]
      rfl
    rw [← e]
    exact hc2
theorem push_any {i : Nat} {s : S10} (hok : OK10 i s) (hi : i ≤ 1000) (hl : s.lv.length < 512) :
    Ctr Try.prog 15 [.ptr 5 0 0 0] (sB s.d s.tr s.lv s.ks) (.int .i64 0)
      [some (5, [.agg [.bool true, .sl 1 1 0 s.d.length, .sl 2 2 0 s.tr.length, .sl 1 5 0 (s.lv ++ [(s.tr.length : Int)]).length, .mp 4]]), some (1, s.d.map eRgs), some (2, s.tr.map eEnt), none, some (encK s.ks + 1, [.agg []]), some (1, (s.lv ++ [(s.tr.length : Int)]).map eI)] ∧
    Ctr Try.prog 14 [eSt s.d s.W s.F] [] (.tuple [eSt s.d (s.W ++ [s.d]) s.F, .int .i64 0]) [] ∧ OK10 i { s with lv := s.lv ++ [(s.tr.length : Int)], W := s.W ++ [s.d] } := by
  have htl := hok.tl
  exact ⟨Push_ctr _ _ _ _ hl (by omega), ref10_Push _ _ _ (by rw [hok.same.wlen]; exact hl), hok.push hl⟩
theorem chg_any {i : Nat} {s : S10} (hok : OK10 i s) :
    Ctr Try.prog 20 [.ptr 5 0 0 0] (sB s.d s.tr s.lv s.ks) (.list 1 ((s.ks.map Int.ofNat).map eI)) (sB s.d s.tr s.lv []) ∧
    Ctr Try.prog 18 [eSt s.d s.W s.F] [] (.tuple [eSt s.d s.W (List.replicate s.d.length false), .list 1 ((s.ks.map Int.ofNat).map eI)]) [] ∧ OK10 i { s with ks := [], F := List.replicate s.d.length false } := by
  have h1 := hok.same.few
  have h2 := hok.dl
  have h3 := hok.same.flen
  refine ⟨Changed_ctr _ _ _ _ (by omega), ?_, hok.told⟩
  have := ref10_Changed s.d s.W s.F (by omega) (by omega)
  rwa [hok.same.told] at this
end Go.Proofs.Ytbmcjhjbifojnaa
