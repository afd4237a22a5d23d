/- Words for calls of closures that hold something. -/
import Derived.Test.YtnhedjpghpdbdaaGSet
namespace Go.Proofs.Ytnhedjpghpdbdaa
open Av
attribute [local irreducible] awp awpOpers
set_option linter.unusedSimpArgs false
set_option linter.unusedVariables false
set_option maxRecDepth 100000
set_option maxHeartbeats 4000000
/-- a call of a closure with what it holds -/
theorem callA_ruleC {P : Program} {fid : FuncId} {caps args' args : List AV} {K : AV → Bx → Prop} {bx : Bx} {v : AV} (hc : Ctr P fid args' [] v []) (hw : wkL args' (args ++ caps)) (hf : flatL (args ++ caps) = true) (h : K v bx) : CallAK P (.fn (.func fid) caps) args K bx :=
  ⟨v, ⟨fid, caps, args', rfl, hc, hw, hf⟩, h⟩
theorem callV_ruleC {P : Program} {fid : FuncId} {caps args' args : List AV} {K : AV → Bx → Prop} {bx : Bx} {v : AV} (hc : Ctr P fid args' [] v []) (hw : wkL args' ((args ++ caps).map (view 8 bx))) (hs : v.scal = true) (h : K v bx) : CallVK P (.fn (.func fid) caps) args K bx :=
  ⟨v, ⟨8, fid, caps, args', rfl, hc, hw, hs⟩, h⟩
theorem flatL_app : ∀ (l m : List AV), flatL (l ++ m) = (flatL l && flatL m)
  | [], m => rfl
  | x :: l, m => by simp only [List.cons_append, flatL, flatL_app l m, Bool.and_assoc]
theorem okL_flat (n : Nat) {v : AV} (h : v.flat = true) : okL n v = true := by
  cases v <;> first | (simp [AV.flat] at h; done) | exact h | rfl
theorem renL_flat (ix : List Nat) {v : AV} (h : v.flat = true) : renL ix v = v := by
  cases v <;> first | (simp [AV.flat] at h; done) | rfl
theorem okC_flat (n : Nat) {v : AV} (h : v.flat = true) : okC n v = true := by
  cases v with
  | agg l =>
    show l.all (okL n) = true
    rw [List.all_eq_true]
    exact fun x hx => okL_flat n (flatL_mem (show flatL l = true by simpa [AV.flat] using h) x hx)
  | _ => exact okL_flat n h
theorem renC_flat (ix : List Nat) {v : AV} (h : v.flat = true) : renC ix v = v := by
  cases v with
  | agg l =>
    show AV.agg (l.map (renL ix)) = .agg l
    congr 1
    conv => rhs; rw [← List.map_id l]
    exact List.map_congr_left fun x hx => renL_flat ix (flatL_mem (show flatL l = true by simpa [AV.flat] using h) x hx)
  | _ => exact renL_flat ix h
theorem caps_ok (n : Nat) {l : List AV} (h : flatL l = true) : ∀ x ∈ l, okC n x = true := fun x hx => okC_flat n (flatL_mem h x hx)
theorem caps_ren (ix : List Nat) {l : List AV} (h : flatL l = true) : l.map (renC ix) = l := by
  conv => rhs; rw [← List.map_id l]
  exact List.map_congr_left fun x hx => renC_flat ix (flatL_mem h x hx)
end Go.Proofs.Ytnhedjpghpdbdaa
