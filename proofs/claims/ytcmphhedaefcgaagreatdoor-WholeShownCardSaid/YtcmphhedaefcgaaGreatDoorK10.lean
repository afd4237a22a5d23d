/- The law WholeShown: for every text the call returns true, and the text reads behind the call as it read before. The variables that start-up code lays are tied to the program text by the given tie. No condition of ours. -/
import Derived.Test.YtcmphhedaefcgaaGreatDoorRows
import Derived.Test.YtcmphhedaefcgaaGreatDoorCards
import Derived.Test.YtcmphhedaefcgaaGreatDoorTie
import Derived.RowKit
import Derived.WalkKit
import Derived.WalkSpells
import Derived.WalkLawsBesides
import Derived.Handy
import Derived.ProofKit
import Derived.Carry
import Derived.ChangeOld
import Derived.OpenShut
import Derived.Below
import Derived.Deep.Slices
import Derived.Lib.SmallJoins
import Derived.LaidMore
import Derived.Lib.LaidTab
import Derived.Stop.Joined
import Derived.SevenTiedAt
import Derived.Test.YtcmphhedaefcgaaGreatDoorK3
import Derived.Test.YtcmphhedaefcgaaGreatDoorK9
namespace Go.Proofs.YtcmphhedaefcgaaGreatDoor.wholeShown
open Go.ChangeShapes Go.WideShapes Go.ChangeAt Go.RowKit Go.Joins
open Go.ChangeMaps (open_string shut_string)
open Av
attribute [local irreducible] awp AbX
set_option linter.unusedVariables false
theorem own : ownKnob Tryz.prog.godebug = none := by kernel_rfl
theorem laidOut : laidOutB Tryz.prog = true := by kernel_rfl
abbrev laidL : List (String × DataW Unit) := Rows.wholeShownRow.laid
theorem var_heap {W : World} {name : String} {g : Nat} {cs : Array Value} (hg : Tryz.prog.globalNamed name = some g) (h : W.var? Tryz.prog name = some cs) : ∃ e fr, W.heap[g]? = some (.cells cs e fr) := by
 unfold World.var? at h
 rw [hg] at h
 simp only [Option.bind_some] at h
 split at h
 · rename_i cs' e fr hh
   injection h with h
   subst h
   exact ⟨e, fr, hh⟩
 · cases h
theorem gPow : Tryz.prog.globalNamed "internal/strconv.uint64pow10" = some 3 := by kernel_rfl
theorem tPow : (Tryz.prog.globals[3]?).map (·.type) = some 223 := by kernel_rfl
theorem gRange : Tryz.prog.globalNamed "strconv.ErrRange" = some 1 := by kernel_rfl
theorem tRange : (Tryz.prog.globals[1]?).map (·.type) = some 69 := by kernel_rfl
theorem gSyn : Tryz.prog.globalNamed "strconv.ErrSyntax" = some 0 := by kernel_rfl
theorem tSyn : (Tryz.prog.globals[0]?).map (·.type) = some 69 := by kernel_rfl
theorem pow_tab {H : Type} : (Rows.laid_internal_strconv_uint64pow10 : DataW H) = Lib.tabData .u64 ((List.range 20).map fun i => ((10 ^ i : Nat) : Int)) := rfl
theorem lay_of {W : World} (h : laidMetH Tryz.prog laidL W) : LayOf Tryz.prog (fun b => W.heap[b]?) := by
 rw [MakeChecks.laidMetH_plain _ _ _ (by kernel_rfl)] at h
 obtain ⟨ps, ⟨g0, t0, cs0, f0, p0, q0, hg0, ht0, hv0, hd0, ⟨g1, t1, cs1, f1, p1, q1, hg1, ht1, hv1, hd1, ⟨g2, t2, cs2, f2, p2, q2, hg2, ht2, hv2, hd2, ⟨g3, t3, cs3, f3, p3, q3, hg3, ht3, hv3, hd3, ⟨g4, t4, cs4, f4, p4, q4, hg4, ht4, hv4, hd4, _, _⟩, _⟩, _⟩, _⟩, _⟩, _, _⟩ := h
 obtain rfl := Option.some.inj (gPow.symm.trans hg2)
 obtain rfl := Option.some.inj (tPow.symm.trans ht2)
 obtain rfl := Option.some.inj (gRange.symm.trans hg3)
 obtain rfl := Option.some.inj (tRange.symm.trans ht3)
 obtain rfl := Option.some.inj (gSyn.symm.trans hg4)
 obtain rfl := Option.some.inj (tSyn.symm.trans ht4)
 rw [pow_tab] at hd2
 refine ⟨fun g hg => ?_, fun g hg => ?_, fun g hg => ?_⟩
 · obtain rfl := Option.some.inj (gPow.symm.trans hg)
   have hc := Lib.cells_of_tab (k := .u64) Tryz.underlying223 Tryz.underlying143 (by kernel_rfl) (by kernel_rfl) hd2
   obtain ⟨e, fr, hh⟩ := var_heap gPow hv2
   refine ⟨e, fr, ?_⟩
   have hcs : cs2 = ((List.range 20).map fun i => Value.int .u64 ((10 ^ i : Nat) : Int)).toArray := by
    apply Array.toList_inj.1
    rw [hc, List.map_map]; rfl
   rw [← hcs]; exact hh
 · obtain rfl := Option.some.inj (gSyn.symm.trans hg)
   obtain ⟨f', u, v, e1, _, _⟩ := iface_of_trod Tryz.underlying69 hd4
   obtain ⟨e, fr, hh⟩ := var_heap gSyn hv4
   obtain ⟨l4⟩ := cs4
   refine ⟨u, v, e, fr, ?_⟩
   have : l4 = [.iface u v] := e1
   subst this; exact hh
 · obtain rfl := Option.some.inj (gRange.symm.trans hg)
   obtain ⟨f', u, v, e1, _, _⟩ := iface_of_trod Tryz.underlying69 hd3
   obtain ⟨e, fr, hh⟩ := var_heap gRange hv3
   obtain ⟨l3⟩ := cs3
   refine ⟨u, v, e, fr, ?_⟩
   have : l3 = [.iface u v] := e1
   subst this; exact hh
theorem door_met (os : Os) (args : Array Value) : laidMetH Tryz.prog laidL ((World.doorLaid Tryz.prog 400 os).forCall (fun _ _ => 0) ⟨#[], args, []⟩).memory :=
 laidMetH_of_parts3 (fuel := 8) (laidMet_of_run' 8 (by kernel_rfl) (by kernel_rfl)) (by kernel_rfl) (by kernel_rfl)
set_option maxRecDepth 100000 in
theorem lifted (os : Os) (started : os.Started) (H : Type) (enc : TypeId × Value → H) :
 ReturnsInHanded {} Tryz.checked os 3 .any (fun w args => (Rows.wholeShownSpec.pre enc Tryz.prog Tryz.f3 [] false w args ∧ laidMetH Tryz.prog laidL w) ∧ sizedMet enc Tryz.prog Tryz.f3 (OpenSpec.ofChange Rows.wholeShownSpec) false w args)
  (Rows.wholeShownSpec.post enc Tryz.prog Tryz.f3 false true false false) := by
 refine returnsInHanded_of_change_and (C := Tryz.checked) (X := fun w _ => laidMetH Tryz.prog laidL w) (fun _ _ _ hh h => h.of_heap hh) own started (by kernel_rfl) Tryz.func3
  (ChangeSpec.witness_shaped (enc := enc) (C := Tryz.checked) (os := os) (X := fun w _ => laidMetH Tryz.prog laidL w) false (World.doorLaid Tryz.prog 400 os) #[.string ByteArray.empty] 8 rfl (World.shaped_of_RefB (by kernel_rfl) (by kernel_rfl)) (by kernel_rfl) (by kernel_rfl) (by kernel_rfl) (door_met os _)) ?_
 intro W base args ds gs before hval0 hW _ _ hL _
 have hval : ∀ (j : Nat) t v, Tryz.f3.params[j]? = some t → args[j]? = some v → Value.okWide Tryz.prog W .any base t v := hval0
 have hW' := hW
 obtain ⟨p, q, hA0, hV, rfl, hfz, hnd⟩ := hW
 have hA : DataW.TrodAll enc Tryz.prog W 0 (fun _ => true) true Tryz.f3.params.toList args.toList ds p := hA0
 rw [Tryz.params3] at hA hval
 obtain ⟨v0, d0, rfl, rfl, h0⟩ := trodAll_one hA
 obtain ⟨rfl, rfl⟩ := trodVars_none hV
 have k0 := h0
 have lt0 : ∀ x ∈ p, x.block < W.heap.size := by obtain ⟨m, hm⟩ := k0; exact DataW.trod_lt m _ _ _ hm
 obtain ⟨s, rfl, rfl, rfl, hz⟩ := open_string Tryz.underlying9 (hval 0 9 v0 rfl rfl) h0
 have hlay : LayF (fun b => W.heap[b]?) := lay_of hL
 clear hA0 hval0
 have es : S8 s.data.toList = s := by
  obtain ⟨⟨l⟩⟩ := s; rfl
 have hlaw := law_shown s.data.toList
 rw [es] at hlaw
 refine (show Calls Tryz.prog 3 #[.string s] W _ from law_true (cs := [.string s]) hlaw rfl (reps_cons (.str s) reps_nil) hlay).mono fun e W' ⟨he, bel⟩ => ?_
 subst he
 exact ⟨_, rfl, _, _, _, [], _, [], hW', trodAll_mk1 (shut_bool Tryz.underlying4 _), (trodAll_cons_mk (Below.trod laidOut (by kernel_rfl) (of_decide_eq_true (by kernel_rfl)) k0 bel lt0) trodAll_mk0), rfl, bel.frame _, fun h => by cases h⟩
theorem over : Rows.WholeShownSaid :=
 OpenClaim.holds_of_wide 3 Tryz.f3 rfl rfl rfl rfl rfl rfl rfl ⟨rfl, rfl, rfl, rfl, rfl⟩ rfl rfl rfl rfl rfl (by kernel_rfl) Tryz.func3 (by kernel_rfl)
  (of_decide_eq_true (by kernel_rfl)) (by unfold Func.isWrapper; first | (rw [if_pos (by decide +kernel)]; kernel_rfl) | (rw [if_neg (by decide +kernel)]; exact ⟨rfl, rfl⟩))
  (fun os started H enc _ => lifted os started H enc)
theorem proved : Rows.WholeShownCardSaid :=
 Claim7.holds_tied_plain_at .later [] [.data, .data, .data, .sentinel, .sentinel] true (true, "8f49aef2fdd3f64e898af306a0e07647421247f5374b893db3d75c5141e2bba3") true
  over (fun _ h => by cases h) (by kernel_rfl) (fun _ h => by cases h) wholeShown_row_tie rfl ⟨rfl, rfl⟩ (by kernel_rfl) rfl
  (fun f fn hf hfn => by
   obtain rfl : f = 3 := Option.some.inj ((show Tryz.prog.funcNamed "touchstone/touchstonetop.WholeShown" = some 3 by kernel_rfl).symm.trans hf) |>.symm
   obtain rfl : fn = Tryz.f3 := (Option.some.inj (Tryz.func3.symm.trans hfn)).symm
   exact ⟨by kernel_rfl, fun j t ht => by
    rw [Tryz.params3] at ht
    have h3 : t = 9 := by
     rcases j with _ | j
     · simpa using ht.symm
     · simp at ht
    subst h3
    exact (show Tryz.prog.wantsStandIn 9 = false by kernel_rfl)⟩)
  (by kernel_rfl)
#print axioms proved
end Go.Proofs.YtcmphhedaefcgaaGreatDoor.wholeShown
