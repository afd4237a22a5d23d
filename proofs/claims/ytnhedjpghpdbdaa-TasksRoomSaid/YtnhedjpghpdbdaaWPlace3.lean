/- What tasks.place computes. -/
import Derived.Test.YtnhedjpghpdbdaaWPlace2
namespace Go.Proofs.Ytnhedjpghpdbdaa
open Av
attribute [local irreducible] awp awpOpers
open Go.RowKit Go.Shelf
set_option linter.unusedSimpArgs false
set_option linter.unusedVariables false
set_option maxRecDepth 100000
attribute [local go_sem] Oper.semAt_some
theorem uncons {n : Nat} {l : List Value} (h : l.length = n + 1) : ∃ x l', l = x :: l' ∧ l'.length = n := by
  cases l with
  | nil => simp at h
  | cons x l => exact ⟨x, l, rfl, by simpa using h⟩
theorem arr94 (t : Array Value) (h : t.size = 94) : ∃ x0 x1 x2 x3 x4 x5 x6 x7 x8 x9 x10 x11 x12 x13 x14 x15 x16 x17 x18 x19 x20 x21 x22 x23 x24 x25 x26 x27 x28 x29 x30 x31 x32 x33 x34 x35 x36 x37 x38 x39 x40 x41 x42 x43 x44 x45 x46 x47 x48 x49 x50 x51 x52 x53 x54 x55 x56 x57 x58 x59 x60 x61 x62 x63 x64 x65 x66 x67 x68 x69 x70 x71 x72 x73 x74 x75 x76 x77 x78 x79 x80 x81 x82 x83 x84 x85 x86 x87 x88 x89 x90 x91 x92 x93, t = #[x0, x1, x2, x3, x4, x5, x6, x7, x8, x9, x10, x11, x12, x13, x14, x15, x16, x17, x18, x19, x20, x21, x22, x23, x24, x25, x26, x27, x28, x29, x30, x31, x32, x33, x34, x35, x36, x37, x38, x39, x40, x41, x42, x43, x44, x45, x46, x47, x48, x49, x50, x51, x52, x53, x54, x55, x56, x57, x58, x59, x60, x61, x62, x63, x64, x65, x66, x67, x68, x69, x70, x71, x72, x73, x74, x75, x76, x77, x78, x79, x80, x81, x82, x83, x84, x85, x86, x87, x88, x89, x90, x91, x92, x93] := by
  obtain ⟨l0⟩ := t
  replace h : l0.length = 94 := h
  obtain ⟨x0, l1, h0, h⟩ := uncons h
  obtain ⟨x1, l2, h1, h⟩ := uncons h
  obtain ⟨x2, l3, h2, h⟩ := uncons h
  obtain ⟨x3, l4, h3, h⟩ := uncons h
  obtain ⟨x4, l5, h4, h⟩ := uncons h
  obtain ⟨x5, l6, h5, h⟩ := uncons h
  obtain ⟨x6, l7, h6, h⟩ := uncons h
  obtain ⟨x7, l8, h7, h⟩ := uncons h
  obtain ⟨x8, l9, h8, h⟩ := uncons h
  obtain ⟨x9, l10, h9, h⟩ := uncons h
  obtain ⟨x10, l11, h10, h⟩ := uncons h
  obtain ⟨x11, l12, h11, h⟩ := uncons h
  obtain ⟨x12, l13, h12, h⟩ := uncons h
  obtain ⟨x13, l14, h13, h⟩ := uncons h
  obtain ⟨x14, l15, h14, h⟩ := uncons h
  obtain ⟨x15, l16, h15, h⟩ := uncons h
  obtain ⟨x16, l17, h16, h⟩ := uncons h
  obtain ⟨x17, l18, h17, h⟩ := uncons h
  obtain ⟨x18, l19, h18, h⟩ := uncons h
  obtain ⟨x19, l20, h19, h⟩ := uncons h
  obtain ⟨x20, l21, h20, h⟩ := uncons h
  obtain ⟨x21, l22, h21, h⟩ := uncons h
  obtain ⟨x22, l23, h22, h⟩ := uncons h
  obtain ⟨x23, l24, h23, h⟩ := uncons h
  obtain ⟨x24, l25, h24, h⟩ := uncons h
  obtain ⟨x25, l26, h25, h⟩ := uncons h
  obtain ⟨x26, l27, h26, h⟩ := uncons h
  obtain ⟨x27, l28, h27, h⟩ := uncons h
  obtain ⟨x28, l29, h28, h⟩ := uncons h
  obtain ⟨x29, l30, h29, h⟩ := uncons h
  obtain ⟨x30, l31, h30, h⟩ := uncons h
  obtain ⟨x31, l32, h31, h⟩ := uncons h
  obtain ⟨x32, l33, h32, h⟩ := uncons h
  obtain ⟨x33, l34, h33, h⟩ := uncons h
  obtain ⟨x34, l35, h34, h⟩ := uncons h
  obtain ⟨x35, l36, h35, h⟩ := uncons h
  obtain ⟨x36, l37, h36, h⟩ := uncons h
  obtain ⟨x37, l38, h37, h⟩ := uncons h
  obtain ⟨x38, l39, h38, h⟩ := uncons h
  obtain ⟨x39, l40, h39, h⟩ := uncons h
  obtain ⟨x40, l41, h40, h⟩ := uncons h
  obtain ⟨x41, l42, h41, h⟩ := uncons h
  obtain ⟨x42, l43, h42, h⟩ := uncons h
  obtain ⟨x43, l44, h43, h⟩ := uncons h
  obtain ⟨x44, l45, h44, h⟩ := uncons h
  obtain ⟨x45, l46, h45, h⟩ := uncons h
  obtain ⟨x46, l47, h46, h⟩ := uncons h
  obtain ⟨x47, l48, h47, h⟩ := uncons h
  obtain ⟨x48, l49, h48, h⟩ := uncons h
  obtain ⟨x49, l50, h49, h⟩ := uncons h
  obtain ⟨x50, l51, h50, h⟩ := uncons h
  obtain ⟨x51, l52, h51, h⟩ := uncons h
  obtain ⟨x52, l53, h52, h⟩ := uncons h
  obtain ⟨x53, l54, h53, h⟩ := uncons h
  obtain ⟨x54, l55, h54, h⟩ := uncons h
  obtain ⟨x55, l56, h55, h⟩ := uncons h
  obtain ⟨x56, l57, h56, h⟩ := uncons h
  obtain ⟨x57, l58, h57, h⟩ := uncons h
  obtain ⟨x58, l59, h58, h⟩ := uncons h
  obtain ⟨x59, l60, h59, h⟩ := uncons h
  obtain ⟨x60, l61, h60, h⟩ := uncons h
  obtain ⟨x61, l62, h61, h⟩ := uncons h
  obtain ⟨x62, l63, h62, h⟩ := uncons h
  obtain ⟨x63, l64, h63, h⟩ := uncons h
  obtain ⟨x64, l65, h64, h⟩ := uncons h
  obtain ⟨x65, l66, h65, h⟩ := uncons h
  obtain ⟨x66, l67, h66, h⟩ := uncons h
  obtain ⟨x67, l68, h67, h⟩ := uncons h
  obtain ⟨x68, l69, h68, h⟩ := uncons h
  obtain ⟨x69, l70, h69, h⟩ := uncons h
  obtain ⟨x70, l71, h70, h⟩ := uncons h
  obtain ⟨x71, l72, h71, h⟩ := uncons h
  obtain ⟨x72, l73, h72, h⟩ := uncons h
  obtain ⟨x73, l74, h73, h⟩ := uncons h
  obtain ⟨x74, l75, h74, h⟩ := uncons h
  obtain ⟨x75, l76, h75, h⟩ := uncons h
  obtain ⟨x76, l77, h76, h⟩ := uncons h
  obtain ⟨x77, l78, h77, h⟩ := uncons h
  obtain ⟨x78, l79, h78, h⟩ := uncons h
  obtain ⟨x79, l80, h79, h⟩ := uncons h
  obtain ⟨x80, l81, h80, h⟩ := uncons h
  obtain ⟨x81, l82, h81, h⟩ := uncons h
  obtain ⟨x82, l83, h82, h⟩ := uncons h
  obtain ⟨x83, l84, h83, h⟩ := uncons h
  obtain ⟨x84, l85, h84, h⟩ := uncons h
  obtain ⟨x85, l86, h85, h⟩ := uncons h
  obtain ⟨x86, l87, h86, h⟩ := uncons h
  obtain ⟨x87, l88, h87, h⟩ := uncons h
  obtain ⟨x88, l89, h88, h⟩ := uncons h
  obtain ⟨x89, l90, h89, h⟩ := uncons h
  obtain ⟨x90, l91, h90, h⟩ := uncons h
  obtain ⟨x91, l92, h91, h⟩ := uncons h
  obtain ⟨x92, l93, h92, h⟩ := uncons h
  obtain ⟨x93, l94, h93, h⟩ := uncons h
  have h94 : l94 = [] := List.eq_nil_of_length_eq_zero h
  subst h94 h93 h92 h91 h90 h89 h88 h87 h86 h85 h84 h83 h82 h81 h80 h79 h78 h77 h76 h75 h74 h73 h72 h71 h70 h69 h68 h67 h66 h65 h64 h63 h62 h61 h60 h59 h58 h57 h56 h55 h54 h53 h52 h51 h50 h49 h48 h47 h46 h45 h44 h43 h42 h41 h40 h39 h38 h37 h36 h35 h34 h33 h32 h31 h30 h29 h28 h27 h26 h25 h24 h23 h22 h21 h20 h19 h18 h17 h16 h15 h14 h13 h12 h11 h10 h9 h8 h7 h6 h5 h4 h3 h2 h1 h0
  exact ⟨x0, x1, x2, x3, x4, x5, x6, x7, x8, x9, x10, x11, x12, x13, x14, x15, x16, x17, x18, x19, x20, x21, x22, x23, x24, x25, x26, x27, x28, x29, x30, x31, x32, x33, x34, x35, x36, x37, x38, x39, x40, x41, x42, x43, x44, x45, x46, x47, x48, x49, x50, x51, x52, x53, x54, x55, x56, x57, x58, x59, x60, x61, x62, x63, x64, x65, x66, x67, x68, x69, x70, x71, x72, x73, x74, x75, x76, x77, x78, x79, x80, x81, x82, x83, x84, x85, x86, x87, x88, x89, x90, x91, x92, x93, rfl⟩
theorem box_at {w0 w : World} {pr fz : Fz} {pl : Pl} {bx : Bx} (hS : Sim w0 pr fz pl bx w) {k : Nat} {v : AV} {x : Value} (hb : bxGet bx k = some (2, [.agg [v, .int .i64 0]])) : True := trivial
theorem agg_box {w0 w : World} {pr fz : Fz} {pl : Pl} {bx : Bx} (hS : Sim w0 pr fz pl bx w) {k b n : Nat} {p q : Int} (hb : bxGet bx k = some (2, [.agg [.int .i64 p, .int .i64 q]])) (hp : pl[k]? = some (some (b, n))) :
    BoxedS w b (.int .i64 p) (.int .i64 q) ∧ fz b = none := by
  rcases hS.box k _ _ hb with ⟨h, -⟩ | ⟨b', n', arr, e, B⟩
  · rw [h] at hp; cases hp
  · have e1 := B.plc
    rw [hp] at e1
    injection e1 with e1
    injection e1 with e1
    injection e1 with e1 e2
    subst e1
    have hf := B.fits
    have hsz := B.size
    simp [AV.cells] at hf
    obtain ⟨u0, k0⟩ : ∃ u, arr[0]? = some u := ⟨_, Array.getElem?_eq_getElem (by omega)⟩
    obtain ⟨u1, k1⟩ : ∃ u, arr[1]? = some u := ⟨_, Array.getElem?_eq_getElem (by omega)⟩
    have r0 := (B.rep 0 (.int .i64 p) u0 rfl k0).inv_int
    have r1 := (B.rep 1 (.int .i64 q) u1 rfl k1).inv_int
    subst r0
    subst r1
    exact ⟨⟨arr, e, B.heap, k0, k1⟩, B.nfz⟩
theorem agg5_box {w0 w : World} {pr fz : Fz} {pl : Pl} {bx : Bx} (hS : Sim w0 pr fz pl bx w) {k b n : Nat} {a1 a2 lg nd xx : Int} (hb : bxGet bx k = some (5, [.agg [.int .i64 a1, .int .i64 a2, .int .i64 lg, .int .i64 nd, .int .i64 xx]])) (hp : pl[k]? = some (some (b, n))) :
    w.cell? ⟨b, 2, none⟩ = some (.int .i64 lg) ∧ b < w.heap.size ∧ fz b = none := by
  rcases hS.box k _ _ hb with ⟨h, -⟩ | ⟨b', n', arr, e, B⟩
  · rw [h] at hp; cases hp
  · have e1 := B.plc
    rw [hp] at e1
    injection e1 with e1
    injection e1 with e1
    injection e1 with e1 e2
    subst e1
    have hf := B.fits
    have hsz := B.size
    simp [AV.cells] at hf
    obtain ⟨u2, k2⟩ : ∃ u, arr[2]? = some u := ⟨_, Array.getElem?_eq_getElem (by omega)⟩
    have r2 := (B.rep 2 (.int .i64 lg) u2 rfl k2).inv_int
    subst r2
    refine ⟨?_, (Array.getElem?_eq_some_iff.1 B.heap).1, B.nfz⟩
    simp [World.cell?, B.heap, k2]
set_option maxHeartbeats 8000000 in
theorem shop_place (E : List Rg) (A X : List Int) (C : Int) (i : Nat) (h : TaskOk E A C) (hi : i < E.length) : Ctr Try.prog 43 [shopP E A X C, .int .i64 i] [] (eRg (placeT E A C i)) [] := by
  refine ⟨Try.call43, ?_⟩
  intro w0 pr fz pl w cs hS hlen hA
  obtain rfl : pl = [] := List.length_eq_zero_iff.1 hS.len
  have S0 : Sim w (fun _ => none) (fun b => w.heap[b]?) [] [] w := ⟨rfl, rfl, rfl, Nat.le_refl _, fun b o e => e, fun b o e => (by cases e), fun b o e => rfl, rfl, fun k sz es e => (by rw [bxGet_nil] at e; cases e), fun k k' x y b n n' e => (by rw [bxGet_nil] at e; cases e)⟩
  have hA0 : ∀ (j : Nat) v c, [shopP E A X C, .int .i64 i][j]? = some v → cs[j]? = some c → Rep (fun b => w.heap[b]?) [] v c := fun j v c h1 h2 => (hA j v c h1 h2).mono (fun b o e => hS.frz b o e) (List.prefix_refl _)
  suffices key : Calls Try.prog 43 cs w fun e w' => e = .returned (.agg #[.int .i64 (placeT E A C i).1, .int .i64 (placeT E A C i).2]) ∧ Below w.heap.size w w' by
    refine key.mono ?_
    rintro e w' ⟨rfl, hb⟩
    refine ⟨_, fz, [], rfl, .refl _, List.prefix_refl _, .frz (.agg _ _ rfl ?_ ?_), hS.below hb⟩
    · intro j c hc
      rcases j with _ | _ | j <;> simp at hc <;> subst hc <;> rfl
    · intro j v c hv hc
      rcases j with _ | _ | j <;> simp at hv hc <;> subst hv <;> subst hc <;> exact .int _ _
  have hT0 := start_rep (args := [shopP E A X C, .int .i64 i]) (cs := cs) hlen hA0 94
  refine (callsIn_wide (n := 20)).1 (callsIn_of_wp_marks Try.func43 rfl trivial ?_ rfl)
  rw [Try.ntmps43]
  show (List.foldr Code.seq _ [_, _, _, _, _, _, _]).wpIn _ _ _ _ _ _
  refine wpIn_awpL (mt := kd_CPlace) _ [c_place0, c_place1, c_place2, c_place3, c_place4, c_place5, c_place6] (by kernel_rfl) _ _ _ _ _ _ (place_ahead E A X C i h hi) hT0 S0 ?_ ?_
  rotate_left
  · -- the early returns
    intro e l' bx' a' w' fz' pl' hne hq le1 hT1 S1 hd1
    have hBel : Below w.heap.size w w' := ⟨S1.os, S1.tape, S1.output, S1.size, fun k hk => by rw [S1.frz k _ (le1 k _ (Array.getElem?_eq_getElem hk)), Array.getElem?_eq_getElem hk]⟩
    cases e with
    | normal => exact absurd rfl hne
    | exit id => exact hq.elim
    | ret =>
      rw [placeQ_eq] at hq
      have hq' : (match resV l' bx' [ARes.cell 4 true 2] with | some vs => wk (eRg (placeT E A C i)) (view 8 bx' (tupV vs)) | none => False) := hq
      split at hq'
      · rename_i vs hvs
        obtain ⟨c, r1, r2⟩ := results_sound (P := Try.prog) (fn := Try.f43) (az := [ARes.cell 4 true 2]) hT1 S1 (by kernel_rfl) hvs
        have hv := view_sound (fz2 := fun b => w'.heap[b]?) S1 (fun b o e => S1.frz b o e) (fun k x b m hk hp => rfl) 8 (tupV vs) c r2
        have hw := Rep.wk (pl := []) _ _ _ (.frz hv) hq'
        obtain ⟨ca, rfl, hl2, -, hr2⟩ := hw.inv_agg
        have hdf : a'.defers = [] := hd1
        show LeavesInM _ _ _ _ _ _ a'.defers .returning w'
        rw [hdf]
        refine ⟨_, r1, ?_, hBel⟩
        obtain ⟨u0, u1, rfl⟩ : ∃ u0 u1, ca = #[u0, u1] := by
          obtain ⟨l⟩ := ca
          match l, hl2 with
          | [a, b], _ => exact ⟨a, b, rfl⟩
        have q0 := (hr2 0 (.int .i64 (placeT E A C i).1) u0 rfl rfl).inv_int
        have q1 := (hr2 1 (.int .i64 (placeT E A C i).2) u1 rfl rfl).inv_int
        rw [q0, q1]
      · exact hq'.elim
  intro l' bx' a' w' fz' pl' hK le1 hT1 S1 hd1
  refine wpIn_seq ?_
  show (List.foldr Code.seq _ [_]).wpIn _ _ _ _ _ _
  refine wpIn_awpL (mt := kd_CPlace) _ [c_place7] (by kernel_rfl) _ _ _ _ _ _ hK hT1 S1 ?_ (fun _ _ _ _ _ _ _ _ hq => False.elim hq)
  rintro l2 bx2 ⟨t2, df2⟩ w2 fz2 pl2 ⟨hne, hnc, hlen2, g69, g4, g5, g6, rfl⟩ le2 hT2 S2 hd2
  obtain rfl : df2 = [] := hd2.trans hd1
  have hsz : t2.size = 94 := by rw [← hT2.1]; exact hlen2
  obtain ⟨x0, x1, x2, x3, x4, x5, x6, x7, x8, x9, x10, x11, x12, x13, x14, x15, x16, x17, x18, x19, x20, x21, x22, x23, x24, x25, x26, x27, x28, x29, x30, x31, x32, x33, x34, x35, x36, x37, x38, x39, x40, x41, x42, x43, x44, x45, x46, x47, x48, x49, x50, x51, x52, x53, x54, x55, x56, x57, x58, x59, x60, x61, x62, x63, x64, x65, x66, x67, x68, x69, x70, x71, x72, x73, x74, x75, x76, x77, x78, x79, x80, x81, x82, x83, x84, x85, x86, x87, x88, x89, x90, x91, x92, x93, rfl⟩ := arr94 t2 hsz
  have r69 : Rep fz2 pl2 _ x69 := g69 ▸ hT2.2 69
  have r4 : Rep fz2 pl2 _ x4 := g4 ▸ hT2.2 4
  have r5 : Rep fz2 pl2 _ x5 := g5 ▸ hT2.2 5
  have r6 : Rep fz2 pl2 _ x6 := g6 ▸ hT2.2 6
  obtain ⟨b4, n4, rfl, p4⟩ := r4.inv_ptr
  obtain ⟨b5, n5, rfl, p5⟩ := r5.inv_ptr
  obtain ⟨b6, n6, rfl, p6⟩ := r6.inv_ptr
  obtain ⟨c69, rfl, hl69, h69⟩ := r69.inv_fn
  obtain ⟨y0, rfl⟩ : ∃ y0, c69 = #[y0] := by
    obtain ⟨l⟩ := c69
    match l, hl69 with
    | [a], _ => exact ⟨a, rfl⟩
  have hy0 := (h69 0 _ y0 rfl rfl).inv_rptr
  obtain ⟨K4, f4⟩ := agg_box S2 (k := 0) rfl p4
  obtain ⟨c5, lt5, f5⟩ := agg5_box S2 (k := 1) rfl p5
  obtain ⟨K6, f6⟩ := agg_box S2 (k := 2) rfl p6
  have d46 : b4 ≠ b6 := fun e => by subst e; exact absurd (S2.inj 0 2 _ _ b4 n4 n6 rfl rfl p4 p6) (by decide)
  have d56 : b5 ≠ b6 := fun e => by subst e; exact absurd (S2.inj 1 2 _ _ b5 n5 n6 rfl rfl p5 p6) (by decide)
  have hBel : Below w.heap.size w w2 := ⟨S2.os, S2.tape, S2.output, S2.size, fun k hk => by rw [S2.frz k _ (le2 k _ (le1 k _ (Array.getElem?_eq_getElem hk))), Array.getElem?_eq_getElem hk]⟩
  have hi6 : w.heap.size ≤ b6 := by
    rcases Nat.lt_or_ge b6 w.heap.size with h1 | h1
    · rw [le2 b6 _ (le1 b6 _ (Array.getElem?_eq_getElem h1))] at f6; cases f6
    · exact h1
  have hi4 : w.heap.size ≤ b4 := by
    rcases Nat.lt_or_ge b4 w.heap.size with h1 | h1
    · rw [le2 b4 _ (le1 b4 _ (Array.getElem?_eq_getElem h1))] at f4; cases f4
    · exact h1
  have hp : placeT E A C i = if xat A i = 0 then edAt E i else if C < needT E A i then (1, 0) else (loF (xat A i) (tightT E A C i) (edAt E i).1, hiF (xat A i) (tightT E A C i) (edAt E i).2) := rfl
  rw [if_neg hne, if_neg hnc] at hp
  have hSi := tight_in h i
  have hSl := tight_len h i
  have hrg := task_rg h i
  have hAt := task_at h i
  obtain ⟨Bs, os, sv, hBsw, hBsn, hsv, hrep⟩ : ∃ Bs os sv, y0 = .pointer (some ⟨Bs, os, none⟩) ∧ (Bs < w2.heap.size ∧ Bs ≠ b6) ∧ w2.cell? ⟨Bs, os, none⟩ = some sv ∧ RepF fz2 (.list 2 ((tightT E A C i).map eRg)) sv := by
    cases hy0 with
    | rptr _ b off arr e fr hb hln h1 h2 =>
      obtain ⟨u, hu⟩ : ∃ u, arr[off + 0]? = some u := ⟨_, Array.getElem?_eq_getElem (by simp at hln; omega)⟩
      have hw := S2.frz b _ hb
      refine ⟨b, off, u, rfl, ⟨(Array.getElem?_eq_some_iff.1 hw).1, fun e => by subst e; rw [f6] at hb; cases hb⟩, ?_, h2 0 _ u rfl hu⟩
      rw [Nat.add_zero] at hu
      simp [World.cell?, hw, hu]
  subst hBsw
  obtain ⟨l1, l2⟩ := list_cells hrep S2.frz
  have hst := back_stops w2 Bs os b6 (tightT E A C i) hSi hSl sv hBsn hsv l1 (fun h0 => by
    obtain ⟨b, off, cap, ob, e1, e2, e3⟩ := l2 h0
    exact ⟨b, off, cap, e1, ⟨(Array.getElem?_eq_some_iff.1 (S2.frz b _ e2)).1, fun e => by subst e; rw [f6] at e2; cases e2⟩, e3⟩) 19 (by omega)
  generalize tightT E A C i = T at hst hSi hSl hp K6
  generalize xat A i = lg at hst hSi hSl hp c5 K6 hAt
  generalize edAt E i = ed at hp K6 hrg
  obtain ⟨e1, e2⟩ := ed
  simp only at hp K6 hrg
  rw [hp]
  clear hT2 hT1 hT0 hA0 S1 S0 hK g69 g4 g5 g6 r69 r4 r5 r6 h69 hy0 l1 l2 hrep
  refine wpIn_block ?_
  refine wpIn_rangeFunc_ownH (F := Fence.wide) rfl (by omega) (gf := 121) (lb := #[.pointer (some ⟨Bs, os, none⟩)]) rfl trivial (enters_of Try.func121 (by kernel_rfl) rfl)
    hst (fun h1 h2 => h1.trans h2) (fun W l o o' hl hW ho _ => (Off.refl _ _ W).grown (grownBy_putObj' W l o') (by have := (Array.getElem?_eq_some_iff.1 hW).1; omega) (fun k e => .inl (by cases e; exact hl))) (Below.refl _ _) (fun _ => rfl)
    (fun pre W => BoxedS W b6 (.int .i64 (loF lg T e1)) (.int .i64 (hval lg pre e2)) ∧ Off b6 w2.heap.size w2 W)
    (fun _ _ _ => False)
    (fun s W W' row hs hg hr => ⟨hs.1.own hg (fun r e => (hr r e).2), hs.2.grown hg hs.2.size (fun k e => .inl (hr k e).1)⟩)
    (fun _ _ _ _ _ hs _ _ => hs)
    ⟨K6, Off.refl _ _ _⟩
    (fun x a' W => ∃ Bx, w2.heap.size ≤ Bx ∧ BoxedS W Bx (.int .i64 x.1.2.1) (.int .i64 x.1.2.2) ∧ a' = { tmps := #[x0, x1, x2, x3, .pointer (some ⟨b4, 0 * 2 + 0, none⟩), .pointer (some ⟨b5, 0 * 5 + 0, none⟩), .pointer (some ⟨b6, 0 * 2 + 0, none⟩), x7, x8, x9, x10, .pointer (some ⟨Bx, 0, none⟩), x12, x13, x14, x15, x16, x17, x18, x19, x20, x21, x22, x23, x24, x25, x26, x27, x28, x29, x30, x31, x32, x33, x34, x35, x36, x37, x38, x39, x40, x41, x42, x43, x44, x45, x46, x47, x48, x49, x50, x51, x52, x53, x54, x55, x56, x57, x58, x59, x60, x61, x62, x63, x64, x65, x66, x67, x68, .func (.func 121) #[] #[.pointer (some ⟨Bs, os, none⟩)], .int .i64 x.1.1, .agg #[.int .i64 x.1.2.1, .int .i64 x.1.2.2], x72, x73, x74, x75, x76, x77, x78, x79, x80, x81, x82, x83, x84, x85, x86, x87, x88, x89, x90, x91, x92, x93], defers := [] })
    (fun x a' _ W W' row hs hg hr => by obtain ⟨Bx, h1, h2, h3⟩ := hs; exact ⟨Bx, h1, h2.own hg (fun r e => (hr r e).2), h3⟩)
    ?assign ?body ?done ?stop
  case assign =>
    rintro l pre x W K ⟨k1, k2⟩ hK
    have hWs := k2.size
    dsimp only [encSt]
    gi_wp2
    exact hK _ _ ((KeepsOthers.alloc _ _).from _) ((Off.refl _ _ W).grown (World.grownBy_alloc W _ none) hWs (fun k e => by cases e)) ⟨k1.alloc _, k2.grown (World.grownBy_alloc W _ none) hWs (fun k e => by cases e)⟩ ⟨W.heap.size, hWs, BoxedS.new W _ _ _, rfl⟩
  case body =>
    rintro l pre x a' W hl ⟨r, hr⟩ ⟨k1, k2⟩ ⟨Bx, hBx, hX, rfl⟩ hlt
    obtain ⟨c60, c61, f60, f61⟩ := k1.cell
    obtain ⟨cx0, cx1, fx0, fx1⟩ := hX.cell
    have c52 := (k2.cell (p := ⟨b5, 2, none⟩) lt5 d56).trans c5
    have hin := hval_in (long := lg) (by omega) (pre := pre) (h := e2) (by omega)
    have hsn := hval_snoc lg pre x e2
    have hxb := x.2
    unfold inStr at hxb
    obtain ⟨⟨xi, xa, xb⟩, xp⟩ := x
    simp only at hsn hxb cx0 cx1 hX ⊢
    generalize hval lg pre e2 = hv at hsn hin c61 k1
    have w1 : IntKind.i64.wrap (hv + lg) = hv + lg := by rw [wrap_i64] <;> omega
    have w3 : IntKind.i64.wrap (xa - lg) = xa - lg := by rw [wrap_i64] <;> omega
    by_cases q1 : xa < hv + lg
    · by_cases q2 : hv < xb
      · gi_wp2
        have hg := grown_cell W ⟨b6, 1, none⟩ (.int .i64 (xa - lg))
        have hrow : ∀ k, some b6 = some k → w2.heap.size ≤ k ∨ k = b6 := fun k e => .inr (by injection e with e; exact e.symm)
        refine ⟨(KeepsOthers.setCell _ _ _).from _, (Off.refl _ _ W).grown hg k2.size hrow, ?_, k2.grown hg k2.size hrow⟩
        show BoxedS _ _ _ (.int .i64 (hval lg _ e2))
        rw [hsn, if_pos ⟨q1, q2⟩]
        exact k1.set1 _
      · gi_wp2
        refine ⟨KeepsFrom.refl _ _, Off.refl _ _ W, ?_, k2⟩
        show BoxedS _ _ _ (.int .i64 (hval lg _ e2))
        rw [hsn, if_neg (fun h => q2 h.2)]
        exact k1
    · gi_wp2
      refine ⟨KeepsFrom.refl _ _, Off.refl _ _ W, ?_, k2⟩
      show BoxedS _ _ _ (.int .i64 (hval lg _ e2))
      rw [hsn, if_neg (fun h => q1 h.1)]
      exact k1
  case done =>
    rintro D ys W hD hys ⟨k1, k2⟩ hK
    rw [hval_all hys] at k1
    obtain ⟨c60, c61, f60, f61⟩ := k1.cell
    have K4' : BoxedS W b4 (.int .i64 0) (.int .i64 0) := by
      have hl4 := K4.lt
      obtain ⟨arr4, t4, h4, h4'⟩ := K4
      exact ⟨arr4, t4, (k2.block b4 hl4 d46).trans h4, h4'⟩
    obtain ⟨c40, c41, f40, f41⟩ := K4'.cell
    gi_wp2
    have hK' := ((KeepsOthers.setCell W ⟨b4, 0, none⟩ (.int .i64 (loF lg T e1))).trans (KeepsOthers.setCell _ ⟨b4, 1, none⟩ (.int .i64 (hiF lg T e2)))).same D _ hK rfl
    have K4f := ((K4'.set0 (.int .i64 (loF lg T e1))).set1 (.int .i64 (hiF lg T e2))).own (grownBy_putObj' _ D (.deferred none)) (fun r e => by cases e; exact ⟨_, hK', rfl⟩)
    obtain ⟨z0, z1, -, -⟩ := K4f.cell
    have hB2 : Below w.heap.size w2 W := ⟨k2.os, k2.tape, k2.output, k2.size, fun k hk => k2.block k (Nat.lt_of_lt_of_le hk hBel.size) (fun e => by omega)⟩
    have hB3 := (((hBel.trans hB2).setCell (p := ⟨b4, 0, none⟩) hi4 (.int .i64 (loF lg T e1))).setCell (p := ⟨b4, 1, none⟩) hi4 (.int .i64 (hiF lg T e2))).grown (grownBy_putObj' _ D (.deferred none)) (by have h1 := hBel.size; have h2 := k2.size; simp; omega) (fun k e => by cases e; exact Nat.le_trans hBel.size hD)
    refine ⟨by simp, .inl ⟨_, _, rfl, run_takeDeferred hK', ?_⟩⟩
    exact ⟨.agg #[.int .i64 (loF lg T e1), .int .i64 (hiF lg T e2)], by simp [results, Try.results43, go_sem, z0, z1], rfl, hB3⟩
  case stop =>
    rintro D c pre W _ _ h _
    exact h.elim
end Go.Proofs.Ytnhedjpghpdbdaa
