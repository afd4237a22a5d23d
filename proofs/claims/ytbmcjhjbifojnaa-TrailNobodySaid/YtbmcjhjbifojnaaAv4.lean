/- Abstract code: a way to show what functions compute (AvRange). -/
import Derived.Maps.RangeRun
import Derived.Test.YtbmcjhjbifojnaaAv3
/- A range over a map whose keys are numbers: each key comes once, in whatever order. -/
namespace Go.Proofs.Ytbmcjhjbifojnaa.Av
set_option linter.unusedVariables false
open Go.ChangeMaps (setBlock)

section
variable {w0 : World} {pr fz : Fz} {pl : Pl} {bx : Bx} {w : World} {P : Program}

/-- a row's first operations by abstract code -/
theorem opers_pre {mt : FuncId → Nat} {ops : Array Oper} {Q : Exit → Act → World → Prop} : ∀ (os rest : List Oper) (k : Nat) (az : List AOper), ops.toList.drop k = os ++ rest → cOpers P mt ops os = some az →
    ∀ (K : List AV → Bx → Prop) (l : List AV) (bx : Bx) (fz : Fz) (pl : Pl) (a : Act) (w : World), awpOpers P az K l bx → RepT fz pl l a → Sim w0 pr fz pl bx w →
      (∀ l' bx' a' w' fz' pl', K l' bx' → FzLe fz fz' → pl <+: pl' → RepT fz' pl' l' a' → Sim w0 pr fz' pl' bx' w' → a'.defers = a.defers → wpOps P ops Q (List.range' (k + os.length) rest.length) a' w') → wpOps P ops Q (List.range' k (os ++ rest).length) a w
  | [], rest, k, az, _, hz, K, l, bx, fz, pl, a, w, hK, hT, hS, hQ => by
    simp [cOpers] at hz; subst hz
    simp only [awpOpers] at hK
    have := hQ l bx a w fz pl hK (.refl _) (List.prefix_refl _) hT hS rfl
    simpa using this
  | o :: os, rest, k, az, hd, hz, K, l, bx, fz, pl, a, w, hK, hT, hS, hQ => by
    simp only [cOpers] at hz
    split at hz
    · rename_i p r hp hr
      injection hz with hz; subst hz
      have ho : ops[k]? = some o := by
        have : (ops.toList.drop k)[0]? = some o := by rw [hd]; rfl
        simpa using this
      have hd' : ops.toList.drop (k + 1) = os ++ rest := by rw [← List.drop_drop, hd]; rfl
      have hQ' : ∀ {fz2 : Fz} {pl2 : Pl} {a2 : Act}, FzLe fz fz2 → pl <+: pl2 → a2.defers = a.defers → (∀ l' bx' a' w' fz' pl', K l' bx' → FzLe fz2 fz' → pl2 <+: pl' → RepT fz' pl' l' a' → Sim w0 pr fz' pl' bx' w' → a'.defers = a2.defers → wpOps P ops Q (List.range' (k + 1 + os.length) rest.length) a' w') := by
        intro fz2 pl2 a2 e1 e2 e3 l' bx' a' w' fz' pl' g1 g2 g3 g4 g5 g6
        have := hQ l' bx' a' w' fz' pl' g1 (e1.trans g2) (e2.trans g3) g4 g5 (g6.trans e3)
        rw [List.length_cons] at this
        rwa [show k + 1 + os.length = k + (os.length + 1) by omega]
      unfold cOper at hp
      generalize hq : (cOp P mt o).getD .bad = q at hp
      split at hp
      · rename_i g hg
        injection hp with hp; subst hp
        simp only [List.cons_append, List.length_cons, List.range'_succ, wpOps, ho]
        have go : awpDo P (q.map (·.ev l)) (awpRest (awpOpers P r K) l o.dst) bx → o.wp P a w (wpOps P ops Q (List.range' (k + 1) (os ++ rest).length)) Q := by
          intro hdo
          refine awpDo_soundB hq hT hS hdo ?_
          intro v bx' cv w' fz' pl' hk h1 h2 h3 h4
          exact opers_pre os rest (k + 1) r hd' hr K _ bx' fz' pl' _ w' hk ((hT.mono h1 h2).put o.dst h3) h4 (hQ' h1 h2 (by rw [put_defers]))
        have skip : awpOpers P r K (putT l o.dst (.tuple [])) bx → wpOps P ops Q (List.range' (k + 1) (os ++ rest).length) (a.put o.dst undef) w := by
          intro hk
          exact opers_pre os rest (k + 1) r hd' hr K _ bx fz pl _ w hk (hT.put o.dst rep_undef) hS (hQ' (.refl _) (List.prefix_refl _) (by rw [put_defers]))
        simp only [awpOpers, awpOper] at hK
        split at hK
        · rw [if_pos (guard_none hg a)]
          exact .inl (go hK)
        · rename_i t want
          obtain ⟨y1, y2⟩ := guard_yields hg hT
          split at hK
          · rename_i b hb
            rw [y1 b hb]
            by_cases hbw : b = want
            · subst hbw
              rw [if_pos (by simp)]
              exact .inl (go (by simpa using hK))
            · rw [if_neg (by simpa using hbw)]
              exact skip (by rwa [if_neg hbw] at hK)
          · rename_i hb
            rw [y2 hb, if_neg (by simp)]
            exact skip hK
          · exact hK.elim
      · cases hp
    · cases hz

/-- a protected block turns -/
theorem Sim.turn (h : Sim w0 pr fz pl bx w) {r : Nat} {o o' : Obj} (hr : pr r = some o) {w' : World} (h1 : w'.os = w.os) (h2 : w'.tape = w.tape) (h3 : w'.output = w.output) (h4 : w'.heap = w.heap.setIfInBounds r o') :
    Sim w0 (fun c => if c = r then some o' else pr c) fz pl bx w' := by
  have hb := h.prt _ _ hr
  have hlt : r < w.heap.size := (Array.getElem?_eq_some_iff.1 hb).1
  have oth : ∀ {c : Nat} {x}, c ≠ r → w.heap[c]? = some x → w'.heap[c]? = some x := fun hne ho => by
    rw [h4, Array.getElem?_setIfInBounds_ne (fun e => hne e.symm)]; exact ho
  refine ⟨h1.trans h.os, h2.trans h.tape, h3.trans h.output, by rw [h4]; simp; exact h.size, ?_, ?_, ?_, h.len, ?_, h.inj⟩
  · intro c x hc
    refine oth ?_ (h.frz _ _ hc)
    rintro rfl
    have := h.dis _ _ hc
    rw [hr] at this; cases this
  · intro c x hc
    split at hc
    · rename_i e; subst e; injection hc with hc; subst hc; rw [h4]; simp [hlt]
    · rename_i e; exact oth e (h.prt _ _ hc)
  · intro c x hc
    have h0 := h.dis _ _ hc
    split
    · rename_i e; subst e; rw [hr] at h0; cases h0
    · exact h0
  · intro k sz es hk
    rcases h.box k sz es hk with (h1 | ⟨b, y, M⟩) | ⟨b, n, arr, e, B⟩
    · exact .inl (.inl h1)
    · have hne : b ≠ r := by rintro rfl; have := M.npr; rw [hr] at this; cases this
      exact .inl (.inr ⟨b, y, { M with npr := by rw [if_neg hne]; exact M.npr, heap := oth hne M.heap }⟩)
    · have hne : b ≠ r := by rintro rfl; have := B.npr; rw [hr] at this; cases this
      exact .inr ⟨b, n, arr, e, { B with npr := by rw [if_neg hne]; exact B.npr, heap := oth hne B.heap }⟩

/-- a new block, protected; with a dead place for it -/
theorem Sim.alloc_prt (h : Sim w0 pr fz pl bx w) (o : Obj) : Sim w0 (fun c => if c = w.heap.size then some o else pr c) fz (pl ++ [some (w.heap.size, 0)]) (bx ++ [none]) (w.alloc o) := by
  have lt : ∀ b x, w.heap[b]? = some x → b < w.heap.size := fun b x e => (Array.getElem?_eq_some_iff.1 e).1
  have old : ∀ b x, w.heap[b]? = some x → (w.alloc o).heap[b]? = some x := fun b x a => by
    have := lt b x a
    show (w.heap.push o)[b]? = some x
    rw [Array.getElem?_push, if_neg (by omega)]; exact a
  have pre : pl <+: pl ++ [some (w.heap.size, 0)] := List.prefix_append _ _
  have getL : ∀ {k : Nat}, k < bx.length → (pl ++ [some (w.heap.size, 0)])[k]? = pl[k]? := fun hk => List.getElem?_append_left (by rw [h.len]; exact hk)
  have live : ∀ {j x}, bxGet (bx ++ [none]) j = some x → j < bx.length ∧ bxGet bx j = some x := by
    intro j x hj
    have := bxGet_lt hj
    simp only [List.length_append, List.length_singleton] at this
    by_cases hjl : j < bx.length
    · rw [bxGet_append_left hjl] at hj; exact ⟨hjl, hj⟩
    · have : j = bx.length := by omega
      subst this
      rw [bxGet_append_one] at hj; cases hj
  refine ⟨h.os, h.tape, h.output, Nat.le_trans h.size (by simp), fun b x a => old _ _ (h.frz b x a), ?_, ?_, by simp [h.len], ?_, ?_⟩
  · intro c x hc
    split at hc
    · rename_i e; subst e; injection hc with hc; subst hc; show (w.heap.push o)[w.heap.size]? = _; simp
    · exact old _ _ (h.prt _ _ hc)
  · intro c x hc
    have := lt _ _ (h.frz _ _ hc)
    rw [if_neg (by omega)]; exact h.dis _ _ hc
  · intro k sz es hk
    obtain ⟨hkl, hk'⟩ := live hk
    rcases h.box k sz es hk' with (h1 | ⟨b, y, M⟩) | ⟨b, n, arr, e, B⟩
    · exact .inl (.inl ⟨by rw [getL hkl]; exact h1.1, h1.2⟩)
    · have := lt _ _ M.heap
      exact .inl (.inr ⟨b, y, { M with plc := by rw [getL hkl]; exact M.plc, npr := by rw [if_neg (by omega)]; exact M.npr, heap := old _ _ M.heap }⟩)
    · have := lt _ _ B.heap
      exact .inr ⟨b, n, arr, e, { B with plc := by rw [getL hkl]; exact B.plc, npr := by rw [if_neg (by omega)]; exact B.npr, heap := old _ _ B.heap, rep := fun i v c a d => (B.rep i v c a d).mono (.refl _) pre }⟩
  · intro k k' x y b n n' hk hk' hp hp'
    obtain ⟨h1, q1⟩ := live hk
    obtain ⟨h2, q2⟩ := live hk'
    rw [getL h1] at hp; rw [getL h2] at hp'
    exact h.inj k k' x y b n n' q1 q2 hp hp'

/-- a map's box is laid aside, its block protected -/
theorem Sim.aside (h : Sim w0 pr fz pl bx w) {k sz : Nat} {es : List AV} {b : Nat} {o : Obj} (hk : bxGet bx k = some (sz, es)) (M : BoxM pr fz pl w k sz es b o) :
    Sim w0 (fun c => if c = b then some o else pr c) fz pl (bxSet bx k none) w := by
  have live : ∀ {j x}, bxGet (bxSet bx k none) j = some x → j ≠ k ∧ bxGet bx j = some x := by
    intro j x hj
    by_cases hkj : k = j
    · subst hkj; rw [bxGet_set_self (bxGet_lt hk)] at hj; cases hj
    · rw [bxGet_set_ne hkj] at hj; exact ⟨fun e => hkj e.symm, hj⟩
  refine ⟨h.os, h.tape, h.output, h.size, h.frz, ?_, ?_, by rw [bxSet_length]; exact h.len, ?_, ?_⟩
  · intro c x hc
    split at hc
    · rename_i e; subst e; injection hc with hc; subst hc; exact M.heap
    · exact h.prt _ _ hc
  · intro c x hc
    rw [if_neg]
    · exact h.dis _ _ hc
    · rintro rfl; rw [M.nfz] at hc; cases hc
  · intro j s xs hj
    obtain ⟨hne, hj'⟩ := live hj
    rcases h.box j s xs hj' with (h1 | ⟨b', y, M'⟩) | ⟨b', n, arr, e, B⟩
    · exact .inl (.inl h1)
    · have hbb : b' ≠ b := by rintro rfl; exact hne (h.inj j k _ _ b' 0 0 hj' hk M'.plc M.plc)
      exact .inl (.inr ⟨b', y, { M' with npr := by rw [if_neg hbb]; exact M'.npr }⟩)
    · have hbb : b' ≠ b := by rintro rfl; exact hne (h.inj j k _ _ b' n 0 hj' hk B.plc M.plc)
      exact .inr ⟨b', n, arr, e, { B with npr := by rw [if_neg hbb]; exact B.npr }⟩
  · intro j j' x y b1 n n' hj hj' hp hp'
    exact h.inj j j' x y b1 n n' (live hj).2 (live hj').2 hp hp'

/-- and comes back -/
theorem Sim.unlay {pr1 : Fz} (h : Sim w0 pr1 fz pl bx w) {k sz b : Nat} {o : Obj} (hk : bxGet bx k = none) (hkl : k < bx.length) (hp : pl[k]? = some (some (b, 0))) (ho : pr1 b = some o) (hm : MapOf sz o)
    (hpr : ∀ c x, pr c = some x → pr1 c = some x) (hb : pr b = none) : Sim w0 pr fz pl (bxSet bx k (some (sz, [.agg []]))) w := by
  have up : ∀ {c}, pr1 c = none → pr c = none := by
    intro c hc
    cases hx : pr c with
    | none => rfl
    | some x => rw [hpr _ _ hx] at hc; cases hc
  have live : ∀ {j x}, bxGet (bxSet bx k (some (sz, [.agg []]))) j = some x → (j = k ∧ x = (sz, [.agg []])) ∨ (j ≠ k ∧ bxGet bx j = some x) := by
    intro j x hj
    by_cases hkj : k = j
    · subst hkj; rw [bxGet_set_self hkl] at hj; injection hj with hj; exact .inl ⟨rfl, hj.symm⟩
    · rw [bxGet_set_ne hkj] at hj; exact .inr ⟨fun e => hkj e.symm, hj⟩
  have nb : ∀ {j x n}, bxGet bx j = some x → pl[j]? = some (some (b, n)) → False := by
    intro j x n hj hpj
    have := (boxBlock h hj hpj).2.1
    rw [ho] at this; cases this
  refine ⟨h.os, h.tape, h.output, h.size, h.frz, fun c x hc => h.prt _ _ (hpr _ _ hc), fun c x hc => up (h.dis _ _ hc), by rw [bxSet_length]; exact h.len, ?_, ?_⟩
  · intro j s xs hj
    rcases live hj with ⟨rfl, hx⟩ | ⟨_, hj'⟩
    · injection hx with e1 e2; subst e1; subst e2
      refine .inl (.inr ⟨b, o, ⟨hp, ?_, hb, h.prt _ _ ho, hm, .inr rfl⟩⟩)
      cases hf : fz b with
      | none => rfl
      | some x => have := h.dis _ _ hf; rw [ho] at this; cases this
    · rcases h.box j s xs hj' with (h1 | ⟨b', y, M'⟩) | ⟨b', n, arr, e, B⟩
      · exact .inl (.inl h1)
      · exact .inl (.inr ⟨b', y, { M' with npr := up M'.npr }⟩)
      · exact .inr ⟨b', n, arr, e, { B with npr := up B.npr }⟩
  · intro j j' x y b1 n n' hj hj' hp1 hp2
    rcases live hj with ⟨rfl, _⟩ | ⟨_, q1⟩
    · rcases live hj' with ⟨rfl, _⟩ | ⟨_, q2⟩
      · rfl
      · rw [hp] at hp1; injection hp1 with hp1; injection hp1 with hp1; injection hp1 with e1 _
        subst e1; exact (nb q2 hp2).elim
    · rcases live hj' with ⟨rfl, _⟩ | ⟨_, q2⟩
      · rw [hp] at hp2; injection hp2 with hp2; injection hp2 with hp2; injection hp2 with e1 _
        subst e1; exact (nb q1 hp1).elim
      · exact h.inj j j' x y b1 n n' q1 q2 hp1 hp2
end

/-! one step -/
/-- what has come out -/
def Seen (es : Array MapEntry) (seen : Array Nat) (done : List Nat) : Prop := done.Nodup ∧ ∀ e ∈ es.toList, (e.born ∈ seen ↔ ∃ x ∈ done, e.key = kV x)
theorem kV_inj {x y : Nat} (h : kV x = kV y) : x = y := by
  have h1 : (Int.ofNat x) = Int.ofNat y := by injection h
  exact Int.ofNat.inj h1
theorem get_of_map {α β : Type} {f : α → β} {g : Nat → β} : ∀ {l : List α} {xs : List Nat}, l.map f = xs.map g → ∀ e ∈ l, ∃ x ∈ xs, f e = g x
  | [], _, _, e, he => by cases he
  | a :: l, [], h, e, he => by simp at h
  | a :: l, x :: xs, h, e, he => by
    simp only [List.map_cons, List.cons.injEq] at h
    rcases List.mem_cons.1 he with rfl | he
    · exact ⟨x, by simp, h.1⟩
    · obtain ⟨y, hy, h2⟩ := get_of_map h.2 e he
      exact ⟨y, List.mem_cons_of_mem _ hy, h2⟩
theorem get_of_map' {α β : Type} {f : α → β} {g : Nat → β} : ∀ {l : List α} {xs : List Nat}, l.map f = xs.map g → ∀ x ∈ xs, ∃ e ∈ l, f e = g x
  | [], [], _, x, hx => by cases hx
  | [], _ :: _, h, x, hx => by simp at h
  | a :: l, [], h, x, hx => by cases hx
  | a :: l, y :: xs, h, x, hx => by
    simp only [List.map_cons, List.cons.injEq] at h
    rcases List.mem_cons.1 hx with rfl | hx
    · exact ⟨a, by simp, h.1⟩
    · obtain ⟨e, he, h2⟩ := get_of_map' h.2 x hx
      exact ⟨e, List.mem_cons_of_mem _ he, h2⟩
theorem eq_of_nodup_map {α β : Type} {f : α → β} : ∀ {l : List α}, (l.map f).Nodup → ∀ {a b : α}, a ∈ l → b ∈ l → f a = f b → a = b
  | x :: l, h, a, b, ha, hb, he => by
    simp only [List.map_cons, List.nodup_cons] at h
    rcases List.mem_cons.1 ha with e1 | ha1
    · rcases List.mem_cons.1 hb with e2 | hb1
      · rw [e1, e2]
      · rw [e1] at he; exact absurd (he ▸ List.mem_map_of_mem hb1) h.1
    · rcases List.mem_cons.1 hb with e2 | hb1
      · rw [e2] at he; exact absurd (he ▸ List.mem_map_of_mem ha1) h.1
      · exact eq_of_nodup_map h.2 ha1 hb1 he
theorem nodup_of_asc {l : List Nat} (h : l.Pairwise (· < ·)) : l.Nodup := h.imp fun h => by omega
theorem MapKeys.keysNodup {es : Array MapEntry} {clock : Nat} {ks : List Nat} (h : MapKeys es clock ks) : (es.toList.map (·.key)).Nodup := by
  obtain ⟨⟨xs, h1, h2⟩, h3, _⟩ := h
  rw [h1]
  have : xs.Nodup := h2.nodup_iff.2 (nodup_of_asc h3)
  exact List.pairwise_map.2 (this.imp fun hne he => hne (kV_inj he))
theorem MapKeys.key {es : Array MapEntry} {clock : Nat} {ks : List Nat} (h : MapKeys es clock ks) {e : MapEntry} (he : e ∈ es.toList) : ∃ x ∈ ks, e.key = kV x := by
  obtain ⟨⟨xs, h1, h2⟩, _⟩ := h
  obtain ⟨x, hx, hk⟩ := get_of_map h1 e he
  exact ⟨x, h2.mem_iff.1 hx, hk⟩
theorem Seen.all {es : Array MapEntry} {clock : Nat} {ks : List Nat} (h : MapKeys es clock ks) {seen : Array Nat} {done : List Nat} (hs : Seen es seen done) (hd : ∀ x ∈ done, x ∈ ks) (h0 : (leftOf es seen).size = 0) : done.Perm ks := by
  have hks : ks.Nodup := nodup_of_asc h.2.1
  refine (List.perm_ext_iff_of_nodup hs.1 hks).2 fun x => ⟨hd x, fun hx => ?_⟩
  obtain ⟨⟨xs, h1, h2⟩, _⟩ := h
  obtain ⟨e, he, hk⟩ := get_of_map' h1 x (h2.mem_iff.2 hx)
  have hb : e.born ∈ seen := by
    have hl : leftOf es seen = #[] := Array.eq_empty_of_size_eq_zero h0
    unfold leftOf at hl
    rw [Array.filter_eq_empty_iff] at hl
    have := hl e (by simpa using he)
    simpa using this
  obtain ⟨y, hy, hk2⟩ := (hs.2 e he).1 hb
  have hk' : e.key = kV x := hk
  rw [hk'] at hk2
  rw [kV_inj hk2]; exact hy
theorem Seen.more {es : Array MapEntry} {clock : Nat} {ks : List Nat} (h : MapKeys es clock ks) {seen : Array Nat} {done : List Nat} (hs : Seen es seen done) {e : MapEntry} (he : e ∈ (leftOf es seen).toList) :
    e ∈ es.toList ∧ ∃ x ∈ ks, e.key = kV x ∧ x ∉ done ∧ Seen es (seen.push e.born) (done ++ [x]) := by
  unfold leftOf at he
  have he2 : e ∈ es.toList ∧ e.born ∉ seen := by
    have : e ∈ es ∧ (!seen.contains e.born) = true := by simpa using he
    exact ⟨by simpa using this.1, by simpa using this.2⟩
  obtain ⟨hes, hns⟩ := he2
  obtain ⟨x, hx, hk⟩ := h.key hes
  have hxd : x ∉ done := fun hd => hns ((hs.2 e hes).2 ⟨x, hd, hk⟩)
  refine ⟨hes, x, hx, hk, hxd, ?_, ?_⟩
  · exact List.nodup_append.2 ⟨hs.1, by simp, fun a ha b hb hab => hxd (by simp at hb; rw [← hb, ← hab]; exact ha)⟩
  · intro e' he'
    rw [Array.mem_push]
    constructor
    · rintro (hb | hb)
      · obtain ⟨y, hy, hk'⟩ := (hs.2 e' he').1 hb
        exact ⟨y, by simp [hy], hk'⟩
      · have : e' = e := eq_of_nodup_map h.2.2.1 he' hes hb
        subst this
        exact ⟨x, by simp, hk⟩
    · rintro ⟨y, hy, hk'⟩
      rcases List.mem_append.1 hy with hy | hy
      · exact .inl ((hs.2 e' he').2 ⟨y, hy, hk'⟩)
      · simp at hy; subst hy
        have : e' = e := eq_of_nodup_map h.keysNodup he' hes (by rw [hk', hk])
        subst this
        exact .inr rfl

/-! the loop -/
theorem put_get {a : Act} {n : Nat} {v : Value} (h : n < a.tmps.size) : (a.put (some n) v).tmps.getD n undef = v := by
  simp only [Act.put]
  rw [Array.getD_eq_getD_getElem?, Array.getElem?_setIfInBounds_self_of_lt h]; rfl
theorem put_ne {a : Act} {n k : Nat} {v : Value} (h : n ≠ k) : (a.put (some n) v).tmps.getD k undef = a.tmps.getD k undef := by
  simp only [Act.put]
  rw [Array.getD_eq_getD_getElem?, Array.getElem?_setIfInBounds_ne h, ← Array.getD_eq_getD_getElem?]
theorem put_size {a : Act} {n : Nat} {v : Value} : (a.put (some n) v).tmps.size = a.tmps.size := by simp [Act.put]
theorem setT_any : ∀ (l : List AV) (n : Nat), getT l n = .any → setT l n .any = l
  | [], n, _ => by cases n <;> rfl
  | x :: l, 0, h => by simp only [getT] at h; subst h; rfl
  | x :: l, n + 1, h => by simp only [getT] at h; simp only [setT]; rw [setT_any l n h]
theorem op_val {P : Program} {o : Oper} {a : Act} {w w' : World} {cv : Value} {next : Act → World → Prop} {Q : Exit → Act → World → Prop} (hrun : (execOp a.eval o).run P w = .ok (.value cv) w') (h : next (a.put o.dst cv) w') : o.wp P a w next Q := by
  unfold Oper.wp
  rw [hrun, Oper.upon_value]; exact h
theorem wanted_none {ops : Array Oper} {o : Oper} (h : o.guard = none) (a : Act) : Region.wanted o (yielded ops a.tmps) = true := guard_none (by unfold cGuard; rw [h]) a

theorem wpOps_cons {P : Program} {ops : Array Oper} {Q : Exit → Act → World → Prop} {k : Nat} {l : List Nat} {o : Oper} {a : Act} {w : World} (hk : ops[k]? = some o) (hg : o.guard = none) (h : o.wp P a w (wpOps P ops Q l) Q) : wpOps P ops Q (k :: l) a w := by
  simp only [wpOps, hk]
  rw [if_pos (wanted_none hg _)]
  exact .inl h
theorem nodup_sub_len : ∀ {l m : List Nat}, l.Nodup → (∀ x ∈ l, x ∈ m) → l.length ≤ m.length
  | [], _, _, _ => by simp
  | x :: l, m, hn, hs => by
    obtain ⟨h1, h2⟩ := List.nodup_cons.1 hn
    have hx := hs x (by simp)
    have ih := nodup_sub_len (l := l) (m := m.erase x) h2 (fun y hy => (List.mem_erase_of_ne (by rintro rfl; exact h1 hy)).2 (hs y (List.mem_cons_of_mem _ hy)))
    rw [List.length_erase_of_mem hx] at ih
    have : 0 < m.length := List.length_pos_of_mem hx
    simp; omega
section
variable {w0 : World} {pr : Fz} {P : Program}
/-- the protected blocks: the map, and the iterator -/
def prI (pr : Fz) (b r : Nat) (om oi : Obj) : Fz := fun c => if c = r then some oi else if c = b then some om else pr c
theorem prI_turn {pr : Fz} {b r : Nat} {om oi oi' : Obj} : (fun c => if c = r then some oi' else prI pr b r om oi c) = prI pr b r om oi' := by
  funext c
  unfold prI
  by_cases h : c = r
  · rw [if_pos h, if_pos h]
  · rw [if_neg h, if_neg h, if_neg h]
theorem prI_r {pr : Fz} {b r : Nat} {om oi : Obj} : prI pr b r om oi r = some oi := by unfold prI; rw [if_pos rfl]
theorem prI_b {pr : Fz} {b r : Nat} {om oi : Obj} (h : b ≠ r) : prI pr b r om oi b = some om := by unfold prI; rw [if_neg h, if_pos rfl]
open Classical in
theorem wp_keys {mt : FuncId → Nat} {R7 : Code} {ac7 : ACode} (h7 : cCode P mt R7 = some ac7) {it n1 n2 n3 n4 n5 i5 i6 N : Nat} {T1 T2 T3 T4 T5 : TypeId} {p1 p2 p3 p4 p5 : String} {f1 f2 f3 f4 f5 : Array Edge}
    (e12 : n1 ≠ n2 ∧ n3 ≠ n4 ∧ it ≠ n1 ∧ it ≠ n2 ∧ n4 ≠ n5 ∧ it ≠ n3 ∧ it ≠ n4 ∧ it ≠ n5) (hN : n1 < N ∧ n2 < N ∧ n3 < N ∧ n4 < N ∧ n5 < N)
    {S : List Nat → List AV} {B : List Nat → Bx} {kr M : Nat} (hkr : kr < M) {ks : List Nat} {b r : Nat} (hbr : b ≠ r)
    (hS : ∀ done, (S done).length = N ∧ getT (S done) it = .ptr 1 kr 0 0 ∧ getT (S done) n1 = .any ∧ getT (S done) n2 = .any ∧ getT (S done) n3 = .any ∧ getT (S done) n4 = .any)
    (hstep : ∀ (done : List Nat) (x : Nat), done.length < ks.length → x ∈ ks → x ∉ done → awp P M ac7 (fun e l bx => match e with | .normal => Emb M (S (done ++ [x])) (B (done ++ [x])) l bx | _ => False) (setT (S done) n5 (.int .i64 (Int.ofNat x))) (B done))
    {es : Array MapEntry} {clock : Nat} (hmk : MapKeys es clock ks)
    {fz : Fz} {pl : Pl} {a : Act} {w : World} (hpl : pl[kr]? = some (some (r, 0))) (hM : M ≤ pl.length) (hT : RepT fz pl (S []) a) (hSm : Sim w0 (prI pr b r (.map es clock) (.mapIter (some b) clock #[] clock)) fz pl (B []) w)
    {R : Exit → Act → World → Prop}
    (hR : ∀ (done : List Nat) (oi : Obj) (a' : Act) (w' : World) (fz' : Fz) (pl' : Pl), done.Perm ks → FzLe fz fz' → pl'.take M = pl.take M → M ≤ pl'.length → RepT fz' pl' (S done) a' → Sim w0 (prI pr b r (.map es clock) oi) fz' pl' (B done) w' → a'.defers = a.defers → R .normal a' w') :
    (Code.block 0 (.loop (.seq (.region i5 #[⟨some n1, .next (.tmp it) false, T1, p1, f1, none⟩, ⟨some n2, .extract (.tmp n1) 0, T2, p2, f2, none⟩] false) (.seq (.cond (.tmp n2) .skip (.exit 0))
      (.block 1 (.seq (.region i6 #[⟨some n3, .entry (.tmp it), T3, p3, f3, none⟩, ⟨some n4, .extract (.tmp n3) 0, T4, p4, f4, none⟩, ⟨some n5, .assign (.tmp n4), T5, p5, f5, none⟩] false) R7)))))).wp P R a w := by
  obtain ⟨e12, e34, e1, e2, e45, e3, e4, e5⟩ := e12
  obtain ⟨hN1, hN2, hN3, hN4, hN5⟩ := hN
  refine wp_block ?_
  let I : List Nat → Act → World → Prop := fun done a' w' => (∀ x ∈ done, x ∈ ks) ∧ ∃ seen c fz' pl', Seen es seen done ∧ clock ≤ c ∧ FzLe fz fz' ∧ pl'.take M = pl.take M ∧ M ≤ pl'.length ∧ RepT fz' pl' (S done) a' ∧ Sim w0 (prI pr b r (.map es clock) (.mapIter (some b) clock seen c)) fz' pl' (B done) w' ∧ a'.defers = a.defers
  let J : Act → World → Prop := fun a' w' => ∃ done, I done a' w'
  have hex : ∀ a' w', J a' w' → ∃ n, ∃ done, I done a' w' ∧ ks.length - done.length = n := fun a' w' ⟨d, hd⟩ => ⟨_, d, hd, rfl⟩
  let μ' : Act → World → Nat := fun a' w' => if h : ∃ n, ∃ done, I done a' w' ∧ ks.length - done.length = n then least h else 0
  refine wp_loop J μ' ⟨[], by simp, #[], clock, fz, pl, ⟨by simp, by simp⟩, Nat.le_refl _, .refl _, rfl, hM, hT, hSm, rfl⟩ ?_
  intro a1 w1 hI
  have hx := hex a1 w1 hI
  obtain ⟨done, hAt, hb⟩ := least_spec hx
  have hμ : μ' a1 w1 = ks.length - done.length := by
    show (if h : ∃ n, ∃ done, I done a1 w1 ∧ ks.length - done.length = n then least h else 0) = _
    rw [dif_pos hx, hb]
  obtain ⟨hsub, seen, c, fz1, pl1, q1, q2, q3, q4, q5, q6, q7, q8⟩ := hAt
  obtain ⟨s0, sit, s1, s2, s3, s4⟩ := hS done
  have hit : a1.tmps.getD it undef = .pointer (some ⟨r, 0, none⟩) := by
    have hr := q6.2 it
    rw [sit] at hr
    obtain ⟨b', n', hv, hp'⟩ := hr.inv_ptr
    have h1 : (pl1.take M)[kr]? = (pl.take M)[kr]? := by rw [q4]
    rw [List.getElem?_take, List.getElem?_take, if_pos hkr, if_pos hkr, hp', hpl] at h1
    injection h1 with h1; injection h1 with h1; injection h1 with h1 _
    subst h1
    simpa using hv
  have hiter : w1.heap[r]? = some (.mapIter (some b) clock seen c) := q7.prt r _ prI_r
  have hmap : w1.heap[b]? = some (.map es clock) := q7.prt b _ (prI_b hbr)
  have hsz : a1.tmps.size = N := by rw [← q6.1]; exact s0
  refine wp_seq (wp_region ?_)
  show wpOps P _ _ [0, 1] a1 w1
  rcases run_next_at (P := P) w1 T1 r b clock c seen es clock hiter hmap hmk.2.2.2 q2 with ⟨h0, hrun⟩ | ⟨e, he, w2, hw2, hrun⟩
  · have r1 : (execOp a1.eval ⟨some n1, .next (.tmp it) false, T1, p1, f1, none⟩).run P w1 = .ok (.value (.tuple #[.bool false])) w1 := by
      have : a1.eval (.tmp it) = .pointer (some ⟨r, 0, none⟩) := hit
      simp only [execOp, this, Sem.run_bind, hrun]; rfl
    have r2 : (execOp (a1.put (some n1) (.tuple #[.bool false])).eval ⟨some n2, .extract (.tmp n1) 0, T2, p2, f2, none⟩).run P w1 = .ok (.value (.bool false)) w1 := by
      have : (a1.put (some n1) (.tuple #[.bool false])).eval (.tmp n1) = .tuple #[.bool false] := put_get (by omega)
      simp [execOp, this, Instr.extract]
    refine wpOps_cons (o := ⟨some n1, .next (.tmp it) false, T1, p1, f1, none⟩) rfl rfl (op_val r1 ?_)
    refine wpOps_cons (o := ⟨some n2, .extract (.tmp n1) 0, T2, p2, f2, none⟩) rfl rfl (op_val r2 ?_)
    refine wp_seq (wp_cond_false ?_ (wp_exit ?_))
    · exact put_get (by rw [put_size]; omega)
    · have hT2 := (q6.put (some n1) (v := .any) (c := .tuple #[.bool false]) (.frz (.any _))).put (some n2) (v := .any) (c := .bool false) (.frz (.any _))
      simp only [putT] at hT2
      rw [setT_any _ _ s1, setT_any _ _ s2] at hT2
      show Exit.inBlock 0 R (.exit 0) _ w1
      simp only [Exit.inBlock, if_true]
      exact hR done _ _ w1 fz1 pl1 (q1.all hmk hsub h0) q3 q4 q5 hT2 q7 (by rw [put_defers, put_defers]; exact q8)
  · obtain ⟨hes, x, hxk, hkey, hxd, hseen⟩ := q1.more hmk he
    have r1 : (execOp a1.eval ⟨some n1, .next (.tmp it) false, T1, p1, f1, none⟩).run P w1 = .ok (.value (.tuple #[.bool true, e.key, e.val])) (setBlock w2 r (.mapIter (some b) clock (seen.push e.born) clock)) := by
      have : a1.eval (.tmp it) = .pointer (some ⟨r, 0, none⟩) := hit
      simp only [execOp, this, Sem.run_bind, hrun]; rfl
    have S3 : Sim w0 (prI pr b r (.map es clock) (.mapIter (some b) clock (seen.push e.born) clock)) fz1 pl1 (B done) (setBlock w2 r (.mapIter (some b) clock (seen.push e.born) clock)) := by
      have := q7.turn (o' := .mapIter (some b) clock (seen.push e.born) clock) prI_r (w' := setBlock w2 r (.mapIter (some b) clock (seen.push e.born) clock)) (by rcases hw2 with rfl | rfl <;> rfl) (by rcases hw2 with rfl | rfl <;> rfl) (by rcases hw2 with rfl | rfl <;> rfl) (by rcases hw2 with rfl | rfl <;> rfl)
      rwa [prI_turn] at this
    generalize setBlock w2 r (.mapIter (some b) clock (seen.push e.born) clock) = w3 at r1 S3
    have hiter3 : w3.heap[r]? = some (.mapIter (some b) clock (seen.push e.born) clock) := S3.prt r _ prI_r
    have hmap3 : w3.heap[b]? = some (.map es clock) := S3.prt b _ (prI_b hbr)
    have r2 : (execOp (a1.put (some n1) (.tuple #[.bool true, e.key, e.val])).eval ⟨some n2, .extract (.tmp n1) 0, T2, p2, f2, none⟩).run P w3 = .ok (.value (.bool true)) w3 := by
      have : (a1.put (some n1) (.tuple #[.bool true, e.key, e.val])).eval (.tmp n1) = .tuple #[.bool true, e.key, e.val] := put_get (by omega)
      simp [execOp, this, Instr.extract]
    refine wpOps_cons (o := ⟨some n1, .next (.tmp it) false, T1, p1, f1, none⟩) rfl rfl (op_val r1 ?_)
    refine wpOps_cons (o := ⟨some n2, .extract (.tmp n1) 0, T2, p2, f2, none⟩) rfl rfl (op_val r2 ?_)
    refine wp_seq (wp_cond_true ?_ (wp_skip ?_))
    · exact put_get (by rw [put_size]; omega)
    refine wp_block (wp_seq (wp_region ?_))
    show wpOps P _ _ [0, 1, 2] _ w3
    generalize ha3 : (a1.put (some n1) (.tuple #[.bool true, e.key, e.val])).put (some n2) (.bool true) = a3
    have hit3 : a3.tmps.getD it undef = .pointer (some ⟨r, 0, none⟩) := by rw [← ha3, put_ne (Ne.symm e2), put_ne (Ne.symm e1)]; exact hit
    have hsz3 : a3.tmps.size = N := by rw [← ha3, put_size, put_size]; exact hsz
    have hT3 : RepT fz1 pl1 (S done) a3 := by
      have hT2 := (q6.put (some n1) (v := .any) (c := .tuple #[.bool true, e.key, e.val]) (.frz (.any _))).put (some n2) (v := .any) (c := .bool true) (.frz (.any _))
      simp only [putT] at hT2
      rw [setT_any _ _ s1, setT_any _ _ s2] at hT2
      rwa [ha3] at hT2
    have hd3 : a3.defers = a.defers := by rw [← ha3, put_defers, put_defers]; exact q8
    clear ha3
    have r3 : (execOp a3.eval ⟨some n3, .entry (.tmp it), T3, p3, f3, none⟩).run P w3 = .ok (.value (.tuple #[e.key, e.val])) w3 := by
      have h1 : a3.eval (.tmp it) = .pointer (some ⟨r, 0, none⟩) := hit3
      have h2 := run_entry_at (P := P) w3 r b clock seen es clock e hiter3 hmap3 hes hmk.2.2.1
      simp only [execOp, h1, Sem.run_bind, h2]; rfl
    have r4 : (execOp (a3.put (some n3) (.tuple #[e.key, e.val])).eval ⟨some n4, .extract (.tmp n3) 0, T4, p4, f4, none⟩).run P w3 = .ok (.value e.key) w3 := by
      have : (a3.put (some n3) (.tuple #[e.key, e.val])).eval (.tmp n3) = .tuple #[e.key, e.val] := put_get (by omega)
      simp [execOp, this, Instr.extract]
    have r5 : (execOp ((a3.put (some n3) (.tuple #[e.key, e.val])).put (some n4) e.key).eval ⟨some n5, .assign (.tmp n4), T5, p5, f5, none⟩).run P w3 = .ok (.value e.key) w3 := by
      have : ((a3.put (some n3) (.tuple #[e.key, e.val])).put (some n4) e.key).eval (.tmp n4) = e.key := put_get (by rw [put_size]; omega)
      simp [execOp, this]
    refine wpOps_cons (o := ⟨some n3, .entry (.tmp it), T3, p3, f3, none⟩) rfl rfl (op_val r3 ?_)
    refine wpOps_cons (o := ⟨some n4, .extract (.tmp n3) 0, T4, p4, f4, none⟩) rfl rfl (op_val r4 ?_)
    refine wpOps_cons (o := ⟨some n5, .assign (.tmp n4), T5, p5, f5, none⟩) rfl rfl (op_val r5 ?_)
    have hT6 : RepT fz1 pl1 (setT (S done) n5 (.int .i64 (Int.ofNat x))) (((a3.put (some n3) (.tuple #[e.key, e.val])).put (some n4) e.key).put (some n5) e.key) := by
      have hT2 := ((hT3.put (some n3) (v := .any) (c := .tuple #[e.key, e.val]) (.frz (.any _))).put (some n4) (v := .any) (c := e.key) (.frz (.any _))).put (some n5) (v := .int .i64 (Int.ofNat x)) (c := e.key) (by rw [hkey]; exact .frz (.int _ _))
      simp only [putT] at hT2
      rwa [setT_any _ _ s3, setT_any _ _ s4] at hT2
    have hlt : done.length < ks.length := by
      have := nodup_sub_len (l := done ++ [x]) (m := ks) hseen.1 (fun y hy => by
        rcases List.mem_append.1 hy with hy | hy
        · exact hsub y hy
        · simp at hy; subst hy; exact hxk)
      simp at this; omega
    refine awp_sound R7 ac7 h7 _ _ _ fz1 pl1 _ w3 (hstep done x hlt hxk hxd) hT6 S3 q5 _ ?_
    intro ex l' bx' a' w' fz' pl' hq g1 g2 g3 g4 g5 g6
    cases ex with
    | ret => exact hq.elim
    | exit i => exact hq.elim
    | normal =>
      obtain ⟨pl2, t1, t2, t3, t4⟩ := Emb.sound hq g5 g4 g3
      have hI2 : I (done ++ [x]) a' w' := ⟨fun y hy => by
        rcases List.mem_append.1 hy with hy | hy
        · exact hsub y hy
        · simp at hy; subst hy; exact hxk, seen.push e.born, clock, fz', pl2, hseen, Nat.le_refl _, q3.trans g1, by rw [t3, g2, q4], t4, t2, t1, by rw [g6, put_defers, put_defers, put_defers]; exact hd3⟩
      refine ⟨⟨_, hI2⟩, ?_⟩
      have hx2 := hex a' w' ⟨_, hI2⟩
      have : μ' a' w' ≤ ks.length - (done ++ [x]).length := by
        show (if h : ∃ n, ∃ done, I done a' w' ∧ ks.length - done.length = n then least h else 0) ≤ _
        rw [dif_pos hx2]
        exact least_min hx2 ⟨_, hI2, rfl⟩
      rw [hμ]
      simp at this; omega
end

/-! a code by abstract code, but for its middle -/
def cCodes (P : Program) (mt : FuncId → Nat) : List Code → Option (List ACode)
  | [] => some []
  | c :: cs => match cCode P mt c, cCodes P mt cs with
    | some x, some xs => some (x :: xs)
    | _, _ => none
def awpL (P : Program) (m : Nat) (Q : APost) (K : List AV → Bx → Prop) : List ACode → List AV → Bx → Prop
  | [] => K
  | c :: cs => awp P m c (seqQ (awpL P m Q K cs) Q)
theorem awpL_nil (P : Program) (m : Nat) (Q : APost) (K : List AV → Bx → Prop) (l : List AV) (bx : Bx) : awpL P m Q K [] l bx = K l bx := rfl
theorem awpL_cons (P : Program) (m : Nat) (Q : APost) (K : List AV → Bx → Prop) (c : ACode) (cs : List ACode) (l : List AV) (bx : Bx) : awpL P m Q K (c :: cs) l bx = awp P m c (seqQ (awpL P m Q K cs) Q) l bx := rfl
section
variable {w0 : World} {pr : Fz} {P : Program} {m : Nat}
theorem wp_awpL {mt : FuncId → Nat} {r : Code} {K : List AV → Bx → Prop} {Q : APost} {R : Exit → Act → World → Prop} : ∀ (cs : List Code) (acs : List ACode), cCodes P mt cs = some acs → ∀ (l : List AV) (bx : Bx) (fz : Fz) (pl : Pl) (a : Act) (w : World), awpL P m Q K acs l bx → RepT fz pl l a → Sim w0 pr fz pl bx w → m ≤ pl.length →
    (∀ l' bx' a' w' fz' pl', K l' bx' → FzLe fz fz' → pl'.take m = pl.take m → m ≤ pl'.length → RepT fz' pl' l' a' → Sim w0 pr fz' pl' bx' w' → a'.defers = a.defers → r.wp P R a' w') →
    (∀ e l' bx' a' w' fz' pl', e ≠ .normal → Q e l' bx' → FzLe fz fz' → pl'.take m = pl.take m → m ≤ pl'.length → RepT fz' pl' l' a' → Sim w0 pr fz' pl' bx' w' → a'.defers = a.defers → R e.toExit a' w') → (cs.foldr Code.seq r).wp P R a w
  | [], acs, hc, l, bx, fz, pl, a, w, h, hT, hS, hm, hK, hQ => by
    simp only [cCodes] at hc
    injection hc with hc
    subst hc
    exact hK _ _ _ _ _ _ h (.refl _) rfl hm hT hS rfl
  | c :: cs, acs, hc, l, bx, fz, pl, a, w, h, hT, hS, hm, hK, hQ => by
    simp only [cCodes] at hc
    split at hc
    · rename_i x xs h1 h2
      injection hc with hc
      subst hc
      refine wp_seq (awp_sound (m := m) c x h1 _ l bx fz pl a w h hT hS hm _ ?_)
      intro e l' bx' a' w' fz' pl' hq k1 k2 k3 hT' hS' hd
      cases e with
      | normal => exact wp_awpL cs xs h2 l' bx' fz' pl' a' w' hq hT' hS' k3 (fun l2 bx2 a2 w2 fz2 pl2 p1 p2 p3 p4 p5 p6 p7 => hK l2 bx2 a2 w2 fz2 pl2 p1 (k1.trans p2) (p3.trans k2) p4 p5 p6 (p7.trans hd)) (fun e2 l2 bx2 a2 w2 fz2 pl2 p0 p1 p2 p3 p4 p5 p6 p7 => hQ e2 l2 bx2 a2 w2 fz2 pl2 p0 p1 (k1.trans p2) (p3.trans k2) p4 p5 p6 (p7.trans hd))
      | ret => exact hQ .ret _ _ _ _ _ _ (by simp) hq k1 k2 k3 hT' hS' hd
      | exit i => exact hQ (.exit i) _ _ _ _ _ _ (by simp) hq k1 k2 k3 hT' hS' hd
    · cases hc
def wkTs : List AV → List AV → Prop
  | [], [] => True
  | v :: l, u :: r => (v = u ∨ v = .any) ∧ wkTs l r
  | _, _ => False
theorem wkTs_get : ∀ {l r : List AV}, wkTs l r → l.length = r.length ∧ ∀ t, getT l t = getT r t ∨ getT l t = .any
  | [], [], _ => ⟨rfl, fun t => .inl rfl⟩
  | v :: l, u :: r, h => by
    obtain ⟨h1, h2⟩ := wkTs_get h.2
    refine ⟨by simp [h1], fun t => ?_⟩
    cases t with
    | zero => exact h.1
    | succ t => exact h2 t
  | [], _ :: _, h => h.elim
  | _ :: _, [], h => h.elim
theorem RepT.weak {fz : Fz} {pl : Pl} {l l' : List AV} {a : Act} (h : RepT fz pl l a) (hw : wkTs l' l) : RepT fz pl l' a := by
  obtain ⟨h1, h2⟩ := wkTs_get hw
  refine ⟨h1.trans h.1, fun t => ?_⟩
  rcases h2 t with e | e
  · rw [e]; exact h.2 t
  · rw [e]; exact .frz (.any _)
/-- the end of a function that was handed boxes -/
theorem fin_end {fz fz' : Fz} {pl pl' : Pl} {bx' bs bs' : Bx} {fn : Func} {rz : List ARes} (hres : cRes P fn.results.toList = some rz) {r : AV} {e : AExit} {l' : List AV} {a' : Act} {w' : World} (hq : finF rz bs.length r bs' e l' bx')
    (h1 : FzLe fz fz') (ht : pl'.take bs.length = pl.take bs.length) (hm : bs.length ≤ pl'.length) (hlen : pl.length = bs.length) (hT : RepT fz' pl' l' a') (hS' : Sim w0 pr fz' pl' bx' w') (hdf : a'.defers = []) :
    bodyPost P fn (fun e w' => ∃ cv fz' pl', e = .returned cv ∧ FzLe fz fz' ∧ pl <+: pl' ∧ Rep fz' pl' r cv ∧ Sim w0 pr fz' pl' bs' w') e.toExit a' w' := by
  have key : (match resV l' bx' rz with
    | some vs => ∃ ix : List Nat, ix.Nodup ∧ ix.take bs.length = List.range bs.length ∧ embB bs'.length ix bx' ix bs' ∧ wk r (view 8 (killL ix bx') (tupV vs))
    | none => False) → a'.defers = [] ∧ ∃ v, (results fn a'.tmps).run P w' = .ok v w' ∧ ∃ cv fz'' pl'', Ending.returned v = .returned cv ∧ FzLe fz fz'' ∧ pl <+: pl'' ∧ Rep fz'' pl'' r cv ∧ Sim w0 pr fz'' pl'' bs' w' := by
    intro hq
    split at hq
    · rename_i vs hvs
      obtain ⟨c, r1, r2⟩ := results_sound (P := P) hT hS' hres hvs
      obtain ⟨ix, i1, i2, i3, i5⟩ := hq
      obtain ⟨S1, hp⟩ := hS'.embed rfl i3 i1 hS'.prt hS'.dis (fun k x b m' _ hk hpl => (boxBlock hS' hk hpl).2.1)
      have htk : (plOf pl' ix).take bs.length = pl := by
        have e1 : (plOf pl' ix).take bs.length = pl'.take bs.length := by
          apply List.ext_getElem?
          intro j
          rw [List.getElem?_take, List.getElem?_take]
          by_cases hj : j < bs.length
          · rw [if_pos hj, if_pos hj]
            have hix : ix[j]? = some j := by
              have : (ix.take bs.length)[j]? = (List.range bs.length)[j]? := by rw [i2]
              rw [List.getElem?_take, if_pos hj] at this
              rw [this]; simp [hj]
            exact plOf_get hix (by omega)
          · rw [if_neg hj, if_neg hj]
        rw [e1, ht, ← hlen, List.take_length]
      obtain ⟨S2, le⟩ := S1.frzAll
      have hv := view_sound (hS'.kills ix) le (fun k x b n hk hpl => by
        obtain ⟨hk1, hk2⟩ := killL_get hk
        unfold frzAll
        rw [if_neg]
        · simp only [(boxBlock hS' hk1 hpl).2.1]
        · rintro ⟨j, y, n', hj, hpj⟩
          obtain ⟨e1, e2, e3⟩ := embB_get i3
          obtain ⟨k', xs, a1, a2, a3, a4⟩ := e3 j y.1 y.2 hj
          have hq := plOf_get (pl := pl') a1 (by rw [hS'.len]; exact e2 j k' a1)
          rw [hq] at hpj
          have := hS'.inj k k' x _ b n n' hk1 a2 hpl hpj
          subst this
          exact hk2 (List.mem_of_getElem? a1)) 8 (tupV vs) c r2
      refine ⟨hdf, c, r1, c, _, plOf pl' ix, rfl, h1.trans le, ?_, Rep.wk _ _ _ (.frz hv) i5, S2⟩
      rw [← htk]; exact List.take_prefix _ _
    · exact hq.elim
  cases e with
  | normal => exact key hq
  | ret => exact key hq
  | exit i => exact hq.elim
end
end Go.Proofs.Ytbmcjhjbifojnaa.Av
