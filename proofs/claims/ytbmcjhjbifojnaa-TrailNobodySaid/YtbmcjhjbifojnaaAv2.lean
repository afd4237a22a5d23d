/- Abstract code: a way to show what functions compute (AvKit, AvSim, AvRead, AvTop, AvSm, AvSn, AvSx, AvMp, AvTy). -/
import Derived.IntWalk
import Derived.Deep.Slices
import Derived.WideShapes
import Derived.OpenShut
import Derived.RowKit
import Derived.Test.YtbmcjhjbifojnaaAv1b
/- Words for walks over abstract code. -/
namespace Go.Proofs.Ytbmcjhjbifojnaa.Av
set_option linter.unusedVariables false

abbrev Rg := Int × Int
def eI (n : Int) : AV := .int .i64 n
def eRg (r : Rg) : AV := .agg [.int .i64 r.1, .int .i64 r.2]
def eIs (l : List Int) : AV := .list 1 (l.map eI)
def eRgs (l : List Rg) : AV := .list 2 (l.map eRg)
def eDoms (d : List (List Rg)) : AV := .list 1 (d.map eRgs)

abbrev Con := Int × List Int × List Int × Int
def eCon (c : Con) : AV := .agg [.int .i64 c.1, eIs c.2.1, eIs c.2.2.1, .int .i64 c.2.2.2]
def eCons (l : List Con) : AV := .list 4 (l.map eCon)

theorem flatL_map {α : Type} (f : α → AV) (h : ∀ x, (f x).flat = true) : ∀ l : List α, flatL (l.map f) = true
  | [] => rfl
  | x :: l => by simp [flatL, h x, flatL_map f h l]
theorem flatL_eI (l : List Int) : flatL (l.map eI) = true := flatL_map _ (fun _ => rfl) l
theorem flatL_eRg (l : List Rg) : flatL (l.map eRg) = true := flatL_map _ (fun _ => rfl) l
theorem flatL_eRgs (l : List (List Rg)) : flatL (l.map eRgs) = true := flatL_map _ (fun _ => rfl) l
theorem wk_same (v : AV) : wk v v = True := eq_true (wk_refl v)
theorem wkL_same (v : List AV) : wkL v v = True := eq_true (wkL_refl v)
theorem wkEs_same (v : List AV) : wkEs v v = True := eq_true (wkEs_refl v)
theorem om_I (n : Int) : Option.map eI (some n) = some (.int .i64 n) := rfl
theorem om_Rg (x y : Int) : Option.map eRg (some (x, y)) = some (.agg [.int .i64 x, .int .i64 y]) := rfl
theorem om_Rgs (l : List Rg) : Option.map eRgs (some l) = some (.list 2 (l.map eRg)) := rfl
theorem om_Is (l : List Int) : Option.map eIs (some l) = some (.list 1 (l.map eI)) := rfl
theorem om_Con (k : Int) (X A : List Int) (C : Int) : Option.map eCon (some (k, X, A, C)) = some (.agg [.int .i64 k, eIs X, eIs A, .int .i64 C]) := rfl
theorem flatL_eCon (l : List Con) : flatL (l.map eCon) = true := flatL_map _ (fun _ => rfl) l
theorem flatL_eIs (l : List (List Int)) : flatL (l.map eIs) = true := flatL_map _ (fun _ => rfl) l
theorem snoc_I (l : List Int) (n : Int) : l.map eI ++ [.int .i64 n] = (l ++ [n]).map eI := by simp [eI]
theorem snoc_Rg (l : List Rg) (x y : Int) : l.map eRg ++ [.agg [.int .i64 x, .int .i64 y]] = (l ++ [(x, y)]).map eRg := by simp [eRg]
theorem snoc_Rgs (l : List (List Rg)) (r : List Rg) : l.map eRgs ++ [.list 2 (r.map eRg)] = (l ++ [r]).map eRgs := by simp [eRgs]
theorem snoc_Is (l : List (List Int)) (r : List Int) : l.map eIs ++ [.list 1 (r.map eI)] = (l ++ [r]).map eIs := by simp [eIs]
theorem app_I (l m : List Int) : l.map eI ++ m.map eI = (l ++ m).map eI := by simp
theorem app_Rg (l m : List Rg) : l.map eRg ++ m.map eRg = (l ++ m).map eRg := by simp
theorem app_Rgs (l m : List (List Rg)) : l.map eRgs ++ m.map eRgs = (l ++ m).map eRgs := by simp
theorem take_map {α : Type} (f : α → AV) (l : List α) : (l.map f).take l.length = l.map f := by
  have := List.take_length (l := l.map f)
  rwa [List.length_map] at this
theorem om_agg (l : List AV) : Option.map AV.agg (some l) = some (.agg l) := rfl
theorem flat_eRg (r : Rg) : (eRg r).flat = true := rfl
theorem flat_eRgs (r : List Rg) : (eRgs r).flat = true := rfl
theorem flat_eIs (r : List Int) : (eIs r).flat = true := rfl
theorem flat_eDoms (r : List (List Rg)) : (eDoms r).flat = true := rfl

/-- a state, by the slots that count -/
def tm (n : Nat) (l : List (Nat × AV)) : List AV := l.foldl (fun s p => setT s p.1 p.2) (List.replicate n .any)

theorem loop_rule {m : Nat} {body : APost → List AV → Bx → Prop} {Q : APost} {l : List AV} {bx : Bx} {β : Type} (J : β → Prop) (S : β → List AV) (B : β → Bx) (μ : β → Nat) (b0 : β) (h0 : J b0) (hE : Emb m (S b0) (B b0) l bx)
    (h : ∀ b, J b → body (seqQ (fun l' bx' => ∃ b', J b' ∧ μ b' < μ b ∧ Emb m (S b') (B b') l' bx') Q) (S b) (B b)) : LoopK m body Q l bx := ⟨[], [], [], β, J, S, B, μ, b0, rfl, rfl, h0, hE, h⟩
/-- the same, with nil slices in some slots seen as slices of new boxes -/
theorem loop_ruleV {m : Nat} {body : APost → List AV → Bx → Prop} {Q : APost} {l : List AV} {bx : Bx} {β : Type} (ts : List (Nat × Nat)) (J : β → Prop) (S : β → List AV) (B : β → Bx) (μ : β → Nat) (b0 : β) (hv : virtOk ts l bx.length = true) (h0 : J b0) (hE : Emb m (S b0) (B b0) (virtL ts l bx.length) (virtB ts bx))
    (h : ∀ b, J b → body (seqQ (fun l' bx' => ∃ b', J b' ∧ μ b' < μ b ∧ Emb m (S b') (B b') l' bx') Q) (S b) (B b)) : LoopK m body Q l bx := ⟨[], [], ts, β, J, S, B, μ, b0, rfl, hv, h0, hE, h⟩
/-- the same, with nil slices in boxes' structs seen so, too -/
theorem loop_ruleF {m : Nat} {body : APost → List AV → Bx → Prop} {Q : APost} {l : List AV} {bx : Bx} {β : Type} (fs : List (Nat × Nat × Nat)) (ts : List (Nat × Nat)) (J : β → Prop) (S : β → List AV) (B : β → Bx) (μ : β → Nat) (b0 : β) (hf : virtFok fs bx = true) (hv : virtOk ts l (virtF fs bx).length = true) (h0 : J b0) (hE : Emb m (S b0) (B b0) (virtL ts l (virtF fs bx).length) (virtB ts (virtF fs bx)))
    (h : ∀ b, J b → body (seqQ (fun l' bx' => ∃ b', J b' ∧ μ b' < μ b ∧ Emb m (S b') (B b') l' bx') Q) (S b) (B b)) : LoopK m body Q l bx := ⟨[], fs, ts, β, J, S, B, μ, b0, hf, hv, h0, hE, h⟩
/-- rows of slots, frozen ahead of a loop -/
theorem loop_freeze {m : Nat} {body : APost → List AV → Bx → Prop} {Q : APost} {l : List AV} {bx : Bx} (zs : List Nat) (h : frzSs zs (LoopK m body Q) l bx) : LoopK m body Q l bx := by
  suffices ∀ (zs : List Nat) (l : List AV) (bx : Bx), frzSs zs (LoopK m body Q) l bx → ∃ ys, frzSs ys (LoopK0 m body Q) l bx from this zs l bx h
  intro zs
  induction zs with
  | nil => intro l bx h; exact h
  | cons t r ih =>
    intro l bx h
    have key : ∀ {K : List AV → Bx → Prop} {l' bx'}, frzS t K l' bx' → ∃ l2 bx2, K l2 bx2 ∧ ∀ K' : List AV → Bx → Prop, K' l2 bx2 → frzS t K' l' bx' := by
      intro K l' bx' hk
      unfold frzS at hk ⊢
      split at hk
      · exact ⟨_, _, hk, fun K' h => h⟩
      · exact ⟨_, _, hk, fun K' h => h⟩
      · split at hk
        · split at hk
          · exact ⟨_, _, hk, fun K' h => h⟩
          · exact hk.elim
        · exact hk.elim
      · exact hk.elim
    obtain ⟨l2, bx2, h1, h2⟩ := key (K := frzSs r (LoopK m body Q)) h
    obtain ⟨ys, h3⟩ := ih l2 bx2 h1
    exact ⟨t :: ys, h2 (frzSs ys (LoopK0 m body Q)) h3⟩
theorem callA_rule {P : Program} {fid : FuncId} {args' args : List AV} {K : AV → Bx → Prop} {bx : Bx} {v : AV} (hc : Ctr P fid args' [] v []) (hw : wkL args' args) (hf : flatL args = true) (h : K v bx) : CallAK P (.fn (.func fid) []) args K bx :=
  ⟨v, ⟨fid, [], args', rfl, hc, by rw [List.append_nil]; exact hw, by rw [List.append_nil]; exact hf⟩, h⟩

theorem wkN_sl (s k o n : Nat) (t k' o' n' : Nat) : wkN (.sl s k o n) (.sl t k' o' n') = (AV.sl s k o n = .sl t k' o' n') := by
  cases n <;> simp [wkN, wk]
theorem wkN_nil (s k o : Nat) : wkN (.sl s k o 0) .nils = True := rfl
theorem wkN_list (s : Nat) (l : List AV) (u : AV) : wkN (.list s l) u = wk (.list s l) u := rfl
theorem wkN_tuple (l : List AV) (u : AV) : wkN (.tuple l) u = wk (.tuple l) u := rfl
theorem wkN_int (k : IntKind) (n : Int) (u : AV) : wkN (.int k n) u = wk (.int k n) u := rfl
theorem wkN_bool (b : Bool) (u : AV) : wkN (.bool b) u = wk (.bool b) u := rfl
theorem wkN_agg (l : List AV) (u : AV) : wkN (.agg l) u = wk (.agg l) u := rfl
theorem wkN_ptr (a b c d : Nat) (u : AV) : wkN (.ptr a b c d) u = wk (.ptr a b c d) u := rfl
theorem wkN_nils (u : AV) : wkN .nils u = wk .nils u := rfl
/-- a box by other numbers -/
def reB (ix : List Nat) : Option (Nat × List AV) → Option (Nat × List AV)
  | some (s, es) => some (s, renEs ix es)
  | none => none
theorem reB_eq (ix : List Nat) (b : Option (Nat × List AV)) : reB ix b = b.map fun x => (x.1, renEs ix x.2) := by cases b <;> rfl
theorem mg_cons (ix js : List Nat) (j : Nat) (b : Option (Nat × List AV)) (bs bx : Bx) : mergeB ix (j :: js) (b :: bs) bx = match decide (j < bx.length) with
    | true => mergeB ix js bs (bxSet bx j (reB ix b))
    | false => mergeB ix js bs (bx ++ [reB ix b]) := by rw [reB_eq]; rfl
theorem mg_nil (ix : List Nat) (bs bx : Bx) : mergeB ix [] bs bx = bx := by cases bs <;> rfl
theorem mg_nil2 (ix js : List Nat) (bx : Bx) : mergeB ix js [] bx = bx := by cases js <;> rfl
theorem nn_cons (s : Nat) (a : AV) (l : List AV) : AV.nonNil (.list s (a :: l)) = true := rfl
theorem nn_nil (s : Nat) : AV.nonNil (.list s []) = false := rfl
theorem nn_nils : AV.nonNil .nils = false := rfl
theorem om_ev (l : List AV) (x : AOpd) : Option.map (fun x => AOpd.ev l x) (some x) = some (x.ev l) := rfl
/-- a call that is handed boxes -/
theorem callM_rule {P : Program} {fid : FuncId} {args' args : List AV} {K : AV → Bx → Prop} {bx bs bs' : Bx} {r : AV} (ix : List Nat) (hc : Ctr P fid args' bs r bs') (hn : ix.Nodup) (hE : embB bs.length ix bx ix bs)
    (ho : args'.all (okR bs.length) = true) (hw : wkL (args'.map (ren ix)) args) (h1 : okR bs'.length r = true) (h2 : okBx bs'.length bs' = true)
    (h : K (ren (ix ++ newIx bx.length (bs'.length - bs.length)) r) (mergeB (ix ++ newIx bx.length (bs'.length - bs.length)) (ix ++ newIx bx.length (bs'.length - bs.length)) bs' bx)) : CallMK P (.fn (.func fid) []) args K bx :=
  ⟨_, _, ⟨fid, [], ix, args', bs, r, bs', rfl, hc, hE, hn, ho, by rw [List.append_nil]; exact hw, h1, h2, rfl, rfl⟩, h⟩
/-- a call that is handed no box and makes some -/
theorem callO_rule {P : Program} {fid : FuncId} {args' args : List AV} {K : AV → Bx → Prop} {bx bn : Bx} {r : AV} (hc : Ctr P fid args' [] r bn)
    (ho : args'.all (okR 0) = true) (hw : wkL (args'.map (ren [])) args) (h1 : okR bn.length r = true) (h2 : okBx bn.length bn = true)
    (h : K (ren (newIx bx.length bn.length) r) (bx ++ bn.map (reB (newIx bx.length bn.length)))) : CallOK P (.fn (.func fid) []) args K bx := by
  have e0 : bn.map (reB (newIx bx.length bn.length)) = bn.map (reBox (newIx bx.length bn.length)) := List.map_congr_left fun b _ => reB_eq _ b
  rw [e0] at h
  have e : mergeB (newIx bx.length bn.length) (newIx bx.length bn.length) bn bx = bx ++ bn.map (reBox (newIx bx.length bn.length)) := merge_push _ _ _ _ rfl
  refine ⟨_, _, ⟨⟨fid, [], [], args', [], r, bn, rfl, hc, trivial, List.nodup_nil, ho, by rw [List.append_nil]; exact hw, h1, h2, rfl, rfl⟩, ?_⟩, ?_⟩
  · simp only [List.nil_append, List.length_nil, Nat.sub_zero, e]
    exact List.prefix_append _ _
  · simp only [List.nil_append, List.length_nil, Nat.sub_zero, e]
    exact h
/-- a call that looks at boxes -/
theorem callV_rule {P : Program} {fid : FuncId} {args' args : List AV} {K : AV → Bx → Prop} {bx : Bx} {v : AV} (hc : Ctr P fid args' [] v []) (hw : wkL args' (args.map (view 8 bx))) (hs : v.scal = true) (h : K v bx) : CallVK P (.fn (.func fid) []) args K bx :=
  ⟨v, ⟨8, fid, [], args', rfl, hc, by rw [List.append_nil]; exact hw, hs⟩, h⟩

theorem wrap_i64 {n : Int} (h1 : -9223372036854775808 ≤ n) (h2 : n ≤ 9223372036854775807) : IntKind.i64.wrap n = n := IntWalk.i64_in n (by omega)
end Go.Proofs.Ytbmcjhjbifojnaa.Av
/- The rules by which a walk goes. A rule for code wants a state that is written out: so nothing behind a call is looked at ahead of its contract. -/
namespace Go.Proofs.Ytbmcjhjbifojnaa.Av
set_option linter.unusedVariables false
section
variable (P : Program) (m : Nat) (Q : APost) (x : AV) (l : List AV) (bx : Bx)
theorem w_skip : awp P m .skip Q (x :: l) bx = Q .normal (x :: l) bx := rfl
theorem w_region (ops : List AOper) : awp P m (.region ops) Q (x :: l) bx = awpOpers P ops (Q .normal) (x :: l) bx := rfl
theorem w_seq (a b : ACode) : awp P m (.seq a b) Q (x :: l) bx = awp P m a (seqQ (awp P m b Q) Q) (x :: l) bx := rfl
theorem w_cond (c : AOpd) (a b : ACode) : awp P m (.cond c a b) Q (x :: l) bx = match c.ev (x :: l) with
    | .bool t => if t = true then awp P m a Q (x :: l) bx else awp P m b Q (x :: l) bx
    | _ => False := rfl
theorem w_block (id : Nat) (c : ACode) : awp P m (.block id c) Q (x :: l) bx = awp P m c (blockQ id Q) (x :: l) bx := rfl
theorem w_loop (c : ACode) : awp P m (.loop c) Q (x :: l) bx = LoopK m (awp P m c) Q (x :: l) bx := rfl
theorem w_exit (id : Nat) : awp P m (.exit id) Q (x :: l) bx = Q (.exit id) (x :: l) bx := rfl
theorem w_ret : awp P m .ret Q (x :: l) bx = Q .ret (x :: l) bx := rfl
theorem w_nil (K : List AV → Bx → Prop) : awpOpers P [] K (x :: l) bx = K (x :: l) bx := rfl
theorem w_cons (o : AOper) (os : List AOper) (K : List AV → Bx → Prop) : awpOpers P (o :: os) K (x :: l) bx = awpOper P o (awpOpers P os K) (x :: l) bx := rfl
theorem q_normal (K : List AV → Bx → Prop) : seqQ K Q .normal (x :: l) bx = K (x :: l) bx := rfl
theorem q_exit (K : List AV → Bx → Prop) (id : Nat) : seqQ K Q (.exit id) (x :: l) bx = Q (.exit id) (x :: l) bx := rfl
theorem q_ret (K : List AV → Bx → Prop) : seqQ K Q .ret (x :: l) bx = Q .ret (x :: l) bx := rfl
theorem b_normal (id : Nat) : blockQ id Q .normal (x :: l) bx = Q .normal (x :: l) bx := rfl
theorem b_exit (id i : Nat) : blockQ id Q (.exit i) (x :: l) bx = match decide (i = id) with
    | true => Q .normal (x :: l) bx
    | false => Q (.exit i) (x :: l) bx := rfl
theorem b_ret (id : Nat) : blockQ id Q .ret (x :: l) bx = Q .ret (x :: l) bx := rfl
theorem f_normal (res : List ARes) (r : AV) : finP res r .normal (x :: l) bx = match resV (x :: l) bx res with
    | some vs => wk r (view 8 bx (tupV vs))
    | none => False := rfl
theorem f_ret (res : List ARes) (r : AV) : finP res r .ret (x :: l) bx = match resV (x :: l) bx res with
    | some vs => wk r (view 8 bx (tupV vs))
    | none => False := rfl
theorem g_normal (res : List ARes) (r : AV) (bs' : Bx) : finM res m r bs' .normal (x :: l) bx = match resV (x :: l) bx res with
    | some vs => ∃ (zs ix : List Nat), ix.Nodup ∧ ix.take m = List.range m ∧ embB bs'.length ix (hol zs bx) ix bs' ∧ okR bs'.length r = true ∧ wkN (ren ix r) (tupV vs)
    | none => False := rfl
theorem g_ret (res : List ARes) (r : AV) (bs' : Bx) : finM res m r bs' .ret (x :: l) bx = match resV (x :: l) bx res with
    | some vs => ∃ (zs ix : List Nat), ix.Nodup ∧ ix.take m = List.range m ∧ embB bs'.length ix (hol zs bx) ix bs' ∧ okR bs'.length r = true ∧ wkN (ren ix r) (tupV vs)
    | none => False := rfl
section
variable (F : List AV → Bx → Prop) (d : Option Nat)
theorem r_int (k : IntKind) (n : Int) : awpRest F (x :: l) d (.int k n) bx = F (putT (x :: l) d (.int k n)) bx := rfl
theorem r_bool (b : Bool) : awpRest F (x :: l) d (.bool b) bx = F (putT (x :: l) d (.bool b)) bx := rfl
theorem r_str (b : ByteArray) : awpRest F (x :: l) d (.str b) bx = F (putT (x :: l) d (.str b)) bx := rfl
theorem r_any : awpRest F (x :: l) d .any bx = F (putT (x :: l) d .any) bx := rfl
theorem r_nils : awpRest F (x :: l) d .nils bx = F (putT (x :: l) d .nils) bx := rfl
theorem r_nilp : awpRest F (x :: l) d .nilp bx = F (putT (x :: l) d .nilp) bx := rfl
theorem r_nilf : awpRest F (x :: l) d .nilf bx = F (putT (x :: l) d .nilf) bx := rfl
theorem r_fn (f : Fn) (c : List AV) : awpRest F (x :: l) d (.fn f c) bx = F (putT (x :: l) d (.fn f c)) bx := rfl
theorem r_agg (c : List AV) : awpRest F (x :: l) d (.agg c) bx = F (putT (x :: l) d (.agg c)) bx := rfl
theorem r_tuple (c : List AV) : awpRest F (x :: l) d (.tuple c) bx = F (putT (x :: l) d (.tuple c)) bx := rfl
theorem r_list (s : Nat) (c : List AV) : awpRest F (x :: l) d (.list s c) bx = F (putT (x :: l) d (.list s c)) bx := rfl
theorem r_rptr (c : List AV) : awpRest F (x :: l) d (.rptr c) bx = F (putT (x :: l) d (.rptr c)) bx := rfl
theorem r_ptr (a b c e : Nat) : awpRest F (x :: l) d (.ptr a b c e) bx = F (putT (x :: l) d (.ptr a b c e)) bx := rfl
theorem r_sl (a b c e : Nat) : awpRest F (x :: l) d (.sl a b c e) bx = F (putT (x :: l) d (.sl a b c e)) bx := rfl
end
end
theorem t_get0 (a0 : AV) (l : List AV) : getT (a0 :: l) 0 = a0 := rfl
theorem t_set0 (a0 v : AV) (l : List AV) : setT (a0 :: l) 0 v = v :: l := rfl
theorem t_get1 (a0 a1 : AV) (l : List AV) : getT (a0 :: a1 :: l) 1 = a1 := rfl
theorem t_set1 (a0 a1 v : AV) (l : List AV) : setT (a0 :: a1 :: l) 1 v = a0 :: v :: l := rfl
theorem t_get2 (a0 a1 a2 : AV) (l : List AV) : getT (a0 :: a1 :: a2 :: l) 2 = a2 := rfl
theorem t_set2 (a0 a1 a2 v : AV) (l : List AV) : setT (a0 :: a1 :: a2 :: l) 2 v = a0 :: a1 :: v :: l := rfl
theorem t_get3 (a0 a1 a2 a3 : AV) (l : List AV) : getT (a0 :: a1 :: a2 :: a3 :: l) 3 = a3 := rfl
theorem t_set3 (a0 a1 a2 a3 v : AV) (l : List AV) : setT (a0 :: a1 :: a2 :: a3 :: l) 3 v = a0 :: a1 :: a2 :: v :: l := rfl
theorem t_get4 (a0 a1 a2 a3 a4 : AV) (l : List AV) : getT (a0 :: a1 :: a2 :: a3 :: a4 :: l) 4 = a4 := rfl
theorem t_set4 (a0 a1 a2 a3 a4 v : AV) (l : List AV) : setT (a0 :: a1 :: a2 :: a3 :: a4 :: l) 4 v = a0 :: a1 :: a2 :: a3 :: v :: l := rfl
theorem t_get5 (a0 a1 a2 a3 a4 a5 : AV) (l : List AV) : getT (a0 :: a1 :: a2 :: a3 :: a4 :: a5 :: l) 5 = a5 := rfl
theorem t_set5 (a0 a1 a2 a3 a4 a5 v : AV) (l : List AV) : setT (a0 :: a1 :: a2 :: a3 :: a4 :: a5 :: l) 5 v = a0 :: a1 :: a2 :: a3 :: a4 :: v :: l := rfl
theorem t_get6 (a0 a1 a2 a3 a4 a5 a6 : AV) (l : List AV) : getT (a0 :: a1 :: a2 :: a3 :: a4 :: a5 :: a6 :: l) 6 = a6 := rfl
theorem t_set6 (a0 a1 a2 a3 a4 a5 a6 v : AV) (l : List AV) : setT (a0 :: a1 :: a2 :: a3 :: a4 :: a5 :: a6 :: l) 6 v = a0 :: a1 :: a2 :: a3 :: a4 :: a5 :: v :: l := rfl
theorem t_get7 (a0 a1 a2 a3 a4 a5 a6 a7 : AV) (l : List AV) : getT (a0 :: a1 :: a2 :: a3 :: a4 :: a5 :: a6 :: a7 :: l) 7 = a7 := rfl
theorem t_set7 (a0 a1 a2 a3 a4 a5 a6 a7 v : AV) (l : List AV) : setT (a0 :: a1 :: a2 :: a3 :: a4 :: a5 :: a6 :: a7 :: l) 7 v = a0 :: a1 :: a2 :: a3 :: a4 :: a5 :: a6 :: v :: l := rfl
theorem t_get8 (a0 a1 a2 a3 a4 a5 a6 a7 : AV) (l : List AV) (n : Nat) : getT (a0 :: a1 :: a2 :: a3 :: a4 :: a5 :: a6 :: a7 :: l) (n + 8) = getT l n := rfl
theorem t_set8 (a0 a1 a2 a3 a4 a5 a6 a7 v : AV) (l : List AV) (n : Nat) : setT (a0 :: a1 :: a2 :: a3 :: a4 :: a5 :: a6 :: a7 :: l) (n + 8) v = a0 :: a1 :: a2 :: a3 :: a4 :: a5 :: a6 :: a7 :: setT l n v := rfl
theorem t_put (l : List AV) (d : Nat) (v : AV) : putT l (some d) v = setT l d v := rfl
theorem t_put0 (l : List AV) (v : AV) : putT l none v = l := rfl
theorem t_tmp (l : List AV) (t : Nat) : AOpd.ev l (.tmp t) = getT l t := rfl
theorem t_val (l : List AV) (v : AV) : AOpd.ev l (.val v) = v := rfl
end Go.Proofs.Ytbmcjhjbifojnaa.Av
/- Arguments read: what a value of a type stands for, as an abstract value. -/
namespace Go.Proofs.Ytbmcjhjbifojnaa.Av
set_option linter.unusedVariables false
open Go.ChangeShapes

inductive Ty where
  | int (k : IntKind)
  | bool
  | str
  | sl (e : Ty)
  | st (fs : Ty)
  | one (a : Ty)
  | cons (a b : Ty)
  | arr (n : Nat) (e : Ty)

def Ty.n : Ty → Nat
  | .int _ => 1
  | .bool => 1
  | .str => 1
  | .sl _ => 1
  | .st fs => fs.n
  | .one a => a.n
  | .cons a b => a.n + b.n
  | .arr k e => k * e.n
def Ty.isAgg : Ty → Bool
  | .st _ => true
  | .arr _ _ => true
  | _ => false
abbrev Ty.Sem : Ty → Type
  | .int _ => Int
  | .bool => Bool
  | .str => ByteArray
  | .sl e => List e.Sem
  | .st fs => fs.Sem
  | .one a => a.Sem
  | .cons a b => a.Sem × b.Sem
  | .arr _ e => List e.Sem
def Ty.el (T : Ty) (cs : List AV) : AV := match T.isAgg with
  | true => .agg cs
  | false => match cs with
    | v :: _ => v
    | [] => .any
def Ty.enc : (T : Ty) → T.Sem → List AV
  | .int k, n => [.int k n]
  | .bool, b => [.bool b]
  | .str, s => [.str s]
  | .sl e, l => [.list e.n (l.map fun x => e.el (e.enc x))]
  | .st fs, x => fs.enc x
  | .one a, x => a.enc x
  | .cons a b, x => a.enc x.1 ++ b.enc x.2
  | .arr _ e, l => l.flatMap e.enc
def Ty.ok : (T : Ty) → T.Sem → Prop
  | .int k, n => k.min ≤ n ∧ n ≤ k.max
  | .bool, _ => True
  | .str, s => s.size ≤ maxLen
  | .sl e, l => l.length ≤ maxLen ∧ ∀ x ∈ l, e.ok x
  | .st fs, x => fs.ok x
  | .one a, x => a.ok x
  | .cons a b, x => a.ok x.1 ∧ b.ok x.2
  | .arr k e, l => l.length = k ∧ ∀ x ∈ l, e.ok x
def Ty.chk (P : Program) : Ty → (TypeId → Bool) × (List Field → Nat → Bool)
  | .int k => (fun t => match P.underlying t with
      | some (.int k') => decide (k = k') && decide (P.cellsOf t = 1)
      | _ => false, fun _ _ => false)
  | .bool => (fun t => match P.underlying t with
      | some .bool => decide (P.cellsOf t = 1)
      | _ => false, fun _ _ => false)
  | .str => (fun t => match P.underlying t with
      | some .string => decide (P.cellsOf t = 1)
      | _ => false, fun _ _ => false)
  | .sl e => (fun t => match P.underlying t with
      | some (.slice u) => (e.chk P).1 u && decide (P.cellsOf t = 1) && decide (0 < e.n) && (e.isAgg || decide (e.n = 1))
      | _ => false, fun _ _ => false)
  | .st fs => (fun t => match P.underlying t with
      | some (.struct F) => (fs.chk P).2 F.toList 0 && decide (P.cellsOf t = fs.n)
      | _ => false, fun _ _ => false)
  | .one a => (fun _ => false, fun F off => match F with
      | [f] => decide (f.offset = off) && (a.chk P).1 f.type
      | _ => false)
  | .cons a b => (fun _ => false, fun F off => match F with
      | f :: r => decide (f.offset = off) && (a.chk P).1 f.type && (b.chk P).2 r (off + a.n)
      | _ => false)
  | .arr k e => (fun t => match P.underlying t with
      | some (.array k' u) => decide (k = k') && (e.chk P).1 u && decide (P.cellsOf t = k * e.n)
      | _ => false, fun _ _ => false)

section
variable {H : Type} {enc : TypeId × Value → H} {P : Program} {w : World} {base : Nat} {spare : Nat → Bool} {held : Bool}

theorem chk_n : ∀ (T : Ty) (t : TypeId), (T.chk P).1 t = true → P.cellsOf t = T.n
  | .int k, t, h => by simp only [Ty.chk] at h; split at h <;> simp_all [Ty.n]
  | .bool, t, h => by simp only [Ty.chk] at h; split at h <;> simp_all [Ty.n]
  | .str, t, h => by simp only [Ty.chk] at h; split at h <;> simp_all [Ty.n]
  | .sl e, t, h => by simp only [Ty.chk] at h; split at h <;> simp_all [Ty.n]
  | .st fs, t, h => by simp only [Ty.chk] at h; split at h <;> simp_all [Ty.n]
  | .one a, t, h => by simp [Ty.chk] at h
  | .cons a b, t, h => by simp [Ty.chk] at h
  | .arr k e, t, h => by simp only [Ty.chk] at h; split at h <;> simp_all [Ty.n]

/-- cells stand for a value -/
def RepCs (fz : Fz) (T : Ty) (x : T.Sem) (cs : List Value) : Prop :=
  (T.enc x).length = T.n ∧ cs.length = T.n ∧ ∀ (i : Nat) v c, (T.enc x)[i]? = some v → cs[i]? = some c → RepF fz v c ∧ c.oneCell' = true

theorem RepCs.single {fz : Fz} {T : Ty} {x : T.Sem} {v : AV} {c : Value} (he : T.enc x = [v]) (hn : T.n = 1) (h : RepF fz v c) (h1 : c.oneCell' = true) : RepCs fz T x [c] := by
  refine ⟨by rw [he, hn]; rfl, by rw [hn]; rfl, ?_⟩
  intro i u d hu hd
  rw [he] at hu
  cases i with
  | zero => simp at hu hd; subst hu hd; exact ⟨h, h1⟩
  | succ i => simp at hu

theorem RepCs.append {fz : Fz} {a b : Ty} {x : a.Sem} {y : b.Sem} {cs ds : List Value} (h : RepCs fz a x cs) (k : RepCs fz b y ds) : RepCs fz (.cons a b) (x, y) (cs ++ ds) := by
  obtain ⟨h1, h2, h3⟩ := h
  obtain ⟨k1, k2, k3⟩ := k
  refine ⟨by simp [Ty.enc, Ty.n, h1, k1], by simp [Ty.n, h2, k2], ?_⟩
  intro i v c hv hc
  simp only [Ty.enc] at hv
  by_cases hi : i < a.n
  · rw [List.getElem?_append_left (by omega)] at hv hc; exact h3 i v c hv hc
  · rw [List.getElem?_append_right (by omega)] at hv hc
    rw [h1] at hv; rw [h2] at hc
    exact k3 _ v c hv hc

theorem RepCs.rows {fz : Fz} {e : Ty} : ∀ (k : Nat) (cs : List Value) (l : List e.Sem), l.length = k → cs.length = k * e.n → (∀ i x, l[i]? = some x → RepCs fz e x ((cs.drop (i * e.n)).take e.n)) →
    (l.flatMap e.enc).length = k * e.n ∧ ∀ (i : Nat) v c, (l.flatMap e.enc)[i]? = some v → cs[i]? = some c → RepF fz v c ∧ c.oneCell' = true
  | 0, cs, l, hl, hc, h => by
    have : l = [] := List.eq_nil_of_length_eq_zero hl
    subst this
    exact ⟨by simp, by simp⟩
  | k + 1, cs, [], hl, hc, h => by cases hl
  | k + 1, cs, x :: l, hl, hc, h => by
    have e1 := h 0 x rfl
    simp only [Nat.zero_mul, List.drop_zero] at e1
    obtain ⟨a1, a2, a3⟩ := e1
    have ih := RepCs.rows k (cs.drop e.n) l (by simpa using hl) (by rw [List.length_drop, hc, Nat.succ_mul]; omega) (fun i y hy => by
      have := h (i + 1) y (by simpa using hy)
      rw [List.drop_drop]
      rw [show e.n + i * e.n = (i + 1) * e.n by rw [Nat.succ_mul]; omega]
      exact this)
    refine ⟨by simp [a1, ih.1, Nat.succ_mul]; omega, ?_⟩
    intro i v c hv hc'
    rw [List.flatMap_cons] at hv
    by_cases hi : i < e.n
    · rw [List.getElem?_append_left (by omega)] at hv
      exact a3 i v c hv (by rw [List.getElem?_take_of_lt hi]; exact hc')
    · rw [List.getElem?_append_right (by omega)] at hv
      refine ih.2 (i - e.n) v c (by rw [a1] at hv; exact hv) ?_
      rw [List.getElem?_drop, show e.n + (i - e.n) = i by omega]; exact hc'

theorem el_cells {e : Ty} {x : e.Sem} (h : (e.isAgg || decide (e.n = 1)) = true) (hl : (e.enc x).length = e.n) (ha : ∀ (v : AV) (l : List AV), e.isAgg = false → e.enc x = [v] → v ≠ .agg l) : (e.el (e.enc x)).cells = e.enc x := by
  unfold Ty.el
  cases hb : e.isAgg with
  | true => rfl
  | false =>
    simp only
    simp [hb] at h
    match hm : e.enc x with
    | [] => rw [hm] at hl; simp [h] at hl
    | [v] =>
      have := fun l => ha v l hb hm
      cases v <;> first | rfl | exact absurd rfl (this _)
    | _ :: _ :: _ => rw [hm] at hl; simp [h] at hl

theorem enc_noagg : ∀ {e : Ty} {x : e.Sem} {v : AV} {l : List AV}, v ∈ e.enc x → v ≠ .agg l
  | .int k, x, v, l, h => by simp only [Ty.enc, List.mem_singleton] at h; subst h; intro h; cases h
  | .bool, x, v, l, h => by simp only [Ty.enc, List.mem_singleton] at h; subst h; intro h; cases h
  | .str, x, v, l, h => by simp only [Ty.enc, List.mem_singleton] at h; subst h; intro h; cases h
  | .sl e, x, v, l, h => by simp only [Ty.enc, List.mem_singleton] at h; subst h; intro h; cases h
  | .st fs, x, v, l, h => enc_noagg (e := fs) h
  | .one a, x, v, l, h => enc_noagg (e := a) h
  | .cons a b, x, v, l, h => by
    simp only [Ty.enc, List.mem_append] at h
    rcases h with h | h
    · exact enc_noagg (e := a) h
    · exact enc_noagg (e := b) h
  | .arr k e, x, v, l, h => by
    simp only [Ty.enc, List.mem_flatMap] at h
    obtain ⟨y, _, h⟩ := h
    exact enc_noagg (e := e) h

theorem list_pick {α : Type} {p : Nat → α → Prop} : ∀ (n : Nat), (∀ k, k < n → ∃ x, p k x) → ∃ l : List α, l.length = n ∧ ∀ k x, l[k]? = some x → p k x
  | 0, _ => ⟨[], rfl, by simp⟩
  | n + 1, h => by
    obtain ⟨l, h1, h2⟩ := list_pick n (fun k hk => h k (by omega))
    obtain ⟨x, hx⟩ := h n (by omega)
    refine ⟨l ++ [x], by simp [h1], fun k y hy => ?_⟩
    by_cases hk : k < n
    · rw [List.getElem?_append_left (by omega)] at hy; exact h2 k y hy
    · rw [List.getElem?_append_right (by omega)] at hy
      cases hkk : k - l.length with
      | zero => rw [hkk] at hy; simp at hy; subst hy; have : k = n := by omega
                subst this; exact hx
      | succ j => rw [hkk] at hy; simp at hy

theorem read (T : Ty) : (∀ (fuel : Nat) (t : TypeId) (cs : List Value) d, (T.chk P).1 t = true → DataW.trod enc P w base spare held fuel t cs = some d → ∃ x : T.Sem, T.ok x ∧ RepCs (fun b => w.heap[b]?) T x cs) ∧
    (∀ (fuel : Nat) (F : List Field) (off : Nat) (cs : List Value), (T.chk P).2 F off = true → cs.length = off + T.n → (∀ (i : Nat) f, F[i]? = some f → ∃ d, DataW.trod enc P w base spare held fuel f.type ((cs.drop f.offset).take (P.cellsOf f.type)) = some d) →
      ∃ x : T.Sem, T.ok x ∧ RepCs (fun b => w.heap[b]?) T x (cs.drop off)) := by
  induction T with
  | int k =>
    refine ⟨?_, fun _ _ _ _ h => by simp [Ty.chk] at h⟩
    intro fuel t cs d hc h
    simp only [Ty.chk] at hc
    split at hc
    · rename_i k' ht
      simp at hc
      obtain ⟨rfl, _⟩ := hc
      cases fuel with
      | zero => simp [DataW.trod] at h
      | succ m =>
        rw [DataW.trod_step] at h
        unfold DataW.trodStep at h
        rw [ht] at h
        split at h
        all_goals simp_all
        rename_i k2 k3 n e1
        subst e1
        obtain ⟨⟨_, hn⟩, _⟩ := h
        simp [Lit.wf] at hn
        exact ⟨n, hn, .single rfl rfl (.int _ _) rfl⟩
    · cases hc
  | bool =>
    refine ⟨?_, fun _ _ _ _ h => by simp [Ty.chk] at h⟩
    intro fuel t cs d hc h
    simp only [Ty.chk] at hc
    split at hc
    · rename_i ht
      cases fuel with
      | zero => simp [DataW.trod] at h
      | succ m =>
        rw [DataW.trod_step] at h
        unfold DataW.trodStep at h
        rw [ht] at h
        split at h
        all_goals simp_all
        rename_i b
        cases b
        · exact .inl ⟨trivial, .single rfl rfl (.bool _) rfl⟩
        · exact .inr ⟨trivial, .single rfl rfl (.bool _) rfl⟩
    · cases hc
  | str =>
    refine ⟨?_, fun _ _ _ _ h => by simp [Ty.chk] at h⟩
    intro fuel t cs d hc h
    simp only [Ty.chk] at hc
    split at hc
    · rename_i ht
      cases fuel with
      | zero => simp [DataW.trod] at h
      | succ m =>
        rw [DataW.trod_step] at h
        unfold DataW.trodStep at h
        rw [ht] at h
        split at h
        all_goals simp_all
        rename_i s
        exact ⟨s, h.1, .single rfl rfl (.str _) rfl⟩
    · cases hc
  | sl e ih =>
    refine ⟨?_, fun _ _ _ _ h => by simp [Ty.chk] at h⟩
    intro fuel t cs d hc h
    simp only [Ty.chk] at hc
    split at hc
    · rename_i u ht
      simp at hc
      obtain ⟨⟨⟨hu, hn⟩, hpos⟩, hag⟩ := hc
      have hne : P.cellsOf u = e.n := chk_n e _ hu
      rcases Go.Deep.open_slice ht h with ⟨rfl, _⟩ | ⟨a, len, cap, m, fu, D, Pl, rfl, hb, hlc, hm, hmm, _, hi⟩
      · exact ⟨[], ⟨Nat.zero_le _, by simp⟩, .single rfl rfl (.list0 _ _ _) rfl⟩
      · have hlm : len ≤ m := by split at hmm <;> omega
        rw [hne] at hi
        obtain ⟨l, l1, l2⟩ := list_pick (p := fun i x => e.ok x ∧ ∃ cs', w.cells? base (a.add (i * e.n)) e.n = some cs' ∧ RepCs (fun b => w.heap[b]?) e x cs') len (fun i hil => by
          obtain ⟨cs', c1, c2⟩ := hi i (by omega)
          obtain ⟨x, x1, x2⟩ := ih.1 fu u cs' _ hu c2
          exact ⟨x, x1, cs', c1, x2⟩)
        refine ⟨l, ⟨by omega, fun x hx => ?_⟩, .single rfl rfl ?_ rfl⟩
        · obtain ⟨i, hi, rfl⟩ := List.getElem_of_mem hx
          exact (l2 i _ (List.getElem?_eq_getElem hi)).1
        · cases hl0 : l with
          | nil =>
            subst hl0
            have : len = 0 := by simpa using l1.symm
            subst this
            exact .list0 _ _ _
          | cons x0 l0 =>
            rw [← hl0]
            have hx0 : l[0]? = some x0 := by rw [hl0]; rfl
            obtain ⟨_, cs0, c1, r1⟩ := l2 0 x0 hx0
            obtain ⟨_, q1, q2⟩ := World.cells?_some c1
            have h0 := q2 0 hpos
            rw [Nat.zero_mul, Go.Deep.add_add] at h0
            have h0' : w.cell? a = some cs0[0] := by
              rw [← List.getElem?_eq_getElem (by omega)]
              simpa [Addr.add] using h0
            have hsp := World.cell?_spot h0'
            obtain ⟨b, off, sp⟩ := a
            simp only at hsp
            subst hsp
            obtain ⟨arr, te, fr, hbk⟩ : ∃ arr te fr, w.heap[b]? = some (.cells arr te fr) := by
              unfold World.cell? at h0'
              split at h0'
              · rename_i c te fr hh; exact ⟨c, te, fr, hh⟩
              · cases h0'
            have cellAt : ∀ i, w.cell? (Addr.add ⟨b, off, none⟩ i) = arr[off + i]? := by
              intro i
              by_cases h : i = 0
              · subst h; simp [Addr.add, World.cell?, hbk]
              · simp [Addr.add, World.cell?, hbk, h]
            have each : ∀ (i : Nat) (x : e.Sem), l[i]? = some x → ∃ cs' : List Value, RepCs (fun b => w.heap[b]?) e x cs' ∧ ∀ j, j < e.n → arr[off + (i * e.n + j)]? = cs'[j]? := by
              intro i x hx
              obtain ⟨_, cs', d1, d2⟩ := l2 i x hx
              obtain ⟨_, p1, p2⟩ := World.cells?_some d1
              refine ⟨cs', d2, fun j hj => ?_⟩
              rw [← cellAt, ← Go.Deep.add_add]
              exact p2 j hj
            have elc : ∀ (i : Nat) (x : e.Sem), l[i]? = some x → (e.el (e.enc x)).cells = e.enc x := by
              intro i x hx
              obtain ⟨cs', d, _⟩ := each i x hx
              exact el_cells (by simpa using hag) d.1 (fun v l' _ hv => enc_noagg (x := x) (by rw [hv]; simp))
            have hsz : ∀ y ∈ l.map (fun x => e.el (e.enc x)), y.cells.length = e.n := by
              intro y hy
              simp only [List.mem_map] at hy
              obtain ⟨x, hx, rfl⟩ := hy
              obtain ⟨i, hi, rfl⟩ := List.getElem_of_mem hx
              rw [elc i _ (List.getElem?_eq_getElem hi)]
              exact (each i _ (List.getElem?_eq_getElem hi)).choose_spec.1.1
            have all : ∀ (i : Nat) (v : AV), ((l.map (fun x => e.el (e.enc x))).flatMap AV.cells)[i]? = some v → ∃ c, arr[off + i]? = some c ∧ RepF (fun b => w.heap[b]?) v c ∧ c.oneCell' = true := by
              intro i v hv
              obtain ⟨y, y1, y2⟩ := flat_split hsz hv hpos
              rw [List.getElem?_map] at y1
              cases hq : l[i / e.n]? with
              | none => rw [hq] at y1; cases y1
              | some x =>
                rw [hq] at y1
                simp only [Option.map_some, Option.some.injEq] at y1
                subst y1
                obtain ⟨cs', d1, d2⟩ := each _ x hq
                rw [elc _ x hq] at y2
                have hj : i % e.n < e.n := Nat.mod_lt _ hpos
                have hjj : i % e.n < cs'.length := by rw [d1.2.1]; exact hj
                have hcs : cs'[i % e.n]? = some cs'[i % e.n] := List.getElem?_eq_getElem hjj
                have := d2 _ hj
                rw [hcs, Nat.mul_comm, Nat.div_add_mod] at this
                exact ⟨_, this, d1.2.2 _ _ _ y2 hcs⟩
            have hfl := flat_len hsz
            have hll : 0 < l.length := by rw [hl0]; simp
            have hfp : 0 < ((l.map (fun x => e.el (e.enc x))).flatMap AV.cells).length := by rw [hfl, List.length_map]; exact Nat.mul_pos hll hpos
            refine .list _ _ b off arr te fr len cap hbk (by rw [List.length_map, l1]) hlc hsz ?_ ?_ ?_
            · obtain ⟨c, hc', _⟩ := all _ _ (List.getElem?_eq_getElem (Nat.sub_lt hfp Nat.one_pos))
              have := (Array.getElem?_eq_some_iff.1 hc').1
              omega
            · intro i v c hv hc
              obtain ⟨c', k1, _, k3⟩ := all i v hv
              rw [hc] at k1; injection k1 with k1; subst k1; exact k3
            · intro i v c hv hc
              obtain ⟨c', k1, k2, _⟩ := all i v hv
              rw [hc] at k1; injection k1 with k1; subst k1; exact k2
    · cases hc
  | st fs ih =>
    refine ⟨?_, fun _ _ _ _ h => by simp [Ty.chk] at h⟩
    intro fuel t cs d hc h
    simp only [Ty.chk] at hc
    split at hc
    · rename_i F ht
      simp at hc
      obtain ⟨hF, hn⟩ := hc
      obtain ⟨xs, n, rfl, rfl, hl, hxl, hx⟩ := DataW.trod_struct ht h
      obtain ⟨x, h1, h2⟩ := ih.2 n F.toList 0 cs hF (by rw [hl, hn]; omega) (fun i f hf => by
        have hf' : F[i]? = some f := by simpa using hf
        have hlt : i < xs.length := by rw [hxl]; exact (Array.getElem?_eq_some_iff.1 hf').1
        rw [hx i f hf']
        exact ⟨_, List.getElem?_eq_getElem hlt⟩)
      exact ⟨x, h1, h2⟩
    · cases hc
  | one a ih =>
    refine ⟨fun _ _ _ _ h => by simp [Ty.chk] at h, ?_⟩
    intro fuel F off cs hc hl hf
    simp only [Ty.chk] at hc
    split at hc
    · rename_i f
      simp at hc
      obtain ⟨rfl, hc⟩ := hc
      obtain ⟨d, hd⟩ := hf 0 f rfl
      rw [chk_n a _ hc, List.take_of_length_le (by rw [List.length_drop, hl]; simp [Ty.n])] at hd
      exact ih.1 fuel f.type _ d hc hd
    · cases hc
  | cons a b iha ihb =>
    refine ⟨fun _ _ _ _ h => by simp [Ty.chk] at h, ?_⟩
    intro fuel F off cs hc hl hf
    simp only [Ty.chk] at hc
    split at hc
    · rename_i f r
      simp at hc
      obtain ⟨⟨rfl, hc⟩, hr⟩ := hc
      obtain ⟨d, hd⟩ := hf 0 f rfl
      rw [chk_n a _ hc] at hd
      obtain ⟨x, x1, x2⟩ := iha.1 fuel f.type _ d hc hd
      obtain ⟨y, y1, y2⟩ := ihb.2 fuel r _ cs hr (by rw [hl]; simp [Ty.n]; omega) (fun i g hg => hf (i + 1) g (by simpa using hg))
      refine ⟨(x, y), ⟨x1, y1⟩, ?_⟩
      have := x2.append y2
      rwa [show cs.drop (f.offset + a.n) = (cs.drop f.offset).drop a.n by rw [List.drop_drop], List.take_append_drop] at this
    · cases hc
  | arr k e ih =>
    refine ⟨?_, fun _ _ _ _ h => by simp [Ty.chk] at h⟩
    intro fuel t cs d hc h
    simp only [Ty.chk] at hc
    split at hc
    · rename_i k' u ht
      simp at hc
      obtain ⟨⟨rfl, hu⟩, hn⟩ := hc
      obtain ⟨xs, m, rfl, rfl, hl, hxl, hx⟩ := DataW.trod_array ht h
      obtain ⟨l, l1, l2⟩ := list_pick (p := fun i x => e.ok x ∧ RepCs (fun b => w.heap[b]?) e x ((cs.drop (i * e.n)).take e.n)) k (fun i hi => by
        have := hx i hi
        rw [List.getElem?_eq_getElem (by omega), chk_n e _ hu] at this
        exact ih.1 m u _ _ hu this)
      have key := RepCs.rows k cs l l1 (by rw [hl, hn]) (fun i x hi => (l2 i x hi).2)
      refine ⟨l, ⟨l1, fun x hx => ?_⟩, key.1, by rw [hl, hn]; rfl, key.2⟩
      obtain ⟨i, hi, rfl⟩ := List.getElem_of_mem hx
      exact (l2 i _ (List.getElem?_eq_getElem hi)).1
    · cases hc

/-- a value of a type that is open to an argument -/
theorem read_arg (T : Ty) {r : Reach} {b0 : Nat} {t : TypeId} {v : Value} {d : DataW H} {p : List MemPlace} (hc : (T.chk P).1 t = true) (hval : Value.okWide P w r b0 t v) (hd : DataW.Trod enc P w base spare held t v d p) :
    ∃ x : T.Sem, T.ok x ∧ RepF (fun b => w.heap[b]?) (T.el (T.enc x)) v := by
  obtain ⟨fuel, hf⟩ := hd
  obtain ⟨x, hx, h1, h2, h3⟩ := (read (enc := enc) (P := P) (w := w) (base := base) (spare := spare) (held := held) T).1 fuel t _ _ hc hf
  refine ⟨x, hx, ?_⟩
  have hn := chk_n T t hc
  have key : (T.isAgg = true ∧ ∃ cs, v = .agg cs) ∨ (T.isAgg = false ∧ T.n = 1 ∧ ∀ cs, v ≠ .agg cs) := by
    cases T <;> simp only [Ty.chk] at hc
    case one => cases hc
    case cons => cases hc
    all_goals split at hc
    all_goals first | (cases hc; done) | skip
    all_goals rename_i ht
    all_goals simp only [Value.okWide, ht, Cell.okWide] at hval
    all_goals first
      | (left; obtain ⟨cs, rfl, _⟩ := hval; exact ⟨rfl, cs, rfl⟩)
      | (right; refine ⟨rfl, rfl, ?_⟩; rintro cs rfl; simp [Cell.ok, ht] at hval)
  rcases key with ⟨ha, cs, rfl⟩ | ⟨ha, h1n, hv⟩
  · unfold Ty.el
    simp only [ha]
    refine .agg _ _ (by rw [h1, ← h2]; simp [Value.cells]) ?_ ?_
    · intro i c hc
      have hc' : (Value.cells (.agg cs)).toList[i]? = some c := by simpa [Value.cells] using hc
      have hlt : i < (T.enc x).length := by rw [h1, ← h2]; exact (List.getElem?_eq_some_iff.1 hc').1
      exact (h3 i _ c (List.getElem?_eq_getElem hlt) hc').2
    · intro i u c hu hc
      exact (h3 i u c hu (by simpa [Value.cells] using hc)).1
  · have hcs : v.cells = #[v] := by cases v <;> first | rfl | exact absurd rfl (hv _)
    rw [hcs] at h3
    match hm : T.enc x with
    | [] => rw [hm] at h1; rw [h1n] at h1; cases h1
    | u :: us =>
      have := (h3 0 u v (by rw [hm]; rfl) rfl).1
      unfold Ty.el
      rw [ha]; exact this
end
end Go.Proofs.Ytbmcjhjbifojnaa.Av
/- A law's call, out of its contract. -/
namespace Go.Proofs.Ytbmcjhjbifojnaa.Av
set_option linter.unusedVariables false
open Go.RowKit

theorem reps_nil {fz : Fz} : ∀ (i : Nat) v c, ([] : List AV)[i]? = some v → ([] : List Value)[i]? = some c → RepF fz v c := by simp
theorem reps_cons {fz : Fz} {v : AV} {c : Value} {l : List AV} {cs : List Value} (h : RepF fz v c) (k : ∀ (i : Nat) v c, l[i]? = some v → cs[i]? = some c → RepF fz v c) : ∀ (i : Nat) v' c', (v :: l)[i]? = some v' → (c :: cs)[i]? = some c' → RepF fz v' c' := by
  intro i v' c' hv hc
  cases i with
  | zero => simp at hv hc; subst hv hc; exact h
  | succ i => exact k i v' c' (by simpa using hv) (by simpa using hc)

theorem law_top {P : Program} {f : FuncId} {args : List AV} {cs : List Value} {W : World} {r : AV} (hC : Ctr P f args [] r []) (hl : args.length = cs.length) (h : ∀ (i : Nat) v c, args[i]? = some v → cs[i]? = some c → RepF (fun b => W.heap[b]?) v c) :
    Calls P f cs.toArray W fun e W' => (∃ v fz, e = .returned v ∧ Rep fz [] r v) ∧ Below W.heap.size W W' := by
  have S : Sim W (fun _ => none) (fun b => W.heap[b]?) [] [] W := by
    refine ⟨rfl, rfl, rfl, Nat.le_refl _, fun b o h => h, fun b o h => (nomatch h), fun b o h => rfl, rfl, fun k sz es h => (by rw [bxGet_nil] at h; cases h), fun k k' x y b n n' h => (by rw [bxGet_nil] at h; cases h)⟩
  refine (hC.2 W _ _ [] W cs.toArray S (by simpa using hl) (fun i v c hv hc => .frz (h i v c hv (by simpa using hc)))).mono ?_
  rintro e W' ⟨cv, fz', pl', rfl, hle, hpl, hrep, S'⟩
  have hpl' : pl' = [] := List.eq_nil_of_length_eq_zero (by rw [S'.len]; rfl)
  subst hpl'
  refine ⟨⟨cv, fz', rfl, hrep⟩, S'.os, S'.tape, S'.output, S'.size, fun k hk => ?_⟩
  have : W.heap[k]? = some W.heap[k] := Array.getElem?_eq_getElem hk
  rw [this]
  exact S'.frz _ _ (hle _ _ this)
theorem law_true {P : Program} {f : FuncId} {args : List AV} {cs : List Value} {W : World} (hC : Ctr P f args [] (.bool true) []) (hl : args.length = cs.length) (h : ∀ (i : Nat) v c, args[i]? = some v → cs[i]? = some c → RepF (fun b => W.heap[b]?) v c) :
    Calls P f cs.toArray W fun e W' => e = .returned (.bool true) ∧ Below W.heap.size W W' := by
  refine (law_top hC hl h).mono ?_
  rintro e W' ⟨⟨v, fz, rfl, hr⟩, hb⟩
  rw [hr.inv_bool]
  exact ⟨rfl, hb⟩
end Go.Proofs.Ytbmcjhjbifojnaa.Av
/- The rules of a walk, in one. -/
namespace Go.Proofs.Ytbmcjhjbifojnaa.Av
set_option maxRecDepth 100000
theorem sm : (((((((((type_of% @w_skip) ∧ (type_of% @w_region)) ∧ ((type_of% @w_seq) ∧ (type_of% @w_cond))) ∧ (((type_of% @w_block) ∧ (type_of% @w_loop)) ∧ ((type_of% @w_exit) ∧ (type_of% @w_ret)))) ∧ ((((type_of% @w_nil) ∧ (type_of% @w_cons)) ∧ ((type_of% @q_normal) ∧ (type_of% @q_exit))) ∧ (((type_of% @q_ret) ∧ (type_of% @b_normal)) ∧ ((type_of% @b_exit) ∧ (type_of% @b_ret))))) ∧ (((((type_of% @f_normal) ∧ (type_of% @f_ret)) ∧ ((type_of% @g_normal) ∧ (type_of% @g_ret))) ∧ (((type_of% @r_int) ∧ (type_of% @r_bool)) ∧ ((type_of% @r_str) ∧ (type_of% @r_any)))) ∧ ((((type_of% @r_nils) ∧ (type_of% @r_nilp)) ∧ ((type_of% @r_nilf) ∧ (type_of% @r_fn))) ∧ (((type_of% @r_agg) ∧ (type_of% @r_tuple)) ∧ ((type_of% @r_list) ∧ ((type_of% @r_rptr) ∧ (type_of% @r_ptr))))))) ∧ ((((((type_of% @r_sl) ∧ (type_of% @AOp.map.eq_1)) ∧ ((type_of% @AOp.map.eq_2) ∧ (type_of% @AOp.map.eq_3))) ∧ (((type_of% @AOp.map.eq_4) ∧ (type_of% @AOp.map.eq_5)) ∧ ((type_of% @AOp.map.eq_6) ∧ (type_of% @AOp.map.eq_7)))) ∧ ((((type_of% @AOp.map.eq_8) ∧ (type_of% @AOp.map.eq_9)) ∧ ((type_of% @AOp.map.eq_10) ∧ (type_of% @AOp.map.eq_11))) ∧ (((type_of% @AOp.map.eq_12) ∧ (type_of% @AOp.map.eq_13)) ∧ ((type_of% @AOp.map.eq_14) ∧ ((type_of% @AOp.map.eq_15) ∧ (type_of% @AOp.map.eq_16)))))) ∧ (((((type_of% @AOp.map.eq_17) ∧ (type_of% @AOp.map.eq_18)) ∧ ((type_of% @AOp.map.eq_19) ∧ (type_of% @AOp.map.eq_20))) ∧ (((type_of% @AOp.map.eq_21) ∧ (type_of% @AOp.map.eq_22)) ∧ ((type_of% @AOp.map.eq_23) ∧ (type_of% @AOp.map.eq_24)))) ∧ ((((type_of% @AOp.map.eq_25) ∧ (type_of% @AOp.map.eq_26)) ∧ ((type_of% @AOp.map.eq_27) ∧ (type_of% @AOp.map.eq_28))) ∧ (((type_of% @AOp.map.eq_29) ∧ (type_of% @AOp.map.eq_30)) ∧ ((type_of% @AOp.map.eq_31) ∧ ((type_of% @AOp.map.eq_32) ∧ (type_of% @AOp.map.eq_33)))))))) ∧ (((((((type_of% @AOp.map.eq_34) ∧ (type_of% @t_get0)) ∧ ((type_of% @t_set0) ∧ (type_of% @t_get1))) ∧ (((type_of% @t_set1) ∧ (type_of% @t_get2)) ∧ ((type_of% @t_set2) ∧ (type_of% @t_get3)))) ∧ ((((type_of% @t_set3) ∧ (type_of% @t_get4)) ∧ ((type_of% @t_set4) ∧ (type_of% @t_get5))) ∧ (((type_of% @t_set5) ∧ (type_of% @t_get6)) ∧ ((type_of% @t_set6) ∧ (type_of% @t_get7))))) ∧ (((((type_of% @t_set7) ∧ (type_of% @t_get8)) ∧ ((type_of% @t_set8) ∧ (type_of% @t_put))) ∧ (((type_of% @t_put0) ∧ (type_of% @t_tmp)) ∧ ((type_of% @t_val) ∧ (type_of% @bxGet.eq_1)))) ∧ ((((type_of% @bxGet.eq_2) ∧ (type_of% @bxGet.eq_3)) ∧ ((type_of% @bxSet.eq_1) ∧ (type_of% @bxSet.eq_2))) ∧ (((type_of% @bxSet.eq_3) ∧ (type_of% @bxKill.eq_1)) ∧ ((type_of% @bxKill.eq_2) ∧ ((type_of% @List.map_cons.{0,0}) ∧ (type_of% @List.map_nil.{0,0}))))))) ∧ ((((((type_of% @List.length_cons.{0}) ∧ (type_of% @List.length_nil.{0})) ∧ ((type_of% @List.cons_append.{0}) ∧ (type_of% @List.nil_append.{0}))) ∧ (((type_of% @List.append_nil.{0}) ∧ (type_of% @List.drop_succ_cons.{0})) ∧ ((type_of% @List.drop_zero.{0}) ∧ (type_of% @List.take_succ_cons.{0})))) ∧ ((((type_of% @List.take_zero.{0}) ∧ (type_of% @List.head?_cons.{0})) ∧ ((type_of% @List.getElem?_cons_zero.{0}) ∧ (type_of% @List.getElem?_cons_succ.{0}))) ∧ (((type_of% @List.set_cons_zero.{0}) ∧ (type_of% @List.set_cons_succ.{0})) ∧ ((type_of% @List.replicate.eq_1.{0}) ∧ ((type_of% @List.replicate.eq_2.{0}) ∧ (type_of% @List.length_append.{0})))))) ∧ (((((type_of% @decide_true) ∧ (type_of% @decide_false)) ∧ ((type_of% @decide_eq_true_eq) ∧ (type_of% @decide_eq_false_iff_not))) ∧ (((type_of% @Bool.and_true) ∧ (type_of% @Bool.true_and)) ∧ ((type_of% @Bool.and_false) ∧ (type_of% @Bool.false_and)))) ∧ ((((type_of% @Bool.not_true) ∧ (type_of% @Bool.not_false)) ∧ ((type_of% @Bool.xor_false) ∧ (type_of% @Bool.false_xor))) ∧ (((type_of% @Bool.true_xor) ∧ (type_of% @Bool.xor_true)) ∧ ((type_of% @Nat.add_zero) ∧ ((type_of% @Nat.zero_add) ∧ (type_of% @om_I))))))))) ∧ ((((((((type_of% @om_Rg) ∧ (type_of% @om_Rgs)) ∧ ((type_of% @om_Is) ∧ (type_of% @om_Con))) ∧ (((type_of% @flatL_eCon) ∧ (type_of% @flatL_eIs)) ∧ ((type_of% @om_agg) ∧ (type_of% @snoc_I)))) ∧ ((((type_of% @snoc_Rg) ∧ (type_of% @snoc_Rgs)) ∧ ((type_of% @snoc_Is) ∧ (type_of% @app_I))) ∧ (((type_of% @app_Rg) ∧ (type_of% @app_Rgs)) ∧ ((type_of% @take_map) ∧ (type_of% @Option.map_none.{0,0}))))) ∧ (((((type_of% @ne_eq.{1}) ∧ (type_of% @not_true_eq_false)) ∧ ((type_of% @not_false_eq_true) ∧ (type_of% @true_implies))) ∧ (((type_of% @forall_const.{0}) ∧ (type_of% @forall_const.{1})) ∧ ((type_of% @if_true.{1}) ∧ (type_of% @if_false.{1})))) ∧ ((((type_of% @and_true) ∧ (type_of% @true_and)) ∧ ((type_of% @view_eq) ∧ (type_of% @wk_int))) ∧ (((type_of% @wk_bool) ∧ (type_of% @wk_str)) ∧ ((type_of% @wk_any) ∧ ((type_of% @wk_list) ∧ (type_of% @wk_list_nils))))))) ∧ ((((((type_of% @wk_nils) ∧ (type_of% @wk_agg)) ∧ ((type_of% @wk_tuple) ∧ (type_of% @wk_same))) ∧ (((type_of% @wkL_same) ∧ (type_of% @wkEs_same)) ∧ ((type_of% @wkL_nil) ∧ (type_of% @wkL_cons)))) ∧ ((((type_of% @wk_ptr) ∧ (type_of% @wk_sl)) ∧ ((type_of% @wk_nilp) ∧ (type_of% @wk_rptr))) ∧ (((type_of% @wk_fn) ∧ (type_of% @wk_nilf)) ∧ ((type_of% @flat_any) ∧ ((type_of% @flat_int) ∧ (type_of% @flat_bool)))))) ∧ (((((type_of% @flat_str) ∧ (type_of% @flat_nils)) ∧ ((type_of% @flat_nilp) ∧ (type_of% @flat_nilf))) ∧ (((type_of% @flat_list) ∧ (type_of% @flat_rptr)) ∧ ((type_of% @flat_ptr) ∧ (type_of% @flat_sl)))) ∧ ((((type_of% @flat_agg) ∧ (type_of% @flat_tuple)) ∧ ((type_of% @flat_fn) ∧ (type_of% @flatL_nil))) ∧ (((type_of% @flatL_cons) ∧ (type_of% @false_implies)) ∧ ((type_of% @Bool.true_eq_false) ∧ ((type_of% @Bool.false_eq_true) ∧ (type_of% @implies_true.{0})))))))) ∧ (((((((type_of% @implies_true.{1}) ∧ (type_of% @and_self)) ∧ ((type_of% @and_false) ∧ (type_of% @false_and))) ∧ (((type_of% @AV.bool.injEq) ∧ (type_of% @AV.int.injEq)) ∧ ((type_of% @AV.agg.injEq) ∧ (type_of% @AV.tuple.injEq)))) ∧ ((((type_of% @List.cons.injEq.{0}) ∧ (type_of% @Int.toNat_natCast)) ∧ ((type_of% @Int.toNat_zero) ∧ (type_of% @List.getElem?_map.{0,0}))) ∧ (((type_of% @List.length_map.{0,0}) ∧ (type_of% @tm.eq_1)) ∧ ((type_of% @List.foldl_cons.{0,0}) ∧ ((type_of% @List.foldl_nil.{0,0}) ∧ (type_of% @List.all_nil.{0})))))) ∧ (((((type_of% @List.all_cons.{0}) ∧ (type_of% @Int.natCast_nonneg)) ∧ ((type_of% @getN.eq_1) ∧ (type_of% @getN.eq_2))) ∧ (((type_of% @getN.eq_3) ∧ (type_of% @reB.eq_1)) ∧ ((type_of% @reB.eq_2) ∧ (type_of% @hol.eq_1)))) ∧ ((((type_of% @hol.eq_2) ∧ (type_of% @wkN_sl)) ∧ ((type_of% @wkN_nil) ∧ (type_of% @wkN_list))) ∧ (((type_of% @wkN_tuple) ∧ (type_of% @wkN_int)) ∧ ((type_of% @wkN_bool) ∧ ((type_of% @wkN_agg) ∧ (type_of% @wkN_ptr))))))) ∧ ((((((type_of% @wkN_nils) ∧ (type_of% @mg_cons)) ∧ ((type_of% @mg_nil) ∧ (type_of% @mg_nil2))) ∧ (((type_of% @nn_cons) ∧ (type_of% @nn_nil)) ∧ ((type_of% @nn_nils) ∧ (type_of% @om_ev)))) ∧ ((((type_of% @Nat.le_refl) ∧ (type_of% @newIx.eq_1)) ∧ ((type_of% @newIx.eq_2) ∧ (type_of% @okBx.eq_1))) ∧ (((type_of% @okBx.eq_2) ∧ (type_of% @okBx.eq_3)) ∧ ((type_of% @virtE.eq_1) ∧ ((type_of% @virtE.eq_2) ∧ (type_of% @virtF.eq_1)))))) ∧ (((((type_of% @virtF.eq_2) ∧ (type_of% @isNb.eq_1)) ∧ ((type_of% @isNb.eq_2) ∧ (type_of% @virtFok.eq_1))) ∧ (((type_of% @virtFok.eq_2) ∧ (type_of% @virtL.eq_1)) ∧ ((type_of% @virtL.eq_2) ∧ (type_of% @virtB.eq_1)))) ∧ ((((type_of% @virtB.eq_2) ∧ (type_of% @virtOk.eq_1)) ∧ ((type_of% @virtOk.eq_2) ∧ (type_of% @isN.eq_1))) ∧ (((type_of% @isN.eq_2) ∧ (type_of% @flatL_eI)) ∧ ((type_of% @flatL_eRg) ∧ ((type_of% @flatL_eRgs) ∧ (type_of% @List.range_zero)))))))))) := ⟨⟨⟨⟨⟨⟨⟨⟨@w_skip, @w_region⟩, ⟨@w_seq, @w_cond⟩⟩, ⟨⟨@w_block, @w_loop⟩, ⟨@w_exit, @w_ret⟩⟩⟩, ⟨⟨⟨@w_nil, @w_cons⟩, ⟨@q_normal, @q_exit⟩⟩, ⟨⟨@q_ret, @b_normal⟩, ⟨@b_exit, @b_ret⟩⟩⟩⟩, ⟨⟨⟨⟨@f_normal, @f_ret⟩, ⟨@g_normal, @g_ret⟩⟩, ⟨⟨@r_int, @r_bool⟩, ⟨@r_str, @r_any⟩⟩⟩, ⟨⟨⟨@r_nils, @r_nilp⟩, ⟨@r_nilf, @r_fn⟩⟩, ⟨⟨@r_agg, @r_tuple⟩, ⟨@r_list, ⟨@r_rptr, @r_ptr⟩⟩⟩⟩⟩⟩, ⟨⟨⟨⟨⟨@r_sl, @AOp.map.eq_1⟩, ⟨@AOp.map.eq_2, @AOp.map.eq_3⟩⟩, ⟨⟨@AOp.map.eq_4, @AOp.map.eq_5⟩, ⟨@AOp.map.eq_6, @AOp.map.eq_7⟩⟩⟩, ⟨⟨⟨@AOp.map.eq_8, @AOp.map.eq_9⟩, ⟨@AOp.map.eq_10, @AOp.map.eq_11⟩⟩, ⟨⟨@AOp.map.eq_12, @AOp.map.eq_13⟩, ⟨@AOp.map.eq_14, ⟨@AOp.map.eq_15, @AOp.map.eq_16⟩⟩⟩⟩⟩, ⟨⟨⟨⟨@AOp.map.eq_17, @AOp.map.eq_18⟩, ⟨@AOp.map.eq_19, @AOp.map.eq_20⟩⟩, ⟨⟨@AOp.map.eq_21, @AOp.map.eq_22⟩, ⟨@AOp.map.eq_23, @AOp.map.eq_24⟩⟩⟩, ⟨⟨⟨@AOp.map.eq_25, @AOp.map.eq_26⟩, ⟨@AOp.map.eq_27, @AOp.map.eq_28⟩⟩, ⟨⟨@AOp.map.eq_29, @AOp.map.eq_30⟩, ⟨@AOp.map.eq_31, ⟨@AOp.map.eq_32, @AOp.map.eq_33⟩⟩⟩⟩⟩⟩⟩, ⟨⟨⟨⟨⟨⟨@AOp.map.eq_34, @t_get0⟩, ⟨@t_set0, @t_get1⟩⟩, ⟨⟨@t_set1, @t_get2⟩, ⟨@t_set2, @t_get3⟩⟩⟩, ⟨⟨⟨@t_set3, @t_get4⟩, ⟨@t_set4, @t_get5⟩⟩, ⟨⟨@t_set5, @t_get6⟩, ⟨@t_set6, @t_get7⟩⟩⟩⟩, ⟨⟨⟨⟨@t_set7, @t_get8⟩, ⟨@t_set8, @t_put⟩⟩, ⟨⟨@t_put0, @t_tmp⟩, ⟨@t_val, @bxGet.eq_1⟩⟩⟩, ⟨⟨⟨@bxGet.eq_2, @bxGet.eq_3⟩, ⟨@bxSet.eq_1, @bxSet.eq_2⟩⟩, ⟨⟨@bxSet.eq_3, @bxKill.eq_1⟩, ⟨@bxKill.eq_2, ⟨@List.map_cons.{0,0}, @List.map_nil.{0,0}⟩⟩⟩⟩⟩⟩, ⟨⟨⟨⟨⟨@List.length_cons.{0}, @List.length_nil.{0}⟩, ⟨@List.cons_append.{0}, @List.nil_append.{0}⟩⟩, ⟨⟨@List.append_nil.{0}, @List.drop_succ_cons.{0}⟩, ⟨@List.drop_zero.{0}, @List.take_succ_cons.{0}⟩⟩⟩, ⟨⟨⟨@List.take_zero.{0}, @List.head?_cons.{0}⟩, ⟨@List.getElem?_cons_zero.{0}, @List.getElem?_cons_succ.{0}⟩⟩, ⟨⟨@List.set_cons_zero.{0}, @List.set_cons_succ.{0}⟩, ⟨@List.replicate.eq_1.{0}, ⟨@List.replicate.eq_2.{0}, @List.length_append.{0}⟩⟩⟩⟩⟩, ⟨⟨⟨⟨@decide_true, @decide_false⟩, ⟨@decide_eq_true_eq, @decide_eq_false_iff_not⟩⟩, ⟨⟨@Bool.and_true, @Bool.true_and⟩, ⟨@Bool.and_false, @Bool.false_and⟩⟩⟩, ⟨⟨⟨@Bool.not_true, @Bool.not_false⟩, ⟨@Bool.xor_false, @Bool.false_xor⟩⟩, ⟨⟨@Bool.true_xor, @Bool.xor_true⟩, ⟨@Nat.add_zero, ⟨@Nat.zero_add, @om_I⟩⟩⟩⟩⟩⟩⟩⟩, ⟨⟨⟨⟨⟨⟨⟨@om_Rg, @om_Rgs⟩, ⟨@om_Is, @om_Con⟩⟩, ⟨⟨@flatL_eCon, @flatL_eIs⟩, ⟨@om_agg, @snoc_I⟩⟩⟩, ⟨⟨⟨@snoc_Rg, @snoc_Rgs⟩, ⟨@snoc_Is, @app_I⟩⟩, ⟨⟨@app_Rg, @app_Rgs⟩, ⟨@take_map, @Option.map_none.{0,0}⟩⟩⟩⟩, ⟨⟨⟨⟨@ne_eq.{1}, @not_true_eq_false⟩, ⟨@not_false_eq_true, @true_implies⟩⟩, ⟨⟨@forall_const.{0}, @forall_const.{1}⟩, ⟨@if_true.{1}, @if_false.{1}⟩⟩⟩, ⟨⟨⟨@and_true, @true_and⟩, ⟨@view_eq, @wk_int⟩⟩, ⟨⟨@wk_bool, @wk_str⟩, ⟨@wk_any, ⟨@wk_list, @wk_list_nils⟩⟩⟩⟩⟩⟩, ⟨⟨⟨⟨⟨@wk_nils, @wk_agg⟩, ⟨@wk_tuple, @wk_same⟩⟩, ⟨⟨@wkL_same, @wkEs_same⟩, ⟨@wkL_nil, @wkL_cons⟩⟩⟩, ⟨⟨⟨@wk_ptr, @wk_sl⟩, ⟨@wk_nilp, @wk_rptr⟩⟩, ⟨⟨@wk_fn, @wk_nilf⟩, ⟨@flat_any, ⟨@flat_int, @flat_bool⟩⟩⟩⟩⟩, ⟨⟨⟨⟨@flat_str, @flat_nils⟩, ⟨@flat_nilp, @flat_nilf⟩⟩, ⟨⟨@flat_list, @flat_rptr⟩, ⟨@flat_ptr, @flat_sl⟩⟩⟩, ⟨⟨⟨@flat_agg, @flat_tuple⟩, ⟨@flat_fn, @flatL_nil⟩⟩, ⟨⟨@flatL_cons, @false_implies⟩, ⟨@Bool.true_eq_false, ⟨@Bool.false_eq_true, @implies_true.{0}⟩⟩⟩⟩⟩⟩⟩, ⟨⟨⟨⟨⟨⟨@implies_true.{1}, @and_self⟩, ⟨@and_false, @false_and⟩⟩, ⟨⟨@AV.bool.injEq, @AV.int.injEq⟩, ⟨@AV.agg.injEq, @AV.tuple.injEq⟩⟩⟩, ⟨⟨⟨@List.cons.injEq.{0}, @Int.toNat_natCast⟩, ⟨@Int.toNat_zero, @List.getElem?_map.{0,0}⟩⟩, ⟨⟨@List.length_map.{0,0}, @tm.eq_1⟩, ⟨@List.foldl_cons.{0,0}, ⟨@List.foldl_nil.{0,0}, @List.all_nil.{0}⟩⟩⟩⟩⟩, ⟨⟨⟨⟨@List.all_cons.{0}, @Int.natCast_nonneg⟩, ⟨@getN.eq_1, @getN.eq_2⟩⟩, ⟨⟨@getN.eq_3, @reB.eq_1⟩, ⟨@reB.eq_2, @hol.eq_1⟩⟩⟩, ⟨⟨⟨@hol.eq_2, @wkN_sl⟩, ⟨@wkN_nil, @wkN_list⟩⟩, ⟨⟨@wkN_tuple, @wkN_int⟩, ⟨@wkN_bool, ⟨@wkN_agg, @wkN_ptr⟩⟩⟩⟩⟩⟩, ⟨⟨⟨⟨⟨@wkN_nils, @mg_cons⟩, ⟨@mg_nil, @mg_nil2⟩⟩, ⟨⟨@nn_cons, @nn_nil⟩, ⟨@nn_nils, @om_ev⟩⟩⟩, ⟨⟨⟨@Nat.le_refl, @newIx.eq_1⟩, ⟨@newIx.eq_2, @okBx.eq_1⟩⟩, ⟨⟨@okBx.eq_2, @okBx.eq_3⟩, ⟨@virtE.eq_1, ⟨@virtE.eq_2, @virtF.eq_1⟩⟩⟩⟩⟩, ⟨⟨⟨⟨@virtF.eq_2, @isNb.eq_1⟩, ⟨@isNb.eq_2, @virtFok.eq_1⟩⟩, ⟨⟨@virtFok.eq_2, @virtL.eq_1⟩, ⟨@virtL.eq_2, @virtB.eq_1⟩⟩⟩, ⟨⟨⟨@virtB.eq_2, @virtOk.eq_1⟩, ⟨@virtOk.eq_2, @isN.eq_1⟩⟩, ⟨⟨@isN.eq_2, @flatL_eI⟩, ⟨@flatL_eRg, ⟨@flatL_eRgs, @List.range_zero⟩⟩⟩⟩⟩⟩⟩⟩⟩
end Go.Proofs.Ytbmcjhjbifojnaa.Av
/- What the parts of a walk are, in one. -/
namespace Go.Proofs.Ytbmcjhjbifojnaa.Av
set_option maxRecDepth 100000
theorem n_AV_cells_any : AV.cells (AV.any) = [(AV.any)] := rfl
theorem n_AV_cells_int (k : IntKind) (n : Int) : AV.cells (AV.int k n) = [(AV.int k n)] := rfl
theorem n_AV_cells_bool (b : Bool) : AV.cells (AV.bool b) = [(AV.bool b)] := rfl
theorem n_AV_cells_str (s : ByteArray) : AV.cells (AV.str s) = [(AV.str s)] := rfl
theorem n_AV_cells_nils : AV.cells (AV.nils) = [(AV.nils)] := rfl
theorem n_AV_cells_nilp : AV.cells (AV.nilp) = [(AV.nilp)] := rfl
theorem n_AV_cells_nilf : AV.cells (AV.nilf) = [(AV.nilf)] := rfl
theorem n_AV_cells_fn (f : Fn) (l : List AV) : AV.cells (AV.fn f l) = [(AV.fn f l)] := rfl
theorem n_AV_cells_tuple (l : List AV) : AV.cells (AV.tuple l) = [(AV.tuple l)] := rfl
theorem n_AV_cells_list (sz : Nat) (l : List AV) : AV.cells (AV.list sz l) = [(AV.list sz l)] := rfl
theorem n_AV_cells_rptr (l : List AV) : AV.cells (AV.rptr l) = [(AV.rptr l)] := rfl
theorem n_AV_cells_ptr (sz k i off : Nat) : AV.cells (AV.ptr sz k i off) = [(AV.ptr sz k i off)] := rfl
theorem n_AV_cells_sl (sz k off len : Nat) : AV.cells (AV.sl sz k off len) = [(AV.sl sz k off len)] := rfl
theorem n_AV_okSt_int (k : IntKind) (n : Int) : AV.okSt (AV.int k n) = true := rfl
theorem n_AV_okSt_bool (b : Bool) : AV.okSt (AV.bool b) = true := rfl
theorem n_AV_okSt_str (s : ByteArray) : AV.okSt (AV.str s) = true := rfl
theorem n_AV_okSt_nils : AV.okSt (AV.nils) = true := rfl
theorem n_AV_okSt_nilp : AV.okSt (AV.nilp) = true := rfl
theorem n_AV_okSt_nilf : AV.okSt (AV.nilf) = true := rfl
theorem n_AV_okSt_fn (f : Fn) (l : List AV) : AV.okSt (AV.fn f l) = true := rfl
theorem n_AV_okSt_agg (l : List AV) : AV.okSt (AV.agg l) = true := rfl
theorem n_AV_okSt_list (sz : Nat) (l : List AV) : AV.okSt (AV.list sz l) = true := rfl
theorem n_AV_okSt_rptr (l : List AV) : AV.okSt (AV.rptr l) = true := rfl
theorem n_AV_okSt_ptr (sz k i off : Nat) : AV.okSt (AV.ptr sz k i off) = true := rfl
theorem n_AV_okSt_sl (sz k off len : Nat) : AV.okSt (AV.sl sz k off len) = true := rfl
theorem n_AV_isInt_any : AV.isInt (AV.any) = false := rfl
theorem n_AV_isInt_bool (b : Bool) : AV.isInt (AV.bool b) = false := rfl
theorem n_AV_isInt_str (s : ByteArray) : AV.isInt (AV.str s) = false := rfl
theorem n_AV_isInt_nils : AV.isInt (AV.nils) = false := rfl
theorem n_AV_isInt_nilp : AV.isInt (AV.nilp) = false := rfl
theorem n_AV_isInt_nilf : AV.isInt (AV.nilf) = false := rfl
theorem n_AV_isInt_fn (f : Fn) (l : List AV) : AV.isInt (AV.fn f l) = false := rfl
theorem n_AV_isInt_agg (l : List AV) : AV.isInt (AV.agg l) = false := rfl
theorem n_AV_isInt_tuple (l : List AV) : AV.isInt (AV.tuple l) = false := rfl
theorem n_AV_isInt_list (sz : Nat) (l : List AV) : AV.isInt (AV.list sz l) = false := rfl
theorem n_AV_isInt_rptr (l : List AV) : AV.isInt (AV.rptr l) = false := rfl
theorem n_AV_isInt_ptr (sz k i off : Nat) : AV.isInt (AV.ptr sz k i off) = false := rfl
theorem n_AV_isInt_sl (sz k off len : Nat) : AV.isInt (AV.sl sz k off len) = false := rfl
theorem n_AV_isSl_any : AV.isSl (AV.any) = false := rfl
theorem n_AV_isSl_int (k : IntKind) (n : Int) : AV.isSl (AV.int k n) = false := rfl
theorem n_AV_isSl_bool (b : Bool) : AV.isSl (AV.bool b) = false := rfl
theorem n_AV_isSl_str (s : ByteArray) : AV.isSl (AV.str s) = false := rfl
theorem n_AV_isSl_nilp : AV.isSl (AV.nilp) = false := rfl
theorem n_AV_isSl_nilf : AV.isSl (AV.nilf) = false := rfl
theorem n_AV_isSl_fn (f : Fn) (l : List AV) : AV.isSl (AV.fn f l) = false := rfl
theorem n_AV_isSl_agg (l : List AV) : AV.isSl (AV.agg l) = false := rfl
theorem n_AV_isSl_tuple (l : List AV) : AV.isSl (AV.tuple l) = false := rfl
theorem n_AV_isSl_rptr (l : List AV) : AV.isSl (AV.rptr l) = false := rfl
theorem n_AV_isSl_ptr (sz k i off : Nat) : AV.isSl (AV.ptr sz k i off) = false := rfl
theorem n_AV_natOf_any : AV.natOf (AV.any) = none := rfl
theorem n_AV_natOf_bool (b : Bool) : AV.natOf (AV.bool b) = none := rfl
theorem n_AV_natOf_str (s : ByteArray) : AV.natOf (AV.str s) = none := rfl
theorem n_AV_natOf_nils : AV.natOf (AV.nils) = none := rfl
theorem n_AV_natOf_nilp : AV.natOf (AV.nilp) = none := rfl
theorem n_AV_natOf_nilf : AV.natOf (AV.nilf) = none := rfl
theorem n_AV_natOf_fn (f : Fn) (l : List AV) : AV.natOf (AV.fn f l) = none := rfl
theorem n_AV_natOf_agg (l : List AV) : AV.natOf (AV.agg l) = none := rfl
theorem n_AV_natOf_tuple (l : List AV) : AV.natOf (AV.tuple l) = none := rfl
theorem n_AV_natOf_list (sz : Nat) (l : List AV) : AV.natOf (AV.list sz l) = none := rfl
theorem n_AV_natOf_rptr (l : List AV) : AV.natOf (AV.rptr l) = none := rfl
theorem n_AV_natOf_ptr (sz k i off : Nat) : AV.natOf (AV.ptr sz k i off) = none := rfl
theorem n_AV_natOf_sl (sz k off len : Nat) : AV.natOf (AV.sl sz k off len) = none := rfl
theorem n_okL_any (m : Nat) : okL m (AV.any) = AV.flat (AV.any) := rfl
theorem n_okL_int (m : Nat) (k : IntKind) (n : Int) : okL m (AV.int k n) = AV.flat (AV.int k n) := rfl
theorem n_okL_bool (m : Nat) (b : Bool) : okL m (AV.bool b) = AV.flat (AV.bool b) := rfl
theorem n_okL_str (m : Nat) (s : ByteArray) : okL m (AV.str s) = AV.flat (AV.str s) := rfl
theorem n_okL_nils (m : Nat) : okL m (AV.nils) = AV.flat (AV.nils) := rfl
theorem n_okL_nilp (m : Nat) : okL m (AV.nilp) = AV.flat (AV.nilp) := rfl
theorem n_okL_nilf (m : Nat) : okL m (AV.nilf) = AV.flat (AV.nilf) := rfl
theorem n_okL_fn (m : Nat) (f : Fn) (l : List AV) : okL m (AV.fn f l) = AV.flat (AV.fn f l) := rfl
theorem n_okL_agg (m : Nat) (l : List AV) : okL m (AV.agg l) = AV.flat (AV.agg l) := rfl
theorem n_okL_tuple (m : Nat) (l : List AV) : okL m (AV.tuple l) = AV.flat (AV.tuple l) := rfl
theorem n_okL_list (m : Nat) (sz : Nat) (l : List AV) : okL m (AV.list sz l) = AV.flat (AV.list sz l) := rfl
theorem n_okL_rptr (m : Nat) (l : List AV) : okL m (AV.rptr l) = AV.flat (AV.rptr l) := rfl
theorem n_okC_any (m : Nat) : okC m (AV.any) = okL m (AV.any) := rfl
theorem n_okC_int (m : Nat) (k : IntKind) (n : Int) : okC m (AV.int k n) = okL m (AV.int k n) := rfl
theorem n_okC_bool (m : Nat) (b : Bool) : okC m (AV.bool b) = okL m (AV.bool b) := rfl
theorem n_okC_str (m : Nat) (s : ByteArray) : okC m (AV.str s) = okL m (AV.str s) := rfl
theorem n_okC_nils (m : Nat) : okC m (AV.nils) = okL m (AV.nils) := rfl
theorem n_okC_nilp (m : Nat) : okC m (AV.nilp) = okL m (AV.nilp) := rfl
theorem n_okC_nilf (m : Nat) : okC m (AV.nilf) = okL m (AV.nilf) := rfl
theorem n_okC_fn (m : Nat) (f : Fn) (l : List AV) : okC m (AV.fn f l) = okL m (AV.fn f l) := rfl
theorem n_okC_tuple (m : Nat) (l : List AV) : okC m (AV.tuple l) = okL m (AV.tuple l) := rfl
theorem n_okC_list (m : Nat) (sz : Nat) (l : List AV) : okC m (AV.list sz l) = okL m (AV.list sz l) := rfl
theorem n_okC_rptr (m : Nat) (l : List AV) : okC m (AV.rptr l) = okL m (AV.rptr l) := rfl
theorem n_okC_ptr (m : Nat) (sz k i off : Nat) : okC m (AV.ptr sz k i off) = okL m (AV.ptr sz k i off) := rfl
theorem n_okC_sl (m : Nat) (sz k off len : Nat) : okC m (AV.sl sz k off len) = okL m (AV.sl sz k off len) := rfl
theorem n_okR_any (m : Nat) : okR m (AV.any) = okC m (AV.any) := rfl
theorem n_okR_int (m : Nat) (k : IntKind) (n : Int) : okR m (AV.int k n) = okC m (AV.int k n) := rfl
theorem n_okR_bool (m : Nat) (b : Bool) : okR m (AV.bool b) = okC m (AV.bool b) := rfl
theorem n_okR_str (m : Nat) (s : ByteArray) : okR m (AV.str s) = okC m (AV.str s) := rfl
theorem n_okR_nils (m : Nat) : okR m (AV.nils) = okC m (AV.nils) := rfl
theorem n_okR_nilp (m : Nat) : okR m (AV.nilp) = okC m (AV.nilp) := rfl
theorem n_okR_nilf (m : Nat) : okR m (AV.nilf) = okC m (AV.nilf) := rfl
theorem n_okR_agg (m : Nat) (l : List AV) : okR m (AV.agg l) = okC m (AV.agg l) := rfl
theorem n_okR_list (m : Nat) (sz : Nat) (l : List AV) : okR m (AV.list sz l) = okC m (AV.list sz l) := rfl
theorem n_okR_rptr (m : Nat) (l : List AV) : okR m (AV.rptr l) = okC m (AV.rptr l) := rfl
theorem n_okR_ptr (m : Nat) (sz k i off : Nat) : okR m (AV.ptr sz k i off) = okC m (AV.ptr sz k i off) := rfl
theorem n_okR_sl (m : Nat) (sz k off len : Nat) : okR m (AV.sl sz k off len) = okC m (AV.sl sz k off len) := rfl
theorem n_renL_any (ix : List Nat) : renL ix (AV.any) = (AV.any) := rfl
theorem n_renL_int (ix : List Nat) (k : IntKind) (n : Int) : renL ix (AV.int k n) = (AV.int k n) := rfl
theorem n_renL_bool (ix : List Nat) (b : Bool) : renL ix (AV.bool b) = (AV.bool b) := rfl
theorem n_renL_str (ix : List Nat) (s : ByteArray) : renL ix (AV.str s) = (AV.str s) := rfl
theorem n_renL_nils (ix : List Nat) : renL ix (AV.nils) = (AV.nils) := rfl
theorem n_renL_nilp (ix : List Nat) : renL ix (AV.nilp) = (AV.nilp) := rfl
theorem n_renL_nilf (ix : List Nat) : renL ix (AV.nilf) = (AV.nilf) := rfl
theorem n_renL_fn (ix : List Nat) (f : Fn) (l : List AV) : renL ix (AV.fn f l) = (AV.fn f l) := rfl
theorem n_renL_agg (ix : List Nat) (l : List AV) : renL ix (AV.agg l) = (AV.agg l) := rfl
theorem n_renL_tuple (ix : List Nat) (l : List AV) : renL ix (AV.tuple l) = (AV.tuple l) := rfl
theorem n_renL_list (ix : List Nat) (sz : Nat) (l : List AV) : renL ix (AV.list sz l) = (AV.list sz l) := rfl
theorem n_renL_rptr (ix : List Nat) (l : List AV) : renL ix (AV.rptr l) = (AV.rptr l) := rfl
theorem n_renC_any (ix : List Nat) : renC ix (AV.any) = renL ix (AV.any) := rfl
theorem n_renC_int (ix : List Nat) (k : IntKind) (n : Int) : renC ix (AV.int k n) = renL ix (AV.int k n) := rfl
theorem n_renC_bool (ix : List Nat) (b : Bool) : renC ix (AV.bool b) = renL ix (AV.bool b) := rfl
theorem n_renC_str (ix : List Nat) (s : ByteArray) : renC ix (AV.str s) = renL ix (AV.str s) := rfl
theorem n_renC_nils (ix : List Nat) : renC ix (AV.nils) = renL ix (AV.nils) := rfl
theorem n_renC_nilp (ix : List Nat) : renC ix (AV.nilp) = renL ix (AV.nilp) := rfl
theorem n_renC_nilf (ix : List Nat) : renC ix (AV.nilf) = renL ix (AV.nilf) := rfl
theorem n_renC_fn (ix : List Nat) (f : Fn) (l : List AV) : renC ix (AV.fn f l) = renL ix (AV.fn f l) := rfl
theorem n_renC_tuple (ix : List Nat) (l : List AV) : renC ix (AV.tuple l) = renL ix (AV.tuple l) := rfl
theorem n_renC_list (ix : List Nat) (sz : Nat) (l : List AV) : renC ix (AV.list sz l) = renL ix (AV.list sz l) := rfl
theorem n_renC_rptr (ix : List Nat) (l : List AV) : renC ix (AV.rptr l) = renL ix (AV.rptr l) := rfl
theorem n_renC_ptr (ix : List Nat) (sz k i off : Nat) : renC ix (AV.ptr sz k i off) = renL ix (AV.ptr sz k i off) := rfl
theorem n_renC_sl (ix : List Nat) (sz k off len : Nat) : renC ix (AV.sl sz k off len) = renL ix (AV.sl sz k off len) := rfl
theorem n_ren_any (ix : List Nat) : ren ix (AV.any) = renC ix (AV.any) := rfl
theorem n_ren_int (ix : List Nat) (k : IntKind) (n : Int) : ren ix (AV.int k n) = renC ix (AV.int k n) := rfl
theorem n_ren_bool (ix : List Nat) (b : Bool) : ren ix (AV.bool b) = renC ix (AV.bool b) := rfl
theorem n_ren_str (ix : List Nat) (s : ByteArray) : ren ix (AV.str s) = renC ix (AV.str s) := rfl
theorem n_ren_nils (ix : List Nat) : ren ix (AV.nils) = renC ix (AV.nils) := rfl
theorem n_ren_nilp (ix : List Nat) : ren ix (AV.nilp) = renC ix (AV.nilp) := rfl
theorem n_ren_nilf (ix : List Nat) : ren ix (AV.nilf) = renC ix (AV.nilf) := rfl
theorem n_ren_agg (ix : List Nat) (l : List AV) : ren ix (AV.agg l) = renC ix (AV.agg l) := rfl
theorem n_ren_list (ix : List Nat) (sz : Nat) (l : List AV) : ren ix (AV.list sz l) = renC ix (AV.list sz l) := rfl
theorem n_ren_rptr (ix : List Nat) (l : List AV) : ren ix (AV.rptr l) = renC ix (AV.rptr l) := rfl
theorem n_ren_ptr (ix : List Nat) (sz k i off : Nat) : ren ix (AV.ptr sz k i off) = renC ix (AV.ptr sz k i off) := rfl
theorem n_ren_sl (ix : List Nat) (sz k off len : Nat) : ren ix (AV.sl sz k off len) = renC ix (AV.sl sz k off len) := rfl
theorem n_viewN_any (m : Nat) (bx : Bx) : viewN (m + 1) bx (AV.any) = (AV.any) := rfl
theorem n_viewN_int (m : Nat) (bx : Bx) (k : IntKind) (n : Int) : viewN (m + 1) bx (AV.int k n) = (AV.int k n) := rfl
theorem n_viewN_bool (m : Nat) (bx : Bx) (b : Bool) : viewN (m + 1) bx (AV.bool b) = (AV.bool b) := rfl
theorem n_viewN_str (m : Nat) (bx : Bx) (s : ByteArray) : viewN (m + 1) bx (AV.str s) = (AV.str s) := rfl
theorem n_viewN_nils (m : Nat) (bx : Bx) : viewN (m + 1) bx (AV.nils) = (AV.nils) := rfl
theorem n_viewN_nilp (m : Nat) (bx : Bx) : viewN (m + 1) bx (AV.nilp) = (AV.nilp) := rfl
theorem n_viewN_nilf (m : Nat) (bx : Bx) : viewN (m + 1) bx (AV.nilf) = (AV.nilf) := rfl
theorem n_viewN_list (m : Nat) (bx : Bx) (sz : Nat) (l : List AV) : viewN (m + 1) bx (AV.list sz l) = (AV.list sz l) := rfl
theorem n_viewN_rptr (m : Nat) (bx : Bx) (l : List AV) : viewN (m + 1) bx (AV.rptr l) = (AV.rptr l) := rfl
theorem n_setE_any (o : Nat) (cc : AV) : setE (AV.any) o [cc] = cc := rfl
theorem n_setE_int (o : Nat) (cc : AV) (k : IntKind) (n : Int) : setE (AV.int k n) o [cc] = cc := rfl
theorem n_setE_bool (o : Nat) (cc : AV) (b : Bool) : setE (AV.bool b) o [cc] = cc := rfl
theorem n_setE_str (o : Nat) (cc : AV) (s : ByteArray) : setE (AV.str s) o [cc] = cc := rfl
theorem n_setE_nils (o : Nat) (cc : AV) : setE (AV.nils) o [cc] = cc := rfl
theorem n_setE_nilp (o : Nat) (cc : AV) : setE (AV.nilp) o [cc] = cc := rfl
theorem n_setE_nilf (o : Nat) (cc : AV) : setE (AV.nilf) o [cc] = cc := rfl
theorem n_setE_fn (o : Nat) (cc : AV) (f : Fn) (l : List AV) : setE (AV.fn f l) o [cc] = cc := rfl
theorem n_setE_tuple (o : Nat) (cc : AV) (l : List AV) : setE (AV.tuple l) o [cc] = cc := rfl
theorem n_setE_list (o : Nat) (cc : AV) (sz : Nat) (l : List AV) : setE (AV.list sz l) o [cc] = cc := rfl
theorem n_setE_rptr (o : Nat) (cc : AV) (l : List AV) : setE (AV.rptr l) o [cc] = cc := rfl
theorem n_setE_ptr (o : Nat) (cc : AV) (sz k i off : Nat) : setE (AV.ptr sz k i off) o [cc] = cc := rfl
theorem n_setE_sl (o : Nat) (cc : AV) (sz k off len : Nat) : setE (AV.sl sz k off len) o [cc] = cc := rfl
theorem n_embT_int (m : Nat) (ix : List Nat) (l1 : List AV) (u : AV) (l2 : List AV) (k : IntKind) (n : Int) : embT m ix ((AV.int k n) :: l1) (u :: l2) = (okR m (AV.int k n) = true ∧ wk (ren ix (AV.int k n)) u ∧ embT m ix l1 l2) := rfl
theorem n_embT_bool (m : Nat) (ix : List Nat) (l1 : List AV) (u : AV) (l2 : List AV) (b : Bool) : embT m ix ((AV.bool b) :: l1) (u :: l2) = (okR m (AV.bool b) = true ∧ wk (ren ix (AV.bool b)) u ∧ embT m ix l1 l2) := rfl
theorem n_embT_str (m : Nat) (ix : List Nat) (l1 : List AV) (u : AV) (l2 : List AV) (s : ByteArray) : embT m ix ((AV.str s) :: l1) (u :: l2) = (okR m (AV.str s) = true ∧ wk (ren ix (AV.str s)) u ∧ embT m ix l1 l2) := rfl
theorem n_embT_nils (m : Nat) (ix : List Nat) (l1 : List AV) (u : AV) (l2 : List AV) : embT m ix ((AV.nils) :: l1) (u :: l2) = (okR m (AV.nils) = true ∧ wk (ren ix (AV.nils)) u ∧ embT m ix l1 l2) := rfl
theorem n_embT_nilp (m : Nat) (ix : List Nat) (l1 : List AV) (u : AV) (l2 : List AV) : embT m ix ((AV.nilp) :: l1) (u :: l2) = (okR m (AV.nilp) = true ∧ wk (ren ix (AV.nilp)) u ∧ embT m ix l1 l2) := rfl
theorem n_embT_nilf (m : Nat) (ix : List Nat) (l1 : List AV) (u : AV) (l2 : List AV) : embT m ix ((AV.nilf) :: l1) (u :: l2) = (okR m (AV.nilf) = true ∧ wk (ren ix (AV.nilf)) u ∧ embT m ix l1 l2) := rfl
theorem n_embT_fn (m : Nat) (ix : List Nat) (l1 : List AV) (u : AV) (l2 : List AV) (f : Fn) (l : List AV) : embT m ix ((AV.fn f l) :: l1) (u :: l2) = (okR m (AV.fn f l) = true ∧ wk (ren ix (AV.fn f l)) u ∧ embT m ix l1 l2) := rfl
theorem n_embT_agg (m : Nat) (ix : List Nat) (l1 : List AV) (u : AV) (l2 : List AV) (l : List AV) : embT m ix ((AV.agg l) :: l1) (u :: l2) = (okR m (AV.agg l) = true ∧ wk (ren ix (AV.agg l)) u ∧ embT m ix l1 l2) := rfl
theorem n_embT_tuple (m : Nat) (ix : List Nat) (l1 : List AV) (u : AV) (l2 : List AV) (l : List AV) : embT m ix ((AV.tuple l) :: l1) (u :: l2) = (okR m (AV.tuple l) = true ∧ wk (ren ix (AV.tuple l)) u ∧ embT m ix l1 l2) := rfl
theorem n_embT_list (m : Nat) (ix : List Nat) (l1 : List AV) (u : AV) (l2 : List AV) (sz : Nat) (l : List AV) : embT m ix ((AV.list sz l) :: l1) (u :: l2) = (okR m (AV.list sz l) = true ∧ wk (ren ix (AV.list sz l)) u ∧ embT m ix l1 l2) := rfl
theorem n_embT_rptr (m : Nat) (ix : List Nat) (l1 : List AV) (u : AV) (l2 : List AV) (l : List AV) : embT m ix ((AV.rptr l) :: l1) (u :: l2) = (okR m (AV.rptr l) = true ∧ wk (ren ix (AV.rptr l)) u ∧ embT m ix l1 l2) := rfl
theorem n_embT_ptr (m : Nat) (ix : List Nat) (l1 : List AV) (u : AV) (l2 : List AV) (sz k i off : Nat) : embT m ix ((AV.ptr sz k i off) :: l1) (u :: l2) = (okR m (AV.ptr sz k i off) = true ∧ wk (ren ix (AV.ptr sz k i off)) u ∧ embT m ix l1 l2) := rfl
theorem n_embT_sl (m : Nat) (ix : List Nat) (l1 : List AV) (u : AV) (l2 : List AV) (sz k off len : Nat) : embT m ix ((AV.sl sz k off len) :: l1) (u :: l2) = (okR m (AV.sl sz k off len) = true ∧ wk (ren ix (AV.sl sz k off len)) u ∧ embT m ix l1 l2) := rfl
theorem n_tupV0 : tupV [] = AV.tuple [] := rfl
theorem n_tupV2 (a b : AV) (l : List AV) : tupV (a :: b :: l) = AV.tuple (a :: b :: l) := rfl
theorem n_bsl (sz : Nat) (x : AV) (xs : List AV) : evP (AOp.bslice sz (x :: xs)) = match okElems sz (x :: xs) with | true => some (AV.list sz (x :: xs)) | false => none := rfl
theorem n_ial (sz s : Nat) (l : List AV) (k : IntKind) (n : Int) : evP (AOp.iaddr sz (.list s l) (.int k n)) = match AV.natOf (.int k n) with | some n => (match decide (s = sz) with | true => (match l[n]? with | some e => some (AV.rptr e.cells) | none => none) | false => none) | none => none := by
  cases h : AV.natOf (.int k n) with
  | some m => exact evP.eq_25 sz (.int k n) s l m h
  | none => exact evP.eq_27 sz (.int k n) (.list s l) (fun _ _ _ _ e => by rw [h] at e; cases e) (fun _ _ _ _ _ e _ => by cases e)
theorem n_ias (sz s b off len : Nat) (k : IntKind) (n : Int) : evP (AOp.iaddr sz (.sl s b off len) (.int k n)) = match AV.natOf (.int k n) with | some n => (match decide (s = sz), decide (n < len) with | true, true => some (AV.ptr s b (off + n) 0) | _, _ => none) | none => none := by
  cases h : AV.natOf (.int k n) with
  | some m => exact evP.eq_26 sz (.int k n) s b off len m h
  | none => exact evP.eq_27 sz (.int k n) (.sl s b off len) (fun _ _ _ e _ => by cases e) (fun _ _ _ _ _ _ e => by rw [h] at e; cases e)
theorem n_sto (bx : Bx) (n sz k i off : Nat) (x : AV) : evW bx (AOp.store n (.ptr sz k i off) x) = match (x.okSt && decide (x.cells.length = n)) with | true => (match bxGet bx k with | some (s, es) => (match decide (s = sz), es[i]? with | true, some e => (match decide (off + n ≤ e.cells.length) with | true => some (AV.tuple [], bxSet bx k (some (s, es.set i (setE e off x.cells)))) | false => none) | _, _ => none) | none => none) | false => none := by
  cases h : (x.okSt && decide (x.cells.length = n)) with
  | true => exact evW.eq_3 bx n x sz k i off h
  | false => exact evW.eq_4 bx n x (.ptr sz k i off) (fun _ _ _ _ _ e => by rw [h] at e; cases e)
theorem n_do_mov (P : Program) (K : AV → Bx → Prop) (bx : Bx) (x : AV) : awpDo P (AOp.mov x) K bx = match evP (AOp.mov x) with | some v => K v bx | none => False := rfl
theorem n_do_build (P : Program) (K : AV → Bx → Prop) (bx : Bx) (z : List AV) (ps : List (Nat × Nat × AV)) : awpDo P (AOp.build z ps) K bx = match evP (AOp.build z ps) with | some v => K v bx | none => False := rfl
theorem n_do_bslice (P : Program) (K : AV → Bx → Prop) (bx : Bx) (sz : Nat) (xs : List AV) : awpDo P (AOp.bslice sz xs) K bx = match evP (AOp.bslice sz xs) with | some v => K v bx | none => False := rfl
theorem n_do_nilc (P : Program) (K : AV → Bx → Prop) (bx : Bx) (x : AV) : awpDo P (AOp.nilc x) K bx = match evP (AOp.nilc x) with | some v => K v bx | none => False := rfl
theorem n_do_bin (P : Program) (K : AV → Bx → Prop) (bx : Bx) (op : BinOp) (x y : AV) : awpDo P (AOp.bin op x y) K bx = match evP (AOp.bin op x y) with | some v => K v bx | none => False := rfl
theorem n_do_eqs (P : Program) (K : AV → Bx → Prop) (bx : Bx) (neg : Bool) (n : Nat) (x y : AV) : awpDo P (AOp.eqs neg n x y) K bx = match evP (AOp.eqs neg n x y) with | some v => K v bx | none => False := rfl
theorem n_do_eqb (P : Program) (K : AV → Bx → Prop) (bx : Bx) (neg : Bool) (x y : AV) : awpDo P (AOp.eqb neg x y) K bx = match evP (AOp.eqb neg x y) with | some v => K v bx | none => False := rfl
theorem n_do_un (P : Program) (K : AV → Bx → Prop) (bx : Bx) (op : UnOp) (x : AV) : awpDo P (AOp.un op x) K bx = match evP (AOp.un op x) with | some v => K v bx | none => False := rfl
theorem n_do_conv (P : Program) (K : AV → Bx → Prop) (bx : Bx) (k : IntKind) (x : AV) : awpDo P (AOp.conv k x) K bx = match evP (AOp.conv k x) with | some v => K v bx | none => False := rfl
theorem n_do_fld (P : Program) (K : AV → Bx → Prop) (bx : Bx) (agg : Bool) (n off : Nat) (x : AV) : awpDo P (AOp.fld agg n off x) K bx = match evP (AOp.fld agg n off x) with | some v => K v bx | none => False := rfl
theorem n_do_faddr (P : Program) (K : AV → Bx → Prop) (bx : Bx) (off : Nat) (x : AV) : awpDo P (AOp.faddr off x) K bx = match evP (AOp.faddr off x) with | some v => K v bx | none => False := rfl
theorem n_do_iaddr (P : Program) (K : AV → Bx → Prop) (bx : Bx) (sz : Nat) (x i : AV) : awpDo P (AOp.iaddr sz x i) K bx = match evP (AOp.iaddr sz x i) with | some v => K v bx | none => False := rfl
theorem n_do_slc (P : Program) (K : AV → Bx → Prop) (bx : Bx) (sz : Nat) (x : AV) (lo hi : Option AV) : awpDo P (AOp.slc sz x lo hi) K bx = match evP (AOp.slc sz x lo hi) with | some v => K v bx | none => False := rfl
theorem n_do_slc0 (P : Program) (K : AV → Bx → Prop) (bx : Bx) (sz : Nat) (x : AV) : awpDo P (AOp.slc0 sz x) K bx = match evP (AOp.slc0 sz x) with | some v => K v bx | none => False := rfl
theorem n_do_len (P : Program) (K : AV → Bx → Prop) (bx : Bx) (str : Bool) (x : AV) : awpDo P (AOp.len str x) K bx = match evP (AOp.len str x) with | some v => K v bx | none => False := rfl
theorem n_do_mx (P : Program) (K : AV → Bx → Prop) (bx : Bx) (x : AV) (xs : List AV) : awpDo P (AOp.mx x xs) K bx = match evP (AOp.mx x xs) with | some v => K v bx | none => False := rfl
theorem n_do_mn (P : Program) (K : AV → Bx → Prop) (bx : Bx) (x : AV) (xs : List AV) : awpDo P (AOp.mn x xs) K bx = match evP (AOp.mn x xs) with | some v => K v bx | none => False := rfl
theorem n_do_ext (P : Program) (K : AV → Bx → Prop) (bx : Bx) (x : AV) (i : Nat) : awpDo P (AOp.ext x i) K bx = match evP (AOp.ext x i) with | some v => K v bx | none => False := rfl
theorem n_do_mkf (P : Program) (K : AV → Bx → Prop) (bx : Bx) (f : Fn) (caps : List AV) : awpDo P (AOp.mkf f caps) K bx = match evP (AOp.mkf f caps) with | some v => K v bx | none => False := rfl
theorem n_do_slcf (P : Program) (K : AV → Bx → Prop) (bx : Bx) (n : Nat) (x : AV) : awpDo P (AOp.slcf n x) K bx = match evP (AOp.slcf n x) with | some v => K v bx | none => False := rfl
theorem sn : (((((((((type_of% @awpOper.eq_1) ∧ (type_of% @awpDo.eq_1)) ∧ ((type_of% @awpDo.eq_2) ∧ ((type_of% @awpDo.eq_3) ∧ (type_of% @awpDo.eq_4)))) ∧ (((type_of% @awpDo.eq_5) ∧ (type_of% @awpDo.eq_6)) ∧ ((type_of% @awpDo.eq_8) ∧ ((type_of% @awpDo.eq_9) ∧ (type_of% @awpDo.eq_11))))) ∧ ((((type_of% @awpDo.eq_12) ∧ (type_of% @awpDo.eq_13)) ∧ ((type_of% @awpDo.eq_14) ∧ ((type_of% @awpDo.eq_15) ∧ (type_of% @evP.eq_1)))) ∧ (((type_of% @evP.eq_2) ∧ (type_of% @evP.eq_3)) ∧ ((type_of% @evP.eq_5) ∧ ((type_of% @evP.eq_6) ∧ (type_of% @evP.eq_8)))))) ∧ (((((type_of% @evP.eq_9) ∧ (type_of% @evP.eq_10)) ∧ ((type_of% @evP.eq_12) ∧ ((type_of% @evP.eq_13) ∧ (type_of% @evP.eq_15)))) ∧ (((type_of% @evP.eq_17) ∧ (type_of% @evP.eq_18)) ∧ ((type_of% @evP.eq_20) ∧ ((type_of% @evP.eq_22) ∧ (type_of% @evP.eq_23))))) ∧ ((((type_of% @evP.eq_28) ∧ (type_of% @evP.eq_29)) ∧ ((type_of% @evP.eq_30) ∧ ((type_of% @evP.eq_31) ∧ (type_of% @evP.eq_33)))) ∧ (((type_of% @evP.eq_34) ∧ (type_of% @evP.eq_35)) ∧ ((type_of% @evP.eq_36) ∧ ((type_of% @evP.eq_38) ∧ (type_of% @evP.eq_39))))))) ∧ ((((((type_of% @evP.eq_40) ∧ (type_of% @evP.eq_42)) ∧ ((type_of% @evP.eq_43) ∧ ((type_of% @evBin.eq_1) ∧ (type_of% @evBin.eq_2)))) ∧ (((type_of% @evBin.eq_3) ∧ (type_of% @evBin.eq_4)) ∧ ((type_of% @evBin.eq_5) ∧ ((type_of% @evBin.eq_6) ∧ (type_of% @evBin.eq_7))))) ∧ ((((type_of% @evBin.eq_8) ∧ (type_of% @evBin.eq_9)) ∧ ((type_of% @evBin.eq_10) ∧ ((type_of% @evBin.eq_11) ∧ (type_of% @evBin.eq_12)))) ∧ (((type_of% @evBin.eq_14) ∧ (type_of% @evBin.eq_15)) ∧ ((type_of% @evUn.eq_1) ∧ ((type_of% @evUn.eq_2) ∧ (type_of% @evSlc.eq_1)))))) ∧ (((((type_of% @evSlc.eq_2) ∧ (type_of% @evSlc.eq_3)) ∧ ((type_of% @evLoad.eq_1) ∧ ((type_of% @evLoad.eq_2) ∧ (type_of% @evW.eq_1)))) ∧ (((type_of% @evW.eq_2) ∧ (type_of% @elemsOf.eq_1)) ∧ ((type_of% @elemsOf.eq_2) ∧ ((type_of% @elemsOf.eq_3) ∧ (type_of% @appBase.eq_1))))) ∧ ((((type_of% @appBase.eq_2) ∧ (type_of% @viewN.eq_1)) ∧ ((type_of% @viewN.eq_2) ∧ ((type_of% @viewN.eq_3) ∧ (type_of% @viewN.eq_4)))) ∧ (((type_of% @viewN.eq_5) ∧ (type_of% @viewN.eq_6)) ∧ ((type_of% @setE.eq_1) ∧ ((type_of% @setCells.eq_1) ∧ (type_of% @setCells.eq_3)))))))) ∧ (((((((type_of% @setCells.eq_4) ∧ (type_of% @cutCells.eq_1)) ∧ ((type_of% @cutCells.eq_2) ∧ ((type_of% @fillA.eq_1) ∧ (type_of% @fillA.eq_2)))) ∧ (((type_of% @okElems.eq_1) ∧ (type_of% @okElems.eq_2)) ∧ ((type_of% @eqInts.eq_1) ∧ ((type_of% @eqInts.eq_2) ∧ (type_of% @maxA.eq_1))))) ∧ ((((type_of% @maxA.eq_2) ∧ (type_of% @minA.eq_1)) ∧ ((type_of% @minA.eq_2) ∧ ((type_of% @resV.eq_1) ∧ (type_of% @resV.eq_2)))) ∧ (((type_of% @resV.eq_3) ∧ (type_of% @embB.eq_1)) ∧ ((type_of% @embB.eq_2) ∧ ((type_of% @embB.eq_3) ∧ (type_of% @embT.eq_1)))))) ∧ (((((type_of% @embT.eq_2) ∧ (type_of% @okR.eq_1)) ∧ ((type_of% @okR.eq_2) ∧ ((type_of% @okC.eq_1) ∧ (type_of% @okL.eq_1)))) ∧ (((type_of% @okL.eq_2) ∧ (type_of% @okEs.eq_1)) ∧ ((type_of% @ren.eq_1) ∧ ((type_of% @ren.eq_2) ∧ (type_of% @renC.eq_1))))) ∧ ((((type_of% @renL.eq_1) ∧ (type_of% @renL.eq_2)) ∧ ((type_of% @renEs.eq_1) ∧ ((type_of% @AV.natOf.eq_1) ∧ (type_of% @natO.eq_1)))) ∧ (((type_of% @natO.eq_2) ∧ (type_of% @AV.isInt.eq_1)) ∧ ((type_of% @AV.cells.eq_1) ∧ ((type_of% @AV.okSt.eq_1) ∧ (type_of% @AV.okSt.eq_2))))))) ∧ ((((((type_of% @AV.isSl.eq_1) ∧ (type_of% @AV.isSl.eq_2)) ∧ ((type_of% @AV.isSl.eq_3) ∧ ((type_of% @tupV.eq_1) ∧ (type_of% @n_AV_cells_any)))) ∧ (((type_of% @n_AV_cells_int) ∧ (type_of% @n_AV_cells_bool)) ∧ ((type_of% @n_AV_cells_str) ∧ ((type_of% @n_AV_cells_nils) ∧ (type_of% @n_AV_cells_nilp))))) ∧ ((((type_of% @n_AV_cells_nilf) ∧ (type_of% @n_AV_cells_fn)) ∧ ((type_of% @n_AV_cells_tuple) ∧ ((type_of% @n_AV_cells_list) ∧ (type_of% @n_AV_cells_rptr)))) ∧ (((type_of% @n_AV_cells_ptr) ∧ (type_of% @n_AV_cells_sl)) ∧ ((type_of% @n_AV_okSt_int) ∧ ((type_of% @n_AV_okSt_bool) ∧ (type_of% @n_AV_okSt_str)))))) ∧ (((((type_of% @n_AV_okSt_nils) ∧ (type_of% @n_AV_okSt_nilp)) ∧ ((type_of% @n_AV_okSt_nilf) ∧ ((type_of% @n_AV_okSt_fn) ∧ (type_of% @n_AV_okSt_agg)))) ∧ (((type_of% @n_AV_okSt_list) ∧ (type_of% @n_AV_okSt_rptr)) ∧ ((type_of% @n_AV_okSt_ptr) ∧ ((type_of% @n_AV_okSt_sl) ∧ (type_of% @n_AV_isInt_any))))) ∧ ((((type_of% @n_AV_isInt_bool) ∧ (type_of% @n_AV_isInt_str)) ∧ ((type_of% @n_AV_isInt_nils) ∧ ((type_of% @n_AV_isInt_nilp) ∧ (type_of% @n_AV_isInt_nilf)))) ∧ (((type_of% @n_AV_isInt_fn) ∧ (type_of% @n_AV_isInt_agg)) ∧ ((type_of% @n_AV_isInt_tuple) ∧ ((type_of% @n_AV_isInt_list) ∧ (type_of% @n_AV_isInt_rptr))))))))) ∧ ((((((((type_of% @n_AV_isInt_ptr) ∧ (type_of% @n_AV_isInt_sl)) ∧ ((type_of% @n_AV_isSl_any) ∧ ((type_of% @n_AV_isSl_int) ∧ (type_of% @n_AV_isSl_bool)))) ∧ (((type_of% @n_AV_isSl_str) ∧ (type_of% @n_AV_isSl_nilp)) ∧ ((type_of% @n_AV_isSl_nilf) ∧ ((type_of% @n_AV_isSl_fn) ∧ (type_of% @n_AV_isSl_agg))))) ∧ ((((type_of% @n_AV_isSl_tuple) ∧ (type_of% @n_AV_isSl_rptr)) ∧ ((type_of% @n_AV_isSl_ptr) ∧ ((type_of% @n_AV_natOf_any) ∧ (type_of% @n_AV_natOf_bool)))) ∧ (((type_of% @n_AV_natOf_str) ∧ (type_of% @n_AV_natOf_nils)) ∧ ((type_of% @n_AV_natOf_nilp) ∧ ((type_of% @n_AV_natOf_nilf) ∧ (type_of% @n_AV_natOf_fn)))))) ∧ (((((type_of% @n_AV_natOf_agg) ∧ (type_of% @n_AV_natOf_tuple)) ∧ ((type_of% @n_AV_natOf_list) ∧ ((type_of% @n_AV_natOf_rptr) ∧ (type_of% @n_AV_natOf_ptr)))) ∧ (((type_of% @n_AV_natOf_sl) ∧ (type_of% @n_okL_any)) ∧ ((type_of% @n_okL_int) ∧ ((type_of% @n_okL_bool) ∧ (type_of% @n_okL_str))))) ∧ ((((type_of% @n_okL_nils) ∧ (type_of% @n_okL_nilp)) ∧ ((type_of% @n_okL_nilf) ∧ ((type_of% @n_okL_fn) ∧ (type_of% @n_okL_agg)))) ∧ (((type_of% @n_okL_tuple) ∧ (type_of% @n_okL_list)) ∧ ((type_of% @n_okL_rptr) ∧ ((type_of% @n_okC_any) ∧ (type_of% @n_okC_int))))))) ∧ ((((((type_of% @n_okC_bool) ∧ (type_of% @n_okC_str)) ∧ ((type_of% @n_okC_nils) ∧ ((type_of% @n_okC_nilp) ∧ (type_of% @n_okC_nilf)))) ∧ (((type_of% @n_okC_fn) ∧ (type_of% @n_okC_tuple)) ∧ ((type_of% @n_okC_list) ∧ ((type_of% @n_okC_rptr) ∧ (type_of% @n_okC_ptr))))) ∧ ((((type_of% @n_okC_sl) ∧ (type_of% @n_okR_any)) ∧ ((type_of% @n_okR_int) ∧ ((type_of% @n_okR_bool) ∧ (type_of% @n_okR_str)))) ∧ (((type_of% @n_okR_nils) ∧ (type_of% @n_okR_nilp)) ∧ ((type_of% @n_okR_nilf) ∧ ((type_of% @n_okR_agg) ∧ (type_of% @n_okR_list)))))) ∧ (((((type_of% @n_okR_rptr) ∧ (type_of% @n_okR_ptr)) ∧ ((type_of% @n_okR_sl) ∧ ((type_of% @n_renL_any) ∧ (type_of% @n_renL_int)))) ∧ (((type_of% @n_renL_bool) ∧ (type_of% @n_renL_str)) ∧ ((type_of% @n_renL_nils) ∧ ((type_of% @n_renL_nilp) ∧ (type_of% @n_renL_nilf))))) ∧ ((((type_of% @n_renL_fn) ∧ (type_of% @n_renL_agg)) ∧ ((type_of% @n_renL_tuple) ∧ ((type_of% @n_renL_list) ∧ (type_of% @n_renL_rptr)))) ∧ (((type_of% @n_renC_any) ∧ (type_of% @n_renC_int)) ∧ ((type_of% @n_renC_bool) ∧ ((type_of% @n_renC_str) ∧ (type_of% @n_renC_nils)))))))) ∧ (((((((type_of% @n_renC_nilp) ∧ (type_of% @n_renC_nilf)) ∧ ((type_of% @n_renC_fn) ∧ ((type_of% @n_renC_tuple) ∧ (type_of% @n_renC_list)))) ∧ (((type_of% @n_renC_rptr) ∧ (type_of% @n_renC_ptr)) ∧ ((type_of% @n_renC_sl) ∧ ((type_of% @n_ren_any) ∧ (type_of% @n_ren_int))))) ∧ ((((type_of% @n_ren_bool) ∧ (type_of% @n_ren_str)) ∧ ((type_of% @n_ren_nils) ∧ ((type_of% @n_ren_nilp) ∧ (type_of% @n_ren_nilf)))) ∧ (((type_of% @n_ren_agg) ∧ (type_of% @n_ren_list)) ∧ ((type_of% @n_ren_rptr) ∧ ((type_of% @n_ren_ptr) ∧ (type_of% @n_ren_sl)))))) ∧ (((((type_of% @n_viewN_any) ∧ (type_of% @n_viewN_int)) ∧ ((type_of% @n_viewN_bool) ∧ ((type_of% @n_viewN_str) ∧ (type_of% @n_viewN_nils)))) ∧ (((type_of% @n_viewN_nilp) ∧ (type_of% @n_viewN_nilf)) ∧ ((type_of% @n_viewN_list) ∧ ((type_of% @n_viewN_rptr) ∧ (type_of% @n_setE_any))))) ∧ ((((type_of% @n_setE_int) ∧ (type_of% @n_setE_bool)) ∧ ((type_of% @n_setE_str) ∧ ((type_of% @n_setE_nils) ∧ (type_of% @n_setE_nilp)))) ∧ (((type_of% @n_setE_nilf) ∧ (type_of% @n_setE_fn)) ∧ ((type_of% @n_setE_tuple) ∧ ((type_of% @n_setE_list) ∧ (type_of% @n_setE_rptr))))))) ∧ ((((((type_of% @n_setE_ptr) ∧ (type_of% @n_setE_sl)) ∧ ((type_of% @n_embT_int) ∧ ((type_of% @n_embT_bool) ∧ (type_of% @n_embT_str)))) ∧ (((type_of% @n_embT_nils) ∧ (type_of% @n_embT_nilp)) ∧ ((type_of% @n_embT_nilf) ∧ ((type_of% @n_embT_fn) ∧ (type_of% @n_embT_agg))))) ∧ ((((type_of% @n_embT_tuple) ∧ (type_of% @n_embT_list)) ∧ ((type_of% @n_embT_rptr) ∧ ((type_of% @n_embT_ptr) ∧ (type_of% @n_embT_sl)))) ∧ (((type_of% @n_tupV0) ∧ (type_of% @n_tupV2)) ∧ ((type_of% @n_bsl) ∧ ((type_of% @n_ial) ∧ (type_of% @n_ias)))))) ∧ (((((type_of% @n_sto) ∧ (type_of% @n_do_mov)) ∧ ((type_of% @n_do_build) ∧ ((type_of% @n_do_bslice) ∧ (type_of% @n_do_nilc)))) ∧ (((type_of% @n_do_bin) ∧ (type_of% @n_do_eqs)) ∧ ((type_of% @n_do_eqb) ∧ ((type_of% @n_do_un) ∧ (type_of% @n_do_conv))))) ∧ ((((type_of% @n_do_fld) ∧ (type_of% @n_do_faddr)) ∧ ((type_of% @n_do_iaddr) ∧ ((type_of% @n_do_slc) ∧ (type_of% @n_do_slc0)))) ∧ (((type_of% @n_do_len) ∧ ((type_of% @n_do_mx) ∧ (type_of% @n_do_mn))) ∧ ((type_of% @n_do_ext) ∧ ((type_of% @n_do_mkf) ∧ (type_of% @n_do_slcf)))))))))) := ⟨⟨⟨⟨⟨⟨⟨⟨@awpOper.eq_1, @awpDo.eq_1⟩, ⟨@awpDo.eq_2, ⟨@awpDo.eq_3, @awpDo.eq_4⟩⟩⟩, ⟨⟨@awpDo.eq_5, @awpDo.eq_6⟩, ⟨@awpDo.eq_8, ⟨@awpDo.eq_9, @awpDo.eq_11⟩⟩⟩⟩, ⟨⟨⟨@awpDo.eq_12, @awpDo.eq_13⟩, ⟨@awpDo.eq_14, ⟨@awpDo.eq_15, @evP.eq_1⟩⟩⟩, ⟨⟨@evP.eq_2, @evP.eq_3⟩, ⟨@evP.eq_5, ⟨@evP.eq_6, @evP.eq_8⟩⟩⟩⟩⟩, ⟨⟨⟨⟨@evP.eq_9, @evP.eq_10⟩, ⟨@evP.eq_12, ⟨@evP.eq_13, @evP.eq_15⟩⟩⟩, ⟨⟨@evP.eq_17, @evP.eq_18⟩, ⟨@evP.eq_20, ⟨@evP.eq_22, @evP.eq_23⟩⟩⟩⟩, ⟨⟨⟨@evP.eq_28, @evP.eq_29⟩, ⟨@evP.eq_30, ⟨@evP.eq_31, @evP.eq_33⟩⟩⟩, ⟨⟨@evP.eq_34, @evP.eq_35⟩, ⟨@evP.eq_36, ⟨@evP.eq_38, @evP.eq_39⟩⟩⟩⟩⟩⟩, ⟨⟨⟨⟨⟨@evP.eq_40, @evP.eq_42⟩, ⟨@evP.eq_43, ⟨@evBin.eq_1, @evBin.eq_2⟩⟩⟩, ⟨⟨@evBin.eq_3, @evBin.eq_4⟩, ⟨@evBin.eq_5, ⟨@evBin.eq_6, @evBin.eq_7⟩⟩⟩⟩, ⟨⟨⟨@evBin.eq_8, @evBin.eq_9⟩, ⟨@evBin.eq_10, ⟨@evBin.eq_11, @evBin.eq_12⟩⟩⟩, ⟨⟨@evBin.eq_14, @evBin.eq_15⟩, ⟨@evUn.eq_1, ⟨@evUn.eq_2, @evSlc.eq_1⟩⟩⟩⟩⟩, ⟨⟨⟨⟨@evSlc.eq_2, @evSlc.eq_3⟩, ⟨@evLoad.eq_1, ⟨@evLoad.eq_2, @evW.eq_1⟩⟩⟩, ⟨⟨@evW.eq_2, @elemsOf.eq_1⟩, ⟨@elemsOf.eq_2, ⟨@elemsOf.eq_3, @appBase.eq_1⟩⟩⟩⟩, ⟨⟨⟨@appBase.eq_2, @viewN.eq_1⟩, ⟨@viewN.eq_2, ⟨@viewN.eq_3, @viewN.eq_4⟩⟩⟩, ⟨⟨@viewN.eq_5, @viewN.eq_6⟩, ⟨@setE.eq_1, ⟨@setCells.eq_1, @setCells.eq_3⟩⟩⟩⟩⟩⟩⟩, ⟨⟨⟨⟨⟨⟨@setCells.eq_4, @cutCells.eq_1⟩, ⟨@cutCells.eq_2, ⟨@fillA.eq_1, @fillA.eq_2⟩⟩⟩, ⟨⟨@okElems.eq_1, @okElems.eq_2⟩, ⟨@eqInts.eq_1, ⟨@eqInts.eq_2, @maxA.eq_1⟩⟩⟩⟩, ⟨⟨⟨@maxA.eq_2, @minA.eq_1⟩, ⟨@minA.eq_2, ⟨@resV.eq_1, @resV.eq_2⟩⟩⟩, ⟨⟨@resV.eq_3, @embB.eq_1⟩, ⟨@embB.eq_2, ⟨@embB.eq_3, @embT.eq_1⟩⟩⟩⟩⟩, ⟨⟨⟨⟨@embT.eq_2, @okR.eq_1⟩, ⟨@okR.eq_2, ⟨@okC.eq_1, @okL.eq_1⟩⟩⟩, ⟨⟨@okL.eq_2, @okEs.eq_1⟩, ⟨@ren.eq_1, ⟨@ren.eq_2, @renC.eq_1⟩⟩⟩⟩, ⟨⟨⟨@renL.eq_1, @renL.eq_2⟩, ⟨@renEs.eq_1, ⟨@AV.natOf.eq_1, @natO.eq_1⟩⟩⟩, ⟨⟨@natO.eq_2, @AV.isInt.eq_1⟩, ⟨@AV.cells.eq_1, ⟨@AV.okSt.eq_1, @AV.okSt.eq_2⟩⟩⟩⟩⟩⟩, ⟨⟨⟨⟨⟨@AV.isSl.eq_1, @AV.isSl.eq_2⟩, ⟨@AV.isSl.eq_3, ⟨@tupV.eq_1, @n_AV_cells_any⟩⟩⟩, ⟨⟨@n_AV_cells_int, @n_AV_cells_bool⟩, ⟨@n_AV_cells_str, ⟨@n_AV_cells_nils, @n_AV_cells_nilp⟩⟩⟩⟩, ⟨⟨⟨@n_AV_cells_nilf, @n_AV_cells_fn⟩, ⟨@n_AV_cells_tuple, ⟨@n_AV_cells_list, @n_AV_cells_rptr⟩⟩⟩, ⟨⟨@n_AV_cells_ptr, @n_AV_cells_sl⟩, ⟨@n_AV_okSt_int, ⟨@n_AV_okSt_bool, @n_AV_okSt_str⟩⟩⟩⟩⟩, ⟨⟨⟨⟨@n_AV_okSt_nils, @n_AV_okSt_nilp⟩, ⟨@n_AV_okSt_nilf, ⟨@n_AV_okSt_fn, @n_AV_okSt_agg⟩⟩⟩, ⟨⟨@n_AV_okSt_list, @n_AV_okSt_rptr⟩, ⟨@n_AV_okSt_ptr, ⟨@n_AV_okSt_sl, @n_AV_isInt_any⟩⟩⟩⟩, ⟨⟨⟨@n_AV_isInt_bool, @n_AV_isInt_str⟩, ⟨@n_AV_isInt_nils, ⟨@n_AV_isInt_nilp, @n_AV_isInt_nilf⟩⟩⟩, ⟨⟨@n_AV_isInt_fn, @n_AV_isInt_agg⟩, ⟨@n_AV_isInt_tuple, ⟨@n_AV_isInt_list, @n_AV_isInt_rptr⟩⟩⟩⟩⟩⟩⟩⟩, ⟨⟨⟨⟨⟨⟨⟨@n_AV_isInt_ptr, @n_AV_isInt_sl⟩, ⟨@n_AV_isSl_any, ⟨@n_AV_isSl_int, @n_AV_isSl_bool⟩⟩⟩, ⟨⟨@n_AV_isSl_str, @n_AV_isSl_nilp⟩, ⟨@n_AV_isSl_nilf, ⟨@n_AV_isSl_fn, @n_AV_isSl_agg⟩⟩⟩⟩, ⟨⟨⟨@n_AV_isSl_tuple, @n_AV_isSl_rptr⟩, ⟨@n_AV_isSl_ptr, ⟨@n_AV_natOf_any, @n_AV_natOf_bool⟩⟩⟩, ⟨⟨@n_AV_natOf_str, @n_AV_natOf_nils⟩, ⟨@n_AV_natOf_nilp, ⟨@n_AV_natOf_nilf, @n_AV_natOf_fn⟩⟩⟩⟩⟩, ⟨⟨⟨⟨@n_AV_natOf_agg, @n_AV_natOf_tuple⟩, ⟨@n_AV_natOf_list, ⟨@n_AV_natOf_rptr, @n_AV_natOf_ptr⟩⟩⟩, ⟨⟨@n_AV_natOf_sl, @n_okL_any⟩, ⟨@n_okL_int, ⟨@n_okL_bool, @n_okL_str⟩⟩⟩⟩, ⟨⟨⟨@n_okL_nils, @n_okL_nilp⟩, ⟨@n_okL_nilf, ⟨@n_okL_fn, @n_okL_agg⟩⟩⟩, ⟨⟨@n_okL_tuple, @n_okL_list⟩, ⟨@n_okL_rptr, ⟨@n_okC_any, @n_okC_int⟩⟩⟩⟩⟩⟩, ⟨⟨⟨⟨⟨@n_okC_bool, @n_okC_str⟩, ⟨@n_okC_nils, ⟨@n_okC_nilp, @n_okC_nilf⟩⟩⟩, ⟨⟨@n_okC_fn, @n_okC_tuple⟩, ⟨@n_okC_list, ⟨@n_okC_rptr, @n_okC_ptr⟩⟩⟩⟩, ⟨⟨⟨@n_okC_sl, @n_okR_any⟩, ⟨@n_okR_int, ⟨@n_okR_bool, @n_okR_str⟩⟩⟩, ⟨⟨@n_okR_nils, @n_okR_nilp⟩, ⟨@n_okR_nilf, ⟨@n_okR_agg, @n_okR_list⟩⟩⟩⟩⟩, ⟨⟨⟨⟨@n_okR_rptr, @n_okR_ptr⟩, ⟨@n_okR_sl, ⟨@n_renL_any, @n_renL_int⟩⟩⟩, ⟨⟨@n_renL_bool, @n_renL_str⟩, ⟨@n_renL_nils, ⟨@n_renL_nilp, @n_renL_nilf⟩⟩⟩⟩, ⟨⟨⟨@n_renL_fn, @n_renL_agg⟩, ⟨@n_renL_tuple, ⟨@n_renL_list, @n_renL_rptr⟩⟩⟩, ⟨⟨@n_renC_any, @n_renC_int⟩, ⟨@n_renC_bool, ⟨@n_renC_str, @n_renC_nils⟩⟩⟩⟩⟩⟩⟩, ⟨⟨⟨⟨⟨⟨@n_renC_nilp, @n_renC_nilf⟩, ⟨@n_renC_fn, ⟨@n_renC_tuple, @n_renC_list⟩⟩⟩, ⟨⟨@n_renC_rptr, @n_renC_ptr⟩, ⟨@n_renC_sl, ⟨@n_ren_any, @n_ren_int⟩⟩⟩⟩, ⟨⟨⟨@n_ren_bool, @n_ren_str⟩, ⟨@n_ren_nils, ⟨@n_ren_nilp, @n_ren_nilf⟩⟩⟩, ⟨⟨@n_ren_agg, @n_ren_list⟩, ⟨@n_ren_rptr, ⟨@n_ren_ptr, @n_ren_sl⟩⟩⟩⟩⟩, ⟨⟨⟨⟨@n_viewN_any, @n_viewN_int⟩, ⟨@n_viewN_bool, ⟨@n_viewN_str, @n_viewN_nils⟩⟩⟩, ⟨⟨@n_viewN_nilp, @n_viewN_nilf⟩, ⟨@n_viewN_list, ⟨@n_viewN_rptr, @n_setE_any⟩⟩⟩⟩, ⟨⟨⟨@n_setE_int, @n_setE_bool⟩, ⟨@n_setE_str, ⟨@n_setE_nils, @n_setE_nilp⟩⟩⟩, ⟨⟨@n_setE_nilf, @n_setE_fn⟩, ⟨@n_setE_tuple, ⟨@n_setE_list, @n_setE_rptr⟩⟩⟩⟩⟩⟩, ⟨⟨⟨⟨⟨@n_setE_ptr, @n_setE_sl⟩, ⟨@n_embT_int, ⟨@n_embT_bool, @n_embT_str⟩⟩⟩, ⟨⟨@n_embT_nils, @n_embT_nilp⟩, ⟨@n_embT_nilf, ⟨@n_embT_fn, @n_embT_agg⟩⟩⟩⟩, ⟨⟨⟨@n_embT_tuple, @n_embT_list⟩, ⟨@n_embT_rptr, ⟨@n_embT_ptr, @n_embT_sl⟩⟩⟩, ⟨⟨@n_tupV0, @n_tupV2⟩, ⟨@n_bsl, ⟨@n_ial, @n_ias⟩⟩⟩⟩⟩, ⟨⟨⟨⟨@n_sto, @n_do_mov⟩, ⟨@n_do_build, ⟨@n_do_bslice, @n_do_nilc⟩⟩⟩, ⟨⟨@n_do_bin, @n_do_eqs⟩, ⟨@n_do_eqb, ⟨@n_do_un, @n_do_conv⟩⟩⟩⟩, ⟨⟨⟨@n_do_fld, @n_do_faddr⟩, ⟨@n_do_iaddr, ⟨@n_do_slc, @n_do_slc0⟩⟩⟩, ⟨⟨@n_do_len, ⟨@n_do_mx, @n_do_mn⟩⟩, ⟨@n_do_ext, ⟨@n_do_mkf, @n_do_slcf⟩⟩⟩⟩⟩⟩⟩⟩⟩
end Go.Proofs.Ytbmcjhjbifojnaa.Av
/- Rules of a walk for own literal rows, frozen appends and clears. -/
namespace Go.Proofs.Ytbmcjhjbifojnaa.Av
set_option linter.unusedVariables false
theorem x_do_bslm (P : Program) (K : AV → Bx → Prop) (bx : Bx) (sz : Nat) (xs : List AV) : awpDo P (AOp.bslm sz xs) K bx = match evW bx (AOp.bslm sz xs) with | some (v, bx') => K v bx' | none => False := rfl
theorem x_do_clr (P : Program) (K : AV → Bx → Prop) (bx : Bx) (sz : Nat) (x : AV) : awpDo P (AOp.clr sz x) K bx = match evW bx (AOp.clr sz x) with | some (v, bx') => K v bx' | none => False := rfl
theorem x_do_appf (P : Program) (K : AV → Bx → Prop) (bx : Bx) (sz b : Nat) (x y : AV) : awpDo P (AOp.appf sz b x y) K bx = match evP (AOp.appf sz b x y) with | some v => K v bx | none => False := rfl
theorem x_do_loadf (P : Program) (K : AV → Bx → Prop) (bx : Bx) (a : Bool) (n : Nat) (x : AV) : awpDo P (AOp.loadf a n x) K bx = match evP (AOp.loadf a n x) with | some v => K v bx | none => False := rfl
theorem x_map_loadf {α β : Type} (f : α → β) (a : Bool) (n : Nat) (x : α) : AOp.map f (.loadf a n x) = .loadf a n (f x) := rfl
theorem x_ev_loadf (a : Bool) (n : Nat) (l : List AV) : evP (.loadf a n (.rptr l)) = cutCells a n 0 l := rfl
theorem x_map_bslm {α β : Type} (f : α → β) (sz : Nat) (xs : List α) : AOp.map f (.bslm sz xs) = .bslm sz (xs.map f) := rfl
theorem x_map_clr {α β : Type} (f : α → β) (sz : Nat) (x : α) : AOp.map f (.clr sz x) = .clr sz (f x) := rfl
theorem x_map_appf {α β : Type} (f : α → β) (sz b : Nat) (x y : α) : AOp.map f (.appf sz b x y) = .appf sz b (f x) (f y) := rfl
theorem x_ev_bslm (bx : Bx) (sz : Nat) (xs : List AV) : evW bx (.bslm sz xs) = match xs.all (fun v => v.okSt && decide (v.cells.length = sz)) with
    | true => some (.sl sz bx.length 0 xs.length, bx ++ [some (sz, xs)])
    | false => none := rfl
theorem x_ev_clr (bx : Bx) (sz s k off n : Nat) : evW bx (.clr sz (.sl s k off n)) = match decide (s = sz), bxGet bx k with
    | true, some (s', es) => (match decide (s' = sz) with
      | true => some (.tuple [], bxSet bx k (some (s', es.take off)))
      | false => none)
    | _, _ => none := rfl
theorem x_ev_clr0 (bx : Bx) (sz : Nat) : evW bx (.clr sz .nils) = some (.tuple [], bx) := rfl
theorem x_ev_appf (sz b s : Nat) (l : List AV) : evP (.appf sz b .nils (.list s l)) = match decide (s = sz) && flatL l && decide (l.length * b ≤ 140737488355328) && decide (l.length ≤ 9223372036854775807) with
    | true => some (.list s l)
    | false => none := rfl
theorem x_ev_appf0 (sz b : Nat) : evP (.appf sz b .nils .nils) = some .nils := rfl
theorem x_all_nil (f : AV → Bool) : ([] : List AV).all f = true := rfl
theorem x_all_cons (f : AV → Bool) (x : AV) (l : List AV) : (x :: l).all f = (f x && l.all f) := rfl
section
variable (K : List AV → Bx → Prop) (x : AV) (l : List AV) (bx : Bx)
theorem x_frz_nil : frzSs [] K (x :: l) bx = K (x :: l) bx := rfl
theorem x_frz_cons (t : Nat) (r : List Nat) : frzSs (t :: r) K (x :: l) bx = match getT (x :: l) t with
    | .list _ _ => frzSs r K (x :: l) bx
    | .nils => frzSs r K (x :: l) bx
    | .sl s k off n => (match bxGet bx k with
      | some (s', es) => (match decide (s' = s) && decide (off + n ≤ es.length) && flatL es with
        | true => frzSs r K (setT (x :: l) t (.list s ((es.drop off).take n))) (bxSet bx k none)
        | false => False)
      | none => False)
    | _ => False := by
  show frzS t (frzSs r K) (x :: l) bx = _
  unfold frzS
  rfl
end
theorem sxx : ((type_of% @x_do_loadf) ∧ (type_of% @x_map_loadf) ∧ (type_of% @x_ev_loadf)) ∧ ((((type_of% @x_do_bslm) ∧ (type_of% @x_do_clr)) ∧ ((type_of% @x_do_appf) ∧ (type_of% @x_map_bslm)) ∧ ((type_of% @x_map_clr) ∧ (type_of% @x_map_appf))) ∧ (((type_of% @x_ev_bslm) ∧ (type_of% @x_ev_clr)) ∧ ((type_of% @x_ev_clr0) ∧ (type_of% @x_ev_appf)) ∧ ((type_of% @x_ev_appf0) ∧ (type_of% @x_all_nil) ∧ (type_of% @x_all_cons) ∧ (type_of% @x_frz_nil) ∧ (type_of% @x_frz_cons)))) :=
  ⟨⟨@x_do_loadf, @x_map_loadf, @x_ev_loadf⟩, ⟨⟨⟨@x_do_bslm, @x_do_clr⟩, ⟨@x_do_appf, @x_map_bslm⟩, ⟨@x_map_clr, @x_map_appf⟩⟩, ⟨@x_ev_bslm, @x_ev_clr⟩, ⟨@x_ev_clr0, @x_ev_appf⟩, ⟨@x_ev_appf0, @x_all_nil, @x_all_cons, @x_frz_nil, @x_frz_cons⟩⟩⟩
end Go.Proofs.Ytbmcjhjbifojnaa.Av
/- The walk's rules for maps, in one. -/
namespace Go.Proofs.Ytbmcjhjbifojnaa.Av
set_option linter.unusedVariables false
set_option maxRecDepth 100000
theorem p_AV_cells_nilm : AV.cells (AV.nilm) = [(AV.nilm)] := rfl
theorem p_AV_cells_mp (k : Nat) : AV.cells (AV.mp k) = [(AV.mp k)] := rfl
theorem p_AV_okSt_nilm : AV.okSt (AV.nilm) = true := rfl
theorem p_AV_okSt_mp (k : Nat) : AV.okSt (AV.mp k) = true := rfl
theorem p_AV_isInt_nilm : AV.isInt (AV.nilm) = false := rfl
theorem p_AV_isInt_mp (k : Nat) : AV.isInt (AV.mp k) = false := rfl
theorem p_AV_isSl_nilm : AV.isSl (AV.nilm) = false := rfl
theorem p_AV_isSl_mp (k : Nat) : AV.isSl (AV.mp k) = false := rfl
theorem p_AV_natOf_nilm : AV.natOf (AV.nilm) = none := rfl
theorem p_AV_natOf_mp (k : Nat) : AV.natOf (AV.mp k) = none := rfl
theorem p_AV_flat_nilm : AV.flat (AV.nilm) = true := rfl
theorem p_AV_flat_mp (k : Nat) : AV.flat (AV.mp k) = false := rfl
theorem p_okL_nilm (m : Nat) : okL m (AV.nilm) = true := rfl
theorem p_okL_mp (m : Nat) (k : Nat) : okL m (AV.mp k) = decide (k < m) := rfl
theorem p_okC_nilm (m : Nat) : okC m (AV.nilm) = okL m (AV.nilm) := rfl
theorem p_okC_mp (m : Nat) (k : Nat) : okC m (AV.mp k) = okL m (AV.mp k) := rfl
theorem p_okR_nilm (m : Nat) : okR m (AV.nilm) = okC m (AV.nilm) := rfl
theorem p_okR_mp (m : Nat) (k : Nat) : okR m (AV.mp k) = okC m (AV.mp k) := rfl
theorem p_renL_nilm (ix : List Nat) : renL ix (AV.nilm) = (AV.nilm) := rfl
theorem p_renL_mp (ix : List Nat) (k : Nat) : renL ix (AV.mp k) = AV.mp (getN ix k) := rfl
theorem p_renC_nilm (ix : List Nat) : renC ix (AV.nilm) = renL ix (AV.nilm) := rfl
theorem p_renC_mp (ix : List Nat) (k : Nat) : renC ix (AV.mp k) = renL ix (AV.mp k) := rfl
theorem p_ren_nilm (ix : List Nat) : ren ix (AV.nilm) = renC ix (AV.nilm) := rfl
theorem p_ren_mp (ix : List Nat) (k : Nat) : ren ix (AV.mp k) = renC ix (AV.mp k) := rfl
theorem p_viewN_nilm (m : Nat) (bx : Bx) : viewN (m + 1) bx (AV.nilm) = (AV.nilm) := rfl
theorem p_viewN_mp (m : Nat) (bx : Bx) (k : Nat) : viewN (m + 1) bx (AV.mp k) = AV.any := rfl
theorem p_setE_nilm (o : Nat) (cc : AV) : setE (AV.nilm) o [cc] = cc := rfl
theorem p_setE_mp (o : Nat) (cc : AV) (k : Nat) : setE (AV.mp k) o [cc] = cc := rfl
theorem p_wk_nilm (u : AV) : wk (AV.nilm) u = ((AV.nilm) = u) := by simp [wk]
theorem p_wk_mp (u : AV) (k : Nat) : wk (AV.mp k) u = ((AV.mp k) = u) := by simp [wk]
theorem p_wkN_nilm (u : AV) : wkN (AV.nilm) u = wk (AV.nilm) u := rfl
theorem p_wkN_mp (u : AV) (k : Nat) : wkN (AV.mp k) u = wk (AV.mp k) u := rfl
theorem p_rest_nilm (F : List AV → Bx → Prop) (x : AV) (l : List AV) (d : Option Nat) (bx : Bx) : awpRest F (x :: l) d (AV.nilm) bx = F (putT (x :: l) d (AV.nilm)) bx := rfl
theorem p_rest_mp (F : List AV → Bx → Prop) (x : AV) (l : List AV) (d : Option Nat) (bx : Bx) (k : Nat) : awpRest F (x :: l) d (AV.mp k) bx = F (putT (x :: l) d (AV.mp k)) bx := rfl
theorem p_embT_nilm (m : Nat) (ix : List Nat) (l1 : List AV) (u : AV) (l2 : List AV) : embT m ix ((AV.nilm) :: l1) (u :: l2) = (okR m (AV.nilm) = true ∧ wk (ren ix (AV.nilm)) u ∧ embT m ix l1 l2) := rfl
theorem p_embT_mp (m : Nat) (ix : List Nat) (l1 : List AV) (u : AV) (l2 : List AV) (k : Nat) : embT m ix ((AV.mp k) :: l1) (u :: l2) = (okR m (AV.mp k) = true ∧ wk (ren ix (AV.mp k)) u ∧ embT m ix l1 l2) := rfl
theorem p_do_isnp (P : Program) (K : AV → Bx → Prop) (bx : Bx) (b : Bool) (x : AV) : awpDo P (.isnp b x) K bx = match evP (AOp.isnp b x) with | some v => K v bx | none => False := rfl
theorem p_map_isnp {α β : Type} (f : α → β) (b : Bool) (x : α) : AOp.map f (.isnp b x) = .isnp b (f x) := rfl
theorem p_ev_isnp0 (b : Bool) : evP (.isnp b .nilp) = some (.bool (!b)) := rfl
theorem p_ev_isnp1 (b : Bool) (sz k i off : Nat) : evP (.isnp b (.ptr sz k i off)) = some (.bool b) := rfl
theorem p_ev_isnp2 (b : Bool) (l : List AV) : evP (.isnp b (.rptr l)) = some (.bool b) := rfl
theorem p_map_mkm {α β : Type} (f : α → β) : AOp.map f (.mkm : AOp α) = .mkm := rfl
theorem p_map_mset {α β : Type} (f : α → β) (x k : α) : AOp.map f (.mset x k) = .mset (f x) (f k) := rfl
theorem p_map_clrm {α β : Type} (f : α → β) (x : α) : AOp.map f (.clrm x) = .clrm (f x) := rfl
theorem p_do_mkm (P : Program) (K : AV → Bx → Prop) (bx : Bx) : awpDo P .mkm K bx = K (.mp bx.length) (bx ++ [some (1, [.agg []])]) := rfl
theorem p_do_mset (P : Program) (K : AV → Bx → Prop) (bx : Bx) (x k : AV) : awpDo P (.mset x k) K bx = match evW bx (AOp.mset x k) with | some (v, bx') => K v bx' | none => False := rfl
theorem p_do_clrm (P : Program) (K : AV → Bx → Prop) (bx : Bx) (x : AV) : awpDo P (.clrm x) K bx = match evW bx (AOp.clrm x) with | some (v, bx') => K v bx' | none => False := rfl
theorem p_ev_mset (bx : Bx) (b : Nat) (n : Int) : evW bx (.mset (.mp b) (.int .i64 n)) = match decide (0 ≤ n), bxGet bx b with | true, some (s, [.agg []]) => (match decide (0 < s) with | true => some (.tuple [], bxSet bx b (some (insK n.toNat s, [.agg []]))) | false => none) | _, _ => none := rfl
theorem p_ev_clrm (bx : Bx) (b : Nat) : evW bx (.clrm (.mp b)) = match bxGet bx b with | some (s, [.agg []]) => (match decide (0 < s) with | true => some (.tuple [], bxSet bx b (some (1, [.agg []]))) | false => none) | _ => none := rfl
theorem p_pos (n : Nat) : decide (0 < n + 1) = true := by simp
theorem p_ins (x : Nat) (ks : List Nat) : insK x (encK ks + 1) = encK (insS x ks) + 1 := insK_enc x ks
theorem p_mp (a b : Nat) : (AV.mp a = AV.mp b) = (a = b) := by simp
theorem smp : ((((((type_of% @p_AV_cells_nilm) ∧ ((type_of% @p_AV_cells_mp) ∧ (type_of% @p_AV_okSt_nilm))) ∧ ((type_of% @p_AV_okSt_mp) ∧ ((type_of% @p_AV_isInt_nilm) ∧ (type_of% @p_AV_isInt_mp)))) ∧ (((type_of% @p_AV_isSl_nilm) ∧ ((type_of% @p_AV_isSl_mp) ∧ (type_of% @p_AV_natOf_nilm))) ∧ (((type_of% @p_AV_natOf_mp) ∧ (type_of% @p_AV_flat_nilm)) ∧ ((type_of% @p_AV_flat_mp) ∧ (type_of% @p_okL_nilm))))) ∧ ((((type_of% @p_okL_mp) ∧ ((type_of% @p_okC_nilm) ∧ (type_of% @p_okC_mp))) ∧ ((type_of% @p_okR_nilm) ∧ ((type_of% @p_okR_mp) ∧ (type_of% @p_renL_nilm)))) ∧ (((type_of% @p_renL_mp) ∧ ((type_of% @p_renC_nilm) ∧ (type_of% @p_renC_mp))) ∧ (((type_of% @p_ren_nilm) ∧ (type_of% @p_ren_mp)) ∧ ((type_of% @p_viewN_nilm) ∧ (type_of% @p_viewN_mp)))))) ∧ (((((type_of% @p_setE_nilm) ∧ ((type_of% @p_setE_mp) ∧ (type_of% @p_wk_nilm))) ∧ ((type_of% @p_wk_mp) ∧ ((type_of% @p_wkN_nilm) ∧ (type_of% @p_wkN_mp)))) ∧ (((type_of% @p_rest_nilm) ∧ ((type_of% @p_rest_mp) ∧ (type_of% @p_embT_nilm))) ∧ (((type_of% @p_embT_mp) ∧ (type_of% @p_do_isnp)) ∧ ((type_of% @p_map_isnp) ∧ (type_of% @p_ev_isnp0))))) ∧ ((((type_of% @p_ev_isnp1) ∧ ((type_of% @p_ev_isnp2) ∧ (type_of% @p_map_mkm))) ∧ ((type_of% @p_map_mset) ∧ ((type_of% @p_map_clrm) ∧ (type_of% @p_do_mkm)))) ∧ (((type_of% @p_do_mset) ∧ ((type_of% @p_do_clrm) ∧ (type_of% @p_ev_mset))) ∧ (((type_of% @p_ev_clrm) ∧ (type_of% @p_pos)) ∧ ((type_of% @p_ins) ∧ (type_of% @p_mp))))))) := ⟨⟨⟨⟨⟨@p_AV_cells_nilm, ⟨@p_AV_cells_mp, @p_AV_okSt_nilm⟩⟩, ⟨@p_AV_okSt_mp, ⟨@p_AV_isInt_nilm, @p_AV_isInt_mp⟩⟩⟩, ⟨⟨@p_AV_isSl_nilm, ⟨@p_AV_isSl_mp, @p_AV_natOf_nilm⟩⟩, ⟨⟨@p_AV_natOf_mp, @p_AV_flat_nilm⟩, ⟨@p_AV_flat_mp, @p_okL_nilm⟩⟩⟩⟩, ⟨⟨⟨@p_okL_mp, ⟨@p_okC_nilm, @p_okC_mp⟩⟩, ⟨@p_okR_nilm, ⟨@p_okR_mp, @p_renL_nilm⟩⟩⟩, ⟨⟨@p_renL_mp, ⟨@p_renC_nilm, @p_renC_mp⟩⟩, ⟨⟨@p_ren_nilm, @p_ren_mp⟩, ⟨@p_viewN_nilm, @p_viewN_mp⟩⟩⟩⟩⟩, ⟨⟨⟨⟨@p_setE_nilm, ⟨@p_setE_mp, @p_wk_nilm⟩⟩, ⟨@p_wk_mp, ⟨@p_wkN_nilm, @p_wkN_mp⟩⟩⟩, ⟨⟨@p_rest_nilm, ⟨@p_rest_mp, @p_embT_nilm⟩⟩, ⟨⟨@p_embT_mp, @p_do_isnp⟩, ⟨@p_map_isnp, @p_ev_isnp0⟩⟩⟩⟩, ⟨⟨⟨@p_ev_isnp1, ⟨@p_ev_isnp2, @p_map_mkm⟩⟩, ⟨@p_map_mset, ⟨@p_map_clrm, @p_do_mkm⟩⟩⟩, ⟨⟨@p_do_mset, ⟨@p_do_clrm, @p_ev_mset⟩⟩, ⟨⟨@p_ev_clrm, @p_pos⟩, ⟨@p_ins, @p_mp⟩⟩⟩⟩⟩⟩
end Go.Proofs.Ytbmcjhjbifojnaa.Av
/- What arguments of laws stand for, by kind of argument. -/
namespace Go.Proofs.Ytbmcjhjbifojnaa.Av
set_option linter.unusedVariables false
def tyInt : Ty := .int .i64
def tyInts : Ty := .sl tyInt
def tyRg : Ty := .st (.cons (.int .i64) (.one (.int .i64)))
def tyRgs : Ty := .sl tyRg
def tyDoms : Ty := .sl tyRgs
def tyCon : Ty := .st (.cons tyInt (.cons tyInts (.cons tyInts (.one tyInt))))
def tyCons : Ty := .sl tyCon
def tyArr (n : Nat) (e : Ty) : Ty := .arr n e
def i64In (n : Int) : Prop := -9223372036854775808 ≤ n ∧ n ≤ 9223372036854775807
def lenIn {α : Type} (l : List α) : Prop := l.length ≤ 9223372036854775807
def conIn (c : Con) : Prop := i64In c.1 ∧ lenIn c.2.1 ∧ lenIn c.2.2.1 ∧ i64In c.2.2.2 ∧ (∀ n ∈ c.2.1, i64In n) ∧ ∀ n ∈ c.2.2.1, i64In n
def rgIn (r : Rg) : Prop := i64In r.1 ∧ i64In r.2
section
variable {H : Type} {enc : TypeId × Value → H} {P : Program} {w : World} {base : Nat} {spare : Nat → Bool} {held : Bool} {r : Reach} {b0 : Nat} {t : TypeId} {v : Value} {d : DataW H} {p : List MemPlace}
theorem read_int (hc : (tyInt.chk P).1 t = true) (hval : Value.okWide P w r b0 t v) (hd : DataW.Trod enc P w base spare held t v d p) :
    ∃ x : Int, i64In x ∧ RepF (fun b => w.heap[b]?) (.int .i64 x) v := read_arg tyInt hc hval hd
theorem read_ints (hc : (tyInts.chk P).1 t = true) (hval : Value.okWide P w r b0 t v) (hd : DataW.Trod enc P w base spare held t v d p) :
    ∃ x : List Int, (lenIn x ∧ ∀ n ∈ x, i64In n) ∧ RepF (fun b => w.heap[b]?) (eIs x) v := read_arg tyInts hc hval hd
theorem read_rgs (hc : (tyRgs.chk P).1 t = true) (hval : Value.okWide P w r b0 t v) (hd : DataW.Trod enc P w base spare held t v d p) :
    ∃ x : List Rg, (lenIn x ∧ ∀ n ∈ x, rgIn n) ∧ RepF (fun b => w.heap[b]?) (eRgs x) v := read_arg tyRgs hc hval hd
theorem read_doms (hc : (tyDoms.chk P).1 t = true) (hval : Value.okWide P w r b0 t v) (hd : DataW.Trod enc P w base spare held t v d p) :
    ∃ x : List (List Rg), (lenIn x ∧ ∀ n ∈ x, lenIn n ∧ ∀ k ∈ n, rgIn k) ∧ RepF (fun b => w.heap[b]?) (eDoms x) v := read_arg tyDoms hc hval hd
theorem read_con (hc : (tyCon.chk P).1 t = true) (hval : Value.okWide P w r b0 t v) (hd : DataW.Trod enc P w base spare held t v d p) :
    ∃ x : Con, conIn x ∧ RepF (fun b => w.heap[b]?) (eCon x) v := by
  obtain ⟨x, ⟨h1, ⟨h2, h3⟩, ⟨h4, h5⟩, h6⟩, hr⟩ := read_arg tyCon hc hval hd
  exact ⟨x, ⟨h1, h2, h4, h6, h3, h5⟩, hr⟩
theorem read_arr (n : Nat) (hc : ((tyArr n tyInt).chk P).1 t = true) (hval : Value.okWide P w r b0 t v) (hd : DataW.Trod enc P w base spare held t v d p) :
    ∃ x : List Int, (x.length = n ∧ ∀ n ∈ x, i64In n) ∧ RepF (fun b => w.heap[b]?) (.agg (x.map eI)) v := by
  obtain ⟨x, hx, hr⟩ := read_arg (tyArr n tyInt) hc hval hd
  refine ⟨x, hx, ?_⟩
  have : x.flatMap tyInt.enc = x.map eI := by
    clear hr hx
    induction x with
    | nil => rfl
    | cons a l ih => simp only [List.flatMap_cons, ih]; rfl
  have h2 : (tyArr n tyInt).el ((tyArr n tyInt).enc x) = .agg (x.flatMap tyInt.enc) := rfl
  rw [h2, this] at hr
  exact hr
end
end Go.Proofs.Ytbmcjhjbifojnaa.Av
