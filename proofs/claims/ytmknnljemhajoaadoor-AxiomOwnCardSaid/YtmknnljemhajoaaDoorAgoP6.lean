/- Package axiom: Build. Conditions: none. -/
import Derived.Test.YtmknnljemhajoaaDoorAgoP5
import Derived.Test.YtmknnljemhajoaaDoorAgoP4
set_option maxRecDepth 100000
set_option linter.unusedSimpArgs false
set_option linter.unusedVariables false
namespace Go.Ago
attribute [local irreducible] vck
theorem body_slices_Equal_int {T : Tab} : sp_sameI.Body T V_slices_Equal_int L_slices_Equal_int R_slices_Equal_int := by
  rintro ⟨a, f, b, g⟩ hlen
  refine .inl ⟨rfl, ?_⟩
  unfold V_slices_Equal_int L_slices_Equal_int R_slices_Equal_int
  simp only [↓Z1g, ↓Z24, ↓Z1s, ↓Z04, ↓Z2p, ↓Z2o, nilG_d, nilG_r, ↓Z1i, ↓Z1a, ↓Z0f, ↓Z1t, ↓Z0d, ↓Z1f, ↓Z34, ↓Z3a, ↓Z26, ↓Z1q, ↓Z2r, ↓Z2h, ↓Z1e, ↓Z3d, ↓retK_n, ↓Z3t, ↓Z3v, ↓Z3u, ↓famK_n, ↓Z42, ↓famK_r, ↓Z0l, ↓Z08, ↓Z1j, ↓Z0e, ↓Z1v, nf_mk, Z07, Z1h, Z2z, Z1b, Z32, evN, Z2d, Z1d, Z31, feet_t, Z1c, Z0n, Z19, Z2y, Z2j, Z2e, Z1o, Z2f, evT, Opd.ev, Z01, Z00, Z30, app_no, Z3l, Z29, Z1u, Z2b, Z2g, Z3r, Z18, Z09, Z3b, LOp.isNew, State.prune, Z3p, Z2m, AV.leaf, Heap.at, Z0g, Z0b, Z1k, Z0j, Z03, idx_I, idx_W, rowW, Z2i, Z35, Z27, Z1m, rowB, Z38, Z36, rowN, lens_W, Z3x, Z1l, Z17, w_or, w_and, Z39, w_and1, w_shl, w_shl1, w_shr, w_sub1, w_neg, w_add, w_bit, w_eq0, w_eq1, w_eq, Bool.decide_eq_true, Z3o, Z3n, Z3q, Z2s, Z1w, Z05, Z0c, Z0o, Z02, Z1r, rowI, RatG.row, LocG.row, ActG.row, StepG.row, StampG.row, ActG.av, ActG.eta, RatG.eta, LocG.eta, beq_true, beq_false, Z2n, Z2x, Z2q, Z2w, Z14, Z0r, Z12, Z13, Z0q, Z0p, Z0h, List.length_set, List.length_replicate, Z06, Int.reduceToNat, evLen, Z2c, Z40, Src.all, Src.len, Src.leaf, Src.leafN, Z3h, aliveQ, joinV, Z0m, Z0t, Z0u, Z0v, Z0w, Z0x, Z0y, Z0z, mkVec, drows, evMk, List.length_map, Z25, Z28, List.take_length, List.take_left, List.length_append, Nat.le_add_right, ite_self, List.take_of_length_le, Z3m, intOr, intOpd, Option.isSome_none, Option.isSome_some, Nat.sub_zero, loadQ, loadT, evBin, evUn, Z15, Z16, binT, binQ, chk, Z3y, List.contains_cons, List.contains_nil, Bool.or_false, Bool.false_or, Bool.and_self, resQ, resV, resT, pickV, Z2a, evTake, Z3j, fnOf, Z3e, isD, HO.drow, viewT, Z41, evEq, eqV, eqK, eqC1, buildQ, buildT, Z3g, Z3c, lens_I, Z3s, Z2v, Z1z, Z2u, Z1y, Z2t, Z1x, Z20, Z10, Z11, Z0i, List.mem_cons, List.not_mem_nil, or_false, forall_eq, putRow, Z3i, Z23, RetS, RetF, RetD, AV.frz, AV.frzL, AV.freshP, AV.freshL, DV.less, Z2k, Z21, Z2l, Z22, Z0k, Z0a, Option.some.injEq, AV.tup.injEq, AV.agg.injEq, List.cons.injEq, DV.list.injEq, List.isEmpty_nil, Nat.le_refl, AV.d.injEq, DV.int.injEq, DV.bool.injEq, ↓reduceIte, Nat.reduceEqDiff, Nat.reduceAdd, Nat.reduceBEq, List.length_cons, List.length_nil, List.replicate_succ, List.replicate_zero, List.nil_append, List.cons_append, List.append_nil, List.foldl_cons, List.foldl_nil, List.map_cons, List.map_nil, List.all_cons, List.all_nil, List.set_cons_zero, List.set_cons_succ, List.getD_cons_zero, List.getD_cons_succ, List.drop_zero, List.drop_succ_cons, List.take_succ_cons, List.take_zero, List.flatten_cons, List.flatten_nil, Bool.true_and, Bool.and_true, Bool.not_true, Bool.not_false, true_and, and_true, true_or, or_true, Option.bind_some, Option.map_some, decide_true, decide_false, beq_self_eq_true, true_implies, false_implies, implies_true, not_true_eq_false, not_false_eq_true, and_self, Bool.and_false, Bool.false_and, Nat.reduceLT, Nat.reduceLeDiff, List.reverse_cons, List.reverse_nil, Nat.zero_add, Nat.add_zero, Bool.false_eq_true, List.getElem?_cons_zero, Nat.reduceMul, Nat.mul_one, sp_sameI]
  have hm : maxLen = 9223372036854775807 := rfl
  have hlen : a.length ≤ maxLen := hlen
  refine ⟨fun h => ?_, fun h => ?_⟩
  · have hab : a.length = b.length := by omega
    refine Loop.fam [0, 1, 12, 13] (fun i : Nat => ⟨[(0, .d (.list (a.map rowI) f)), (1, .d (.list (b.map rowI) g)), (12, .d (.int .i64 a.length)), (13, .d (.int .i64 (i : Nat)))], []⟩) (fun i => i ≤ a.length ∧ a.take i = b.take i) (fun i => a.length - i) 0 [] (by simp) (by simp)
      (by simp only [State.can, AV.can, AV.canL, HO.can, Z0s, idx, Z01, Z00, Heap.at, Nat.reduceBEq, ↓reduceIte, Nat.reduceEqDiff, Option.getD_some, Option.map_some, List.map_cons, List.map_nil, List.getD_cons_zero, List.getD_cons_succ]; rfl) ⟨by omega, by simp⟩ ?_
    rintro i ⟨h1, h2⟩
    simp only [↓Z1g, ↓Z24, ↓Z1s, ↓Z04, ↓Z2p, ↓Z2o, nilG_d, nilG_r, ↓Z1i, ↓Z1a, ↓Z0f, ↓Z1t, ↓Z0d, ↓Z1f, ↓Z34, ↓Z3a, ↓Z26, ↓Z1q, ↓Z2r, ↓Z2h, ↓Z1e, ↓Z3d, ↓retK_n, ↓Z3t, ↓Z3v, ↓Z3u, ↓famK_n, ↓Z42, ↓famK_r, ↓Z0l, ↓Z08, ↓Z1j, ↓Z0e, ↓Z1v, nf_mk, Z07, Z1h, Z2z, Z1b, Z32, evN, Z2d, Z1d, Z31, feet_t, Z1c, Z0n, Z19, Z2y, Z2j, Z2e, Z1o, Z2f, evT, Opd.ev, Z01, Z00, Z30, app_no, Z3l, Z29, Z1u, Z2b, Z2g, Z3r, Z18, Z09, Z3b, LOp.isNew, State.prune, Z3p, Z2m, AV.leaf, Heap.at, Z0g, Z0b, Z1k, Z0j, Z03, idx_I, idx_W, rowW, Z2i, Z35, Z27, Z1m, rowB, Z38, Z36, rowN, lens_W, Z3x, Z1l, Z17, w_or, w_and, Z39, w_and1, w_shl, w_shl1, w_shr, w_sub1, w_neg, w_add, w_bit, w_eq0, w_eq1, w_eq, Bool.decide_eq_true, Z3o, Z3n, Z3q, Z2s, Z1w, Z05, Z0c, Z0o, Z02, Z1r, rowI, RatG.row, LocG.row, ActG.row, StepG.row, StampG.row, ActG.av, ActG.eta, RatG.eta, LocG.eta, beq_true, beq_false, Z2n, Z2x, Z2q, Z2w, Z14, Z0r, Z12, Z13, Z0q, Z0p, Z0h, List.length_set, List.length_replicate, Z06, Int.reduceToNat, evLen, Z2c, Z40, Src.all, Src.len, Src.leaf, Src.leafN, Z3h, aliveQ, joinV, Z0m, Z0t, Z0u, Z0v, Z0w, Z0x, Z0y, Z0z, mkVec, drows, evMk, List.length_map, Z25, Z28, List.take_length, List.take_left, List.length_append, Nat.le_add_right, ite_self, List.take_of_length_le, Z3m, intOr, intOpd, Option.isSome_none, Option.isSome_some, Nat.sub_zero, loadQ, loadT, evBin, evUn, Z15, Z16, binT, binQ, chk, Z3y, List.contains_cons, List.contains_nil, Bool.or_false, Bool.false_or, Bool.and_self, resQ, resV, resT, pickV, Z2a, evTake, Z3j, fnOf, Z3e, isD, HO.drow, viewT, Z41, evEq, eqV, eqK, eqC1, buildQ, buildT, Z3g, Z3c, lens_I, Z3s, Z2v, Z1z, Z2u, Z1y, Z2t, Z1x, Z20, Z10, Z11, Z0i, List.mem_cons, List.not_mem_nil, or_false, forall_eq, putRow, Z3i, Z23, RetS, RetF, RetD, AV.frz, AV.frzL, AV.freshP, AV.freshL, DV.less, Z2k, Z21, Z2l, Z22, Z0k, Z0a, Option.some.injEq, AV.tup.injEq, AV.agg.injEq, List.cons.injEq, DV.list.injEq, List.isEmpty_nil, Nat.le_refl, AV.d.injEq, DV.int.injEq, DV.bool.injEq, ↓reduceIte, Nat.reduceEqDiff, Nat.reduceAdd, Nat.reduceBEq, List.length_cons, List.length_nil, List.replicate_succ, List.replicate_zero, List.nil_append, List.cons_append, List.append_nil, List.foldl_cons, List.foldl_nil, List.map_cons, List.map_nil, List.all_cons, List.all_nil, List.set_cons_zero, List.set_cons_succ, List.getD_cons_zero, List.getD_cons_succ, List.drop_zero, List.drop_succ_cons, List.take_succ_cons, List.take_zero, List.flatten_cons, List.flatten_nil, Bool.true_and, Bool.and_true, Bool.not_true, Bool.not_false, true_and, and_true, true_or, or_true, Option.bind_some, Option.map_some, decide_true, decide_false, beq_self_eq_true, true_implies, false_implies, implies_true, not_true_eq_false, not_false_eq_true, and_self, Bool.and_false, Bool.false_and, Nat.reduceLT, Nat.reduceLeDiff, List.reverse_cons, List.reverse_nil, Nat.zero_add, Nat.add_zero, Bool.false_eq_true, List.getElem?_cons_zero, Nat.reduceMul, Nat.mul_one]
    refine ⟨fun h3 => ?_, fun h3 => ?_⟩
    · have h3 : i < a.length := by omega
      rw [Z43 h3 hlen]
      refine ⟨⟨by omega, by omega⟩, ⟨by omega, by omega⟩, fun h4 => ?_, fun h4 => ?_⟩
      · exact Z1p.mk [] (i + 1) (by simp) (by simp) (by simp only [State.can, AV.can, AV.canL, HO.can, Z0s, idx, Z01, Z00, Heap.at, Nat.reduceBEq, ↓reduceIte, Nat.reduceEqDiff, Option.getD_some, Option.map_some, List.map_cons, List.map_nil, List.getD_cons_zero, List.getD_cons_succ]) ⟨by omega, take_next (d := default) h2 h3 (by omega) h4⟩ (by omega)
      · simp only [Bool.false_eq, decide_eq_false_iff_not]
        intro e; subst e; exact h4 rfl
    · have : i = a.length := by omega
      subst this
      exact (decide_eq_true (take_all h2 hab)).symm
  · simp only [Bool.false_eq, decide_eq_false_iff_not]
    intro e; subst e; exact h rfl
theorem take_sortI (l : List Int) : (sortI l).take l.length = sortI l := List.take_of_length_le (by rw [sortI_len]; exact Nat.le_refl _)
def okR (D : List DeedG) (w : Int) (i : Nat) : Bool :=
  decide (0 ≤ w) && decide (w < D.length) && !decide (w = i) && (D.getD w.toNat default).act.isW && decide ((D.getD w.toNat default).act.loc = (D.getD i default).act.loc) && decide ((D.getD w.toNat default).act.new = (D.getD i default).act.old)
/-- The readers so far: what is left to be read from, and who reads from whom. -/
def rdG (D : List DeedG) (fr : List Int) : Nat → Option (List Int × List RatG)
  | 0 => some (fr, [])
  | i + 1 => match rdG D fr i with
    | none => none
    | some (r, ps) => if (D.getD i default).act.isR then (match r with
      | [] => none
      | w :: r' => if okR D w i then some (r', ps ++ [⟨w, i⟩]) else none) else some (r, ps)
theorem rd_no {D : List DeedG} {fr r : List Int} {ps : List RatG} {i : Nat} (h : rdG D fr i = some (r, ps)) (hR : (D.getD i default).act.isR = false) : rdG D fr (i + 1) = some (r, ps) := by
  unfold rdG; rw [h]; simp only [hR]; rfl
theorem rd_yes {D : List DeedG} {fr r : List Int} {ps : List RatG} {i : Nat} (h : rdG D fr i = some (r, ps)) (hR : (D.getD i default).act.isR = true) (h0 : r ≠ []) (hk : okR D (r.getD 0 default) i = true) : rdG D fr (i + 1) = some (r.drop 1, ps ++ [⟨r.getD 0 default, i⟩]) := by
  unfold rdG; rw [h]; simp only [hR]
  cases r with
  | nil => exact absurd rfl h0
  | cons w r =>
    have hk : okR D w i = true := hk
    simp only [if_true, hk]; rfl
theorem rd_end {D : List DeedG} {fr : List Int} {ps : List RatG} {i : Nat} (h : rdG D fr i = some ([], ps)) (hR : (D.getD i default).act.isR = true) : rdG D fr (i + 1) = none := by
  unfold rdG; rw [h]; simp only [hR, if_true]
theorem rd_bad {D : List DeedG} {fr r : List Int} {ps : List RatG} {i : Nat} (h : rdG D fr i = some (r, ps)) (hR : (D.getD i default).act.isR = true) (hk : okR D (r.getD 0 default) i = false) : rdG D fr (i + 1) = none := by
  unfold rdG; rw [h]; simp only [hR, if_true]
  cases r with
  | nil => rfl
  | cons w r =>
    have hk : okR D w i = false := hk
    simp only [hk]; rfl
theorem rd_none {D : List DeedG} {fr : List Int} {i n : Nat} (h : rdG D fr i = none) (hn : i ≤ n) : rdG D fr n = none := by
  induction n with
  | zero => rwa [show i = 0 by omega] at h
  | succ n ih =>
    by_cases e : i = n + 1
    · rwa [← e]
    · unfold rdG; rw [ih (by omega)]
def wantTo (D : List DeedG) (n : Nat) (loc : Nat) : Nat → List Int
  | 0 => []
  | i + 1 => if n ≤ i ∧ (D.getD i default).act.isW = true ∧ (D.getD i default).act.loc = loc then wantTo D n loc i ++ [(i : Int)] else wantTo D n loc i
/-- The pairs that begin at a place of a list. -/
def pairsAt (a : List Int) (i : Nat) (k : Nat) : List RatG := ((a.drop (i + 1)).take k).map fun x => ⟨a.getD i default, x⟩
def pairsTo (a : List Int) : Nat → List RatG
  | 0 => []
  | i + 1 => pairsTo a i ++ pairsAt a i (a.length - (i + 1))
def coG (D : List DeedG) (n : Nat) (order : List (List Int × Bool)) : Nat → Option (List RatG)
  | 0 => some []
  | t + 1 => match coG D n order t with
    | none => none
    | some ps => if sortI (order.getD t default).1 = wantTo D n t D.length then some (ps ++ pairsTo ((t : Int) :: (order.getD t default).1) ((order.getD t default).1.length + 1)) else none
theorem deeds_le (l : List LocG) (acts : List (List ActG × Bool)) : (deedsG l acts).1.length ≤ 64 := by
  unfold deedsG
  split
  · simp
  · split
    · simp
    · split
      · simp
      · simp only; omega
theorem co_none {D : List DeedG} {n : Nat} {order : List (List Int × Bool)} {i k : Nat} (h : coG D n order i = none) (hk : i ≤ k) : coG D n order k = none := by
  induction k with
  | zero => rwa [show i = 0 by omega] at h
  | succ k ih =>
    by_cases e : i = k + 1
    · rwa [← e]
    · unfold coG; rw [ih (by omega)]
def WG.none : WG := ⟨[], false, [], false, [], false, [], false⟩
def buildG (l : List LocG) (acts : List (List ActG × Bool)) (fr : List Int) (order : List (List Int × Bool)) : WG × Int :=
  if (deedsG l acts).2 ≠ 0 then (WG.none, (deedsG l acts).2) else
  match rdG (deedsG l acts).1 fr (deedsG l acts).1.length with
  | .none => (WG.none, 3)
  | some (rest, rf) => if rest ≠ [] ∨ order.length ≠ l.length then (WG.none, 3) else
    match coG (deedsG l acts).1 l.length order l.length with
    | .none => (WG.none, 3)
    | some co => (⟨l, false, (deedsG l acts).1, false, ofG (deedsG l acts).1.length rf, false, ofG (deedsG l acts).1.length co, false⟩, 0)
def smallB (l : List LocG) (acts : List (List ActG × Bool)) (fr : List Int) (order : List (List Int × Bool)) : Prop := smallA l acts ∧ fr.length ≤ 100 ∧ order.length ≤ 20 ∧ ∀ x ∈ order, x.1.length ≤ 100
def sp_Build : Sp := ⟨(List LocG × Bool × List (List ActG × Bool) × Bool) × (List Int × Bool × List (List Int × Bool) × Bool), fun x => [.d (.list (x.1.1.map LocG.row) x.1.2.1), .d (.list (x.1.2.2.1.map rowLA) x.1.2.2.2), .d (.list (x.2.1.map rowI) x.2.2.1), .d (.list (x.2.2.2.1.map rowLI) x.2.2.2.2)],
  fun x => .data (smallB x.1.1 x.1.2.2.1 x.2.1 x.2.2.2.1) (.tup [(buildG x.1.1 x.1.2.2.1 x.2.1 x.2.2.2.1).1.av, .d (.int .i64 (buildG x.1.1 x.1.2.2.1 x.2.1 x.2.2.2.1).2)]) false⟩
theorem at_Build (l : List LocG) (f : Bool) (acts : List (List ActG × Bool)) (g : Bool) (fr : List Int) (ff : Bool) (order : List (List Int × Bool)) (og : Bool) : sp_Build.at [.d (.list (l.map LocG.row) f), .d (.list (acts.map rowLA) g), .d (.list (fr.map rowI) ff), .d (.list (order.map rowLI) og)] =
    .data (smallB l acts fr order) (.tup [(buildG l acts fr order).1.av, .d (.int .i64 (buildG l acts fr order).2)]) false :=
  Sp.at_enc (s := sp_Build) (fun x y h => by
    obtain ⟨⟨a, b, c, d⟩, e, f, g, i⟩ := x; obtain ⟨⟨a', b', c', d'⟩, e', f', g', i'⟩ := y
    simp only [sp_Build, List.cons.injEq, AV.d.injEq, DV.list.injEq, and_true] at h
    obtain ⟨⟨h1, h2⟩, ⟨h3, h4⟩, ⟨h5, h6⟩, h7, h8⟩ := h
    rw [Z37 LocG.row_inj h1, h2, Z37 rowLA_inj h3, h4, Z37 rowI_inj h5, h6, Z37 rowLI_inj h7, h8]) ((l, f, acts, g), fr, ff, order, og)
def rSt (l : List LocG) (f : Bool) (D : List DeedG) (order : List (List Int × Bool)) (og : Bool) (x : Nat × (List Int × Bool) × List RatG) : State :=
  ⟨[(0, .d (.list (l.map LocG.row) f)), (2, .d (.list (x.2.1.1.map rowI) x.2.1.2)), (3, .d (.list (order.map rowLI) og)), (8, .ptr 0 4 0 0), (10, .d (.list (D.map DeedG.row) false)), (12, .ref 1 2 0 x.2.2.length true), (13, .d (.list [] true)), (38, .d (.list (D.map DeedG.row) false)), (39, .d (.int .i64 D.length)), (40, .d (.int .i64 x.1))],
    [.vec 4 [[.d (.list [] true), .d (.list [] true), .d (.list [] true), .d (.list [] true)]], .dvec 2 (x.2.2.map RatG.row)]⟩
def rInv (D : List DeedG) (fr : List Int) (x : Nat × (List Int × Bool) × List RatG) : Prop := x.1 ≤ D.length ∧ rdG D fr x.1 = some (x.2.1.1, x.2.2) ∧ x.2.1.1.length ≤ fr.length ∧ x.2.2.length ≤ x.1
def cSt (l : List LocG) (f : Bool) (D : List DeedG) (order : List (List Int × Bool)) (og : Bool) (ps : List RatG) (x : Nat × List RatG) : State :=
  ⟨[(0, .d (.list (l.map LocG.row) f)), (8, .ptr 0 4 0 0), (10, .d (.list (D.map DeedG.row) false)), (12, .ref 1 2 0 ps.length true), (13, .ref 2 2 0 x.2.length true), (121, .d (.list (order.map rowLI) og)), (122, .d (.int .i64 order.length)), (123, .d (.int .i64 x.1))],
    [.vec 4 [[.d (.list [] true), .d (.list [] true), .d (.list [] true), .d (.list [] true)]], .dvec 2 (ps.map RatG.row), .dvec 2 (x.2.map RatG.row)]⟩
def cInv (D : List DeedG) (n : Nat) (order : List (List Int × Bool)) (x : Nat × List RatG) : Prop := x.1 ≤ order.length ∧ coG D n order x.1 = some x.2 ∧ x.2.length ≤ 10201 * x.1
def wSt (l : List LocG) (f : Bool) (D : List DeedG) (order : List (List Int × Bool)) (og : Bool) (ps co : List RatG) (t : Nat) (i : Nat) : State :=
  ⟨[(0, .d (.list (l.map LocG.row) f)), (8, .ptr 0 4 0 0), (10, .d (.list (D.map DeedG.row) false)), (12, .ref 1 2 0 ps.length true), (13, .ref 2 2 0 co.length true), (17, .d (.int .i64 t)), (18, .d (.list ((order.getD t default).1.map rowI) (order.getD t default).2)), (19, .ref 3 1 0 (wantTo D l.length t i).length true),
     (121, .d (.list (order.map rowLI) og)), (122, .d (.int .i64 order.length)), (123, .d (.int .i64 t)), (128, .d (.list (D.map DeedG.row) false)), (129, .d (.int .i64 D.length)), (130, .d (.int .i64 i))],
    [.vec 4 [[.d (.list [] true), .d (.list [] true), .d (.list [] true), .d (.list [] true)]], .dvec 2 (ps.map RatG.row), .dvec 2 (co.map RatG.row), .dvec 1 ((wantTo D l.length t i).map rowI)]⟩
theorem want_le (D : List DeedG) (n loc : Nat) : ∀ i, (wantTo D n loc i).length ≤ i
  | 0 => Nat.le_refl _
  | i + 1 => by
    have := want_le D n loc i
    unfold wantTo; split
    · rw [List.length_append, List.length_singleton]; omega
    · omega
theorem pairsAt_succ {a : List Int} {i k : Nat} (h : i + 1 + k < a.length) : pairsAt a i (k + 1) = pairsAt a i k ++ [⟨a.getD i default, a.getD (i + 1 + k) default⟩] := by
  unfold pairsAt
  rw [List.take_add_one, List.getElem?_drop, List.getElem?_eq_getElem h, List.map_append, List.getD_eq_getElem?_getD (i := i + 1 + k), List.getElem?_eq_getElem h]
  rfl
theorem pairsAt_le (a : List Int) (i k : Nat) : (pairsAt a i k).length ≤ a.length := by unfold pairsAt; rw [List.length_map, List.length_take, List.length_drop]; omega
theorem pairsTo_le (a : List Int) : ∀ i, (pairsTo a i).length ≤ i * a.length
  | 0 => by simp [pairsTo]
  | i + 1 => by
    have := pairsTo_le a i
    have := pairsAt_le a i (a.length - (i + 1))
    rw [pairsTo, List.length_append, Nat.succ_mul]
    omega
def aSt (l : List LocG) (f : Bool) (D : List DeedG) (order : List (List Int × Bool)) (og : Bool) (ps : List RatG) (t : Nat) (a : List Int) (x : Nat × List RatG) : State :=
  ⟨[(0, .d (.list (l.map LocG.row) f)), (8, .ptr 0 4 0 0), (10, .d (.list (D.map DeedG.row) false)), (12, .ref 1 2 0 ps.length true), (13, .ref 2 2 0 x.2.length true), (23, .ref 3 1 0 a.length true), (121, .d (.list (order.map rowLI) og)), (122, .d (.int .i64 order.length)), (123, .d (.int .i64 t)), (169, .d (.int .i64 a.length)), (170, .d (.int .i64 x.1))],
    [.vec 4 [[.d (.list [] true), .d (.list [] true), .d (.list [] true), .d (.list [] true)]], .dvec 2 (ps.map RatG.row), .dvec 2 (x.2.map RatG.row), .dvec 1 (a.map rowI)]⟩
def aInv (a : List Int) (co : List RatG) (x : Nat × List RatG) : Prop := x.1 ≤ a.length ∧ x.2 = co ++ pairsTo a x.1
def pSt (l : List LocG) (f : Bool) (D : List DeedG) (order : List (List Int × Bool)) (og : Bool) (ps : List RatG) (t : Nat) (a : List Int) (i : Nat) (x : Nat × List RatG) : State :=
  ⟨[(0, .d (.list (l.map LocG.row) f)), (8, .ptr 0 4 0 0), (10, .d (.list (D.map DeedG.row) false)), (12, .ref 1 2 0 ps.length true), (13, .ref 2 2 0 x.2.length true), (23, .ref 3 1 0 a.length true), (24, .d (.int .i64 i)), (121, .d (.list (order.map rowLI) og)), (122, .d (.int .i64 order.length)), (123, .d (.int .i64 t)), (169, .d (.int .i64 a.length)), (170, .d (.int .i64 i)),
     (176, .ref 3 1 (i + 1) (a.length - (i + 1)) true), (177, .d (.int .i64 (a.length - (i + 1) : Nat))), (178, .d (.int .i64 x.1))],
    [.vec 4 [[.d (.list [] true), .d (.list [] true), .d (.list [] true), .d (.list [] true)]], .dvec 2 (ps.map RatG.row), .dvec 2 (x.2.map RatG.row), .dvec 1 (a.map rowI)]⟩
def pInv (a : List Int) (co : List RatG) (i : Nat) (x : Nat × List RatG) : Prop := x.1 ≤ a.length - (i + 1) ∧ x.2 = co ++ (pairsTo a i ++ pairsAt a i x.1)
set_option maxHeartbeats 8000000 in
theorem body_axiom_Build {T : Tab} {n1 n2 n3 n4 n5 n6 n7 n8 : Nat} (k1 : Knows T n1 sp_Deeds) (k2 : Knows T n2 (sp_deed_b ActG.isR)) (k3 : Knows T n3 (sp_deed_b ActG.isW)) (k4 : Knows T n4 (cloneS 1 8)) (k5 : KnowsG T n5 ef_sortI.at) (k6 : Knows T n6 sp_sameI) (k7 : Knows T n7 (cloneS 2 16)) (k8 : Knows T n8 sp_Of) :
    sp_Build.Body T V_axiom_Build (L_axiom_Build n1 n2 n3 n4 n5 n6 n7 n8) R_axiom_Build := by
  have F1 := k1.F; have G1 := k1.G; have F2 := k2.F; have G2 := k2.G; have F3 := k3.F; have G3 := k3.G; have F4 := k4.F; have G4 := k4.G; have G5 := k5.G; have F6 := k6.F; have G6 := k6.G; have F7 := k7.F; have G7 := k7.G; have F8 := k8.F; have G8 := k8.G
  rintro ⟨⟨l, f, acts, g⟩, fr, ff, order, og⟩ ⟨hA, h1, h2, h3⟩
  have hA : smallA l acts := hA
  have h1 : fr.length ≤ 100 := h1
  have h2 : order.length ≤ 20 := h2
  have h3 : ∀ x ∈ order, x.1.length ≤ 100 := h3
  refine ⟨rfl, ?_⟩
  unfold V_axiom_Build L_axiom_Build R_axiom_Build
  simp (maxSteps := 3000000) only [↓Z1g, ↓Z24, ↓Z1s, ↓Z04, ↓Z2p, ↓Z2o, nilG_d, nilG_r, ↓Z1i, ↓Z1a, ↓Z0f, ↓Z1t, ↓Z0d, ↓Z1f, ↓Z34, ↓Z3a, ↓Z26, ↓Z1q, ↓Z2r, ↓Z2h, ↓Z1e, ↓Z3d, ↓retK_n, ↓Z3t, ↓Z3v, ↓Z3u, ↓famK_n, ↓Z42, ↓famK_r, ↓Z0l, ↓Z08, ↓Z1j, ↓Z0e, ↓Z1v, nf_mk, Z07, Z1h, Z2z, Z1b, Z32, evN, Z2d, Z1d, Z31, feet_t, Z1c, Z0n, Z19, Z2y, Z2j, Z2e, Z1o, Z2f, evT, Opd.ev, Z01, Z00, Z30, app_no, Z3l, Z29, Z1u, Z2b, Z2g, Z3r, Z18, Z09, Z3b, LOp.isNew, State.prune, Z3p, Z2m, AV.leaf, Heap.at, Z0g, Z0b, Z1k, Z0j, Z03, idx_I, idx_W, rowW, Z2i, Z35, Z27, Z1m, rowB, Z38, Z36, rowN, lens_W, Z3x, Z1l, Z17, w_or, w_and, Z39, w_and1, w_shl, w_shl1, w_shr, w_sub1, w_neg, w_add, w_bit, w_eq0, w_eq1, w_eq, Bool.decide_eq_true, Z3o, Z3n, Z3q, Z2s, Z1w, Z05, Z0c, Z0o, Z02, Z1r, rowI, RatG.row, LocG.row, ActG.row, StepG.row, StampG.row, ActG.av, ActG.eta, RatG.eta, LocG.eta, beq_true, beq_false, Z2n, Z2x, Z2q, Z2w, Z14, Z0r, Z12, Z13, Z0q, Z0p, Z0h, List.length_set, List.length_replicate, Z06, Int.reduceToNat, evLen, Z2c, Z40, Src.all, Src.len, Src.leaf, Src.leafN, Z3h, aliveQ, joinV, Z0m, Z0t, Z0u, Z0v, Z0w, Z0x, Z0y, Z0z, mkVec, drows, evMk, List.length_map, Z25, Z28, List.take_length, List.take_left, List.length_append, Nat.le_add_right, ite_self, List.take_of_length_le, Z3m, intOr, intOpd, Option.isSome_none, Option.isSome_some, Nat.sub_zero, loadQ, loadT, evBin, evUn, Z15, Z16, binT, binQ, chk, Z3y, List.contains_cons, List.contains_nil, Bool.or_false, Bool.false_or, Bool.and_self, resQ, resV, resT, pickV, Z2a, evTake, Z3j, fnOf, Z3e, isD, HO.drow, viewT, Z41, evEq, eqV, eqK, eqC1, buildQ, buildT, Z3g, Z3c, lens_I, Z3s, Z2v, Z1z, Z2u, Z1y, Z2t, Z1x, Z20, Z10, Z11, Z0i, List.mem_cons, List.not_mem_nil, or_false, forall_eq, putRow, Z3i, Z23, RetS, RetF, RetD, AV.frz, AV.frzL, AV.freshP, AV.freshL, DV.less, Z2k, Z21, Z2l, Z22, Z0k, Z0a, Option.some.injEq, AV.tup.injEq, AV.agg.injEq, List.cons.injEq, DV.list.injEq, List.isEmpty_nil, Nat.le_refl, AV.d.injEq, DV.int.injEq, DV.bool.injEq, ↓reduceIte, Nat.reduceEqDiff, Nat.reduceAdd, Nat.reduceBEq, List.length_cons, List.length_nil, List.replicate_succ, List.replicate_zero, List.nil_append, List.cons_append, List.append_nil, List.foldl_cons, List.foldl_nil, List.map_cons, List.map_nil, List.all_cons, List.all_nil, List.set_cons_zero, List.set_cons_succ, List.getD_cons_zero, List.getD_cons_succ, List.drop_zero, List.drop_succ_cons, List.take_succ_cons, List.take_zero, List.flatten_cons, List.flatten_nil, Bool.true_and, Bool.and_true, Bool.not_true, Bool.not_false, true_and, and_true, true_or, or_true, Option.bind_some, Option.map_some, decide_true, decide_false, beq_self_eq_true, true_implies, false_implies, implies_true, not_true_eq_false, not_false_eq_true, and_self, Bool.and_false, Bool.false_and, Nat.reduceLT, Nat.reduceLeDiff, List.reverse_cons, List.reverse_nil, Nat.zero_add, Nat.add_zero, Bool.false_eq_true, List.getElem?_cons_zero, Nat.reduceMul, Nat.mul_one, DeedG.row, Z3z, Z3f, Z33, lens_Deed, Z3w, idx_LA, rowLA_len, rowLA_get, idx_LI, rowLI_len, rowLI_get, sp_Build, F1, G1, F2, G2, F3, G3, F4, G4, G5, F6, G6, F7, G7, F8, G8, at_Deeds, at_deed_b, at_clone, at_sortI, sortIE_d, sortI_len, take_sortI, at_sameI, at_Of]
  refine ⟨hA, fun he => ?_, fun he => ?_⟩
  · generalize hD : (deedsG l acts).1 = D
    refine Loop.nilref 12 2 rfl (Nat.zero_le _) ?_
    refine Loop.fam [0, 2, 3, 8, 10, 12, 13, 38, 39, 40] (rSt l f D order og) (rInv D fr) (fun x => D.length - x.1) (0, (fr, ff), []) [0, 1] (by simp) (by simp) (by simp only [List.length_cons, List.length_nil, List.cons_append, List.nil_append, State.can, AV.can, AV.canL, HO.can, Z0s, idx, Z01, Z00, Heap.at, Nat.reduceBEq, ↓reduceIte, Nat.reduceEqDiff, Option.getD_some, Option.map_some, List.map_cons, List.map_nil, List.getD_cons_zero, List.getD_cons_succ, rSt]; rfl) ⟨by omega, rfl, Nat.le_refl _, Nat.le_refl _⟩ ?_
    rintro ⟨i, ⟨r, rg⟩, ps⟩ ⟨i1, i2, i3, i4⟩
    simp (maxSteps := 3000000) only [↓Z1g, ↓Z24, ↓Z1s, ↓Z04, ↓Z2p, ↓Z2o, nilG_d, nilG_r, ↓Z1i, ↓Z1a, ↓Z0f, ↓Z1t, ↓Z0d, ↓Z1f, ↓Z34, ↓Z3a, ↓Z26, ↓Z1q, ↓Z2r, ↓Z2h, ↓Z1e, ↓Z3d, ↓retK_n, ↓Z3t, ↓Z3v, ↓Z3u, ↓famK_n, ↓Z42, ↓famK_r, ↓Z0l, ↓Z08, ↓Z1j, ↓Z0e, ↓Z1v, nf_mk, Z07, Z1h, Z2z, Z1b, Z32, evN, Z2d, Z1d, Z31, feet_t, Z1c, Z0n, Z19, Z2y, Z2j, Z2e, Z1o, Z2f, evT, Opd.ev, Z01, Z00, Z30, app_no, Z3l, Z29, Z1u, Z2b, Z2g, Z3r, Z18, Z09, Z3b, LOp.isNew, State.prune, Z3p, Z2m, AV.leaf, Heap.at, Z0g, Z0b, Z1k, Z0j, Z03, idx_I, idx_W, rowW, Z2i, Z35, Z27, Z1m, rowB, Z38, Z36, rowN, lens_W, Z3x, Z1l, Z17, w_or, w_and, Z39, w_and1, w_shl, w_shl1, w_shr, w_sub1, w_neg, w_add, w_bit, w_eq0, w_eq1, w_eq, Bool.decide_eq_true, Z3o, Z3n, Z3q, Z2s, Z1w, Z05, Z0c, Z0o, Z02, Z1r, rowI, RatG.row, LocG.row, ActG.row, StepG.row, StampG.row, ActG.av, ActG.eta, RatG.eta, LocG.eta, beq_true, beq_false, Z2n, Z2x, Z2q, Z2w, Z14, Z0r, Z12, Z13, Z0q, Z0p, Z0h, List.length_set, List.length_replicate, Z06, Int.reduceToNat, evLen, Z2c, Z40, Src.all, Src.len, Src.leaf, Src.leafN, Z3h, aliveQ, joinV, Z0m, Z0t, Z0u, Z0v, Z0w, Z0x, Z0y, Z0z, mkVec, drows, evMk, List.length_map, Z25, Z28, List.take_length, List.take_left, List.length_append, Nat.le_add_right, ite_self, List.take_of_length_le, Z3m, intOr, intOpd, Option.isSome_none, Option.isSome_some, Nat.sub_zero, loadQ, loadT, evBin, evUn, Z15, Z16, binT, binQ, chk, Z3y, List.contains_cons, List.contains_nil, Bool.or_false, Bool.false_or, Bool.and_self, resQ, resV, resT, pickV, Z2a, evTake, Z3j, fnOf, Z3e, isD, HO.drow, viewT, Z41, evEq, eqV, eqK, eqC1, buildQ, buildT, Z3g, Z3c, lens_I, Z3s, Z2v, Z1z, Z2u, Z1y, Z2t, Z1x, Z20, Z10, Z11, Z0i, List.mem_cons, List.not_mem_nil, or_false, forall_eq, putRow, Z3i, Z23, RetS, RetF, RetD, AV.frz, AV.frzL, AV.freshP, AV.freshL, DV.less, Z2k, Z21, Z2l, Z22, Z0k, Z0a, Option.some.injEq, AV.tup.injEq, AV.agg.injEq, List.cons.injEq, DV.list.injEq, List.isEmpty_nil, Nat.le_refl, AV.d.injEq, DV.int.injEq, DV.bool.injEq, ↓reduceIte, Nat.reduceEqDiff, Nat.reduceAdd, Nat.reduceBEq, List.length_cons, List.length_nil, List.replicate_succ, List.replicate_zero, List.nil_append, List.cons_append, List.append_nil, List.foldl_cons, List.foldl_nil, List.map_cons, List.map_nil, List.all_cons, List.all_nil, List.set_cons_zero, List.set_cons_succ, List.getD_cons_zero, List.getD_cons_succ, List.drop_zero, List.drop_succ_cons, List.take_succ_cons, List.take_zero, List.flatten_cons, List.flatten_nil, Bool.true_and, Bool.and_true, Bool.not_true, Bool.not_false, true_and, and_true, true_or, or_true, Option.bind_some, Option.map_some, decide_true, decide_false, beq_self_eq_true, true_implies, false_implies, implies_true, not_true_eq_false, not_false_eq_true, and_self, Bool.and_false, Bool.false_and, Nat.reduceLT, Nat.reduceLeDiff, List.reverse_cons, List.reverse_nil, Nat.zero_add, Nat.add_zero, Bool.false_eq_true, List.getElem?_cons_zero, Nat.reduceMul, Nat.mul_one, DeedG.row, Z3z, Z3f, Z33, lens_Deed, Z3w, idx_LA, rowLA_len, rowLA_get, idx_LI, rowLI_len, rowLI_get, rSt, F1, G1, F2, G2, F3, G3, F4, G4, G5, F6, G6, F7, G7, F8, G8, at_Deeds, at_deed_b, at_clone, at_sortI, sortIE_d, sortI_len, take_sortI, at_sameI, at_Of]
    have i1 : i ≤ D.length := i1
    have i2 : rdG D fr i = some (r, ps) := i2
    have i3 : r.length ≤ fr.length := i3
    have i4 : ps.length ≤ i := i4
    have hDl : D.length ≤ 64 := by rw [← hD]; exact deeds_le l acts
    have hfail : rdG D fr (i + 1) = none → i < D.length → buildG l acts fr order = (WG.none, 3) := fun h hi => by
      unfold buildG
      rw [if_neg (by rw [he]; simp), hD, rd_none h (by omega)]
    have hbad : ∀ {P : Prop}, (D.getD i default).act.isR = true → i < D.length → okR D (r.getD 0 default) i = false → (AV.agg [AV.d (DV.list [] false), AV.d (DV.list [] false), AV.d (DV.list [] false), AV.d (DV.list [] false)] = (buildG l acts fr order).fst.av ∧ 3 = (buildG l acts fr order).snd) := fun hR hi hk => by
      rw [hfail (rd_bad i2 hR hk) hi]; exact ⟨rfl, rfl⟩
    refine ⟨fun e => ?_, fun e => ?_⟩
    · have e' : i < D.length := by omega
      have w1 : IntKind.i64.wrap ((i : Int) + 1) = ((i + 1 : Nat) : Int) := by rw [wrap_id (by omega) (by omega)]; omega
      rw [w1]
      refine ⟨⟨by omega, by omega⟩, fun hR => ⟨fun h0 => ?_, fun h0 => ⟨by omega, by omega, fun c1 => ?_, fun c1 => ⟨fun c2 => ?_, fun c2 => ⟨fun c3 => ?_, fun c3 => ⟨by omega, fun c4 => ⟨by omega, fun c5 => ⟨by omega, fun c6 => ⟨roomy_of (by omega) (by omega), ?_⟩, fun c6 => ?_⟩, fun c5 => ?_⟩, fun c4 => ?_⟩⟩⟩⟩⟩, fun hR => ?_⟩
      · have hr : r = [] := List.length_eq_zero_iff.1 (by omega)
        subst hr
        rw [hfail (rd_end i2 hR) e']; exact ⟨rfl, rfl⟩
      · exact hbad (P := True) hR e' (by unfold okR; rw [decide_eq_false (by omega)]; simp)
      · exact hbad (P := True) hR e' (by unfold okR; rw [decide_eq_false (show ¬ r.getD 0 default < (D.length : Int) by omega)]; simp)
      · exact hbad (P := True) hR e' (by unfold okR; rw [decide_eq_true c3]; simp)
      · have hr0 : r ≠ [] := fun h => h0 (by rw [h]; rfl)
        have hk : okR D (r.getD 0 default) i = true := by
          unfold okR
          rw [decide_eq_true (show 0 ≤ r.getD 0 default by omega), decide_eq_true (show r.getD 0 default < (D.length : Int) by omega), decide_eq_false c3, c4, decide_eq_true c5, decide_eq_true c6]; rfl
        refine Z1p.mk [0, 4] (i + 1, (r.drop 1, rg), ps ++ [⟨r.getD 0 default, i⟩]) (by simp) (by simp) (by simp only [State.can, AV.can, AV.canL, HO.can, Z0s, idx, Z01, Z00, Heap.at, Nat.reduceBEq, ↓reduceIte, Nat.reduceEqDiff, Option.getD_some, Option.map_some, List.map_cons, List.map_nil, List.getD_cons_zero, List.getD_cons_succ, rSt, List.length_append, List.length_singleton]) ⟨by show i + 1 ≤ _; omega, rd_yes i2 hR hr0 hk, ?_, ?_⟩ (by show D.length - (i + 1) < D.length - i; omega)
        · show (r.drop 1).length ≤ _; rw [List.length_drop]; omega
        · show (ps ++ [_]).length ≤ i + 1; rw [List.length_append, List.length_singleton]; omega
      · exact hbad (P := True) hR e' (by unfold okR; rw [decide_eq_false c6]; simp)
      · exact hbad (P := True) hR e' (by unfold okR; rw [decide_eq_false c5]; simp)
      · exact hbad (P := True) hR e' (by unfold okR; rw [c4]; simp)
      · refine Z1p.mk [0, 1] (i + 1, (r, rg), ps) (by simp) (by simp) (by simp only [State.can, AV.can, AV.canL, HO.can, Z0s, idx, Z01, Z00, Heap.at, Nat.reduceBEq, ↓reduceIte, Nat.reduceEqDiff, Option.getD_some, Option.map_some, List.map_cons, List.map_nil, List.getD_cons_zero, List.getD_cons_succ, rSt]) ⟨by show i + 1 ≤ _; omega, rd_no i2 hR, i3, by show ps.length ≤ i + 1; omega⟩ (by show D.length - (i + 1) < D.length - i; omega)
    · have e' : i = D.length := by omega
      subst e'
      have hb3 : (r ≠ [] ∨ order.length ≠ l.length) → buildG l acts fr order = (WG.none, 3) := fun h => by
        unfold buildG
        rw [if_neg (by rw [he]; simp), hD, i2]
        simp only
        rw [if_pos h]
      refine ⟨fun c => ?_, fun c => ⟨fun c2 => ?_, fun c2 => ?_⟩⟩
      · rw [hb3 (.inl (fun h => by rw [h] at c; simp at c))]; exact ⟨rfl, rfl⟩
      · have hr : r = [] := List.length_eq_zero_iff.1 (by omega)
        subst hr
        have hol : order.length = l.length := by omega
        refine Loop.nilref 13 2 rfl (Nat.zero_le _) ?_
        refine Loop.fam [0, 8, 10, 12, 13, 121, 122, 123] (cSt l f D order og ps) (cInv D l.length order) (fun x => order.length - x.1) (0, []) [0, 1, 2] (by simp) (by simp) (by simp only [List.length_cons, List.length_nil, List.cons_append, List.nil_append, State.can, AV.can, AV.canL, HO.can, Z0s, idx, Z01, Z00, Heap.at, Nat.reduceBEq, ↓reduceIte, Nat.reduceEqDiff, Option.getD_some, Option.map_some, List.map_cons, List.map_nil, List.getD_cons_zero, List.getD_cons_succ, cSt]; rfl) ⟨by omega, rfl, Nat.le_refl _⟩ ?_
        rintro ⟨t, co⟩ ⟨j1, j2, j3⟩
        have j1 : t ≤ order.length := j1
        have j2 : coG D l.length order t = some co := j2
        have j3 : co.length ≤ 10201 * t := j3
        simp (maxSteps := 3000000) only [↓Z1g, ↓Z24, ↓Z1s, ↓Z04, ↓Z2p, ↓Z2o, nilG_d, nilG_r, ↓Z1i, ↓Z1a, ↓Z0f, ↓Z1t, ↓Z0d, ↓Z1f, ↓Z34, ↓Z3a, ↓Z26, ↓Z1q, ↓Z2r, ↓Z2h, ↓Z1e, ↓Z3d, ↓retK_n, ↓Z3t, ↓Z3v, ↓Z3u, ↓famK_n, ↓Z42, ↓famK_r, ↓Z0l, ↓Z08, ↓Z1j, ↓Z0e, ↓Z1v, nf_mk, Z07, Z1h, Z2z, Z1b, Z32, evN, Z2d, Z1d, Z31, feet_t, Z1c, Z0n, Z19, Z2y, Z2j, Z2e, Z1o, Z2f, evT, Opd.ev, Z01, Z00, Z30, app_no, Z3l, Z29, Z1u, Z2b, Z2g, Z3r, Z18, Z09, Z3b, LOp.isNew, State.prune, Z3p, Z2m, AV.leaf, Heap.at, Z0g, Z0b, Z1k, Z0j, Z03, idx_I, idx_W, rowW, Z2i, Z35, Z27, Z1m, rowB, Z38, Z36, rowN, lens_W, Z3x, Z1l, Z17, w_or, w_and, Z39, w_and1, w_shl, w_shl1, w_shr, w_sub1, w_neg, w_add, w_bit, w_eq0, w_eq1, w_eq, Bool.decide_eq_true, Z3o, Z3n, Z3q, Z2s, Z1w, Z05, Z0c, Z0o, Z02, Z1r, rowI, RatG.row, LocG.row, ActG.row, StepG.row, StampG.row, ActG.av, ActG.eta, RatG.eta, LocG.eta, beq_true, beq_false, Z2n, Z2x, Z2q, Z2w, Z14, Z0r, Z12, Z13, Z0q, Z0p, Z0h, List.length_set, List.length_replicate, Z06, Int.reduceToNat, evLen, Z2c, Z40, Src.all, Src.len, Src.leaf, Src.leafN, Z3h, aliveQ, joinV, Z0m, Z0t, Z0u, Z0v, Z0w, Z0x, Z0y, Z0z, mkVec, drows, evMk, List.length_map, Z25, Z28, List.take_length, List.take_left, List.length_append, Nat.le_add_right, ite_self, List.take_of_length_le, Z3m, intOr, intOpd, Option.isSome_none, Option.isSome_some, Nat.sub_zero, loadQ, loadT, evBin, evUn, Z15, Z16, binT, binQ, chk, Z3y, List.contains_cons, List.contains_nil, Bool.or_false, Bool.false_or, Bool.and_self, resQ, resV, resT, pickV, Z2a, evTake, Z3j, fnOf, Z3e, isD, HO.drow, viewT, Z41, evEq, eqV, eqK, eqC1, buildQ, buildT, Z3g, Z3c, lens_I, Z3s, Z2v, Z1z, Z2u, Z1y, Z2t, Z1x, Z20, Z10, Z11, Z0i, List.mem_cons, List.not_mem_nil, or_false, forall_eq, putRow, Z3i, Z23, RetS, RetF, RetD, AV.frz, AV.frzL, AV.freshP, AV.freshL, DV.less, Z2k, Z21, Z2l, Z22, Z0k, Z0a, Option.some.injEq, AV.tup.injEq, AV.agg.injEq, List.cons.injEq, DV.list.injEq, List.isEmpty_nil, Nat.le_refl, AV.d.injEq, DV.int.injEq, DV.bool.injEq, ↓reduceIte, Nat.reduceEqDiff, Nat.reduceAdd, Nat.reduceBEq, List.length_cons, List.length_nil, List.replicate_succ, List.replicate_zero, List.nil_append, List.cons_append, List.append_nil, List.foldl_cons, List.foldl_nil, List.map_cons, List.map_nil, List.all_cons, List.all_nil, List.set_cons_zero, List.set_cons_succ, List.getD_cons_zero, List.getD_cons_succ, List.drop_zero, List.drop_succ_cons, List.take_succ_cons, List.take_zero, List.flatten_cons, List.flatten_nil, Bool.true_and, Bool.and_true, Bool.not_true, Bool.not_false, true_and, and_true, true_or, or_true, Option.bind_some, Option.map_some, decide_true, decide_false, beq_self_eq_true, true_implies, false_implies, implies_true, not_true_eq_false, not_false_eq_true, and_self, Bool.and_false, Bool.false_and, Nat.reduceLT, Nat.reduceLeDiff, List.reverse_cons, List.reverse_nil, Nat.zero_add, Nat.add_zero, Bool.false_eq_true, List.getElem?_cons_zero, Nat.reduceMul, Nat.mul_one, DeedG.row, Z3z, Z3f, Z33, lens_Deed, Z3w, idx_LA, rowLA_len, rowLA_get, idx_LI, rowLI_len, rowLI_get, cSt, F1, G1, F2, G2, F3, G3, F4, G4, G5, F6, G6, F7, G7, F8, G8, at_Deeds, at_deed_b, at_clone, at_sortI, sortIE_d, sortI_len, take_sortI, at_sameI, at_Of]
        refine ⟨fun d => ⟨⟨by omega, by omega⟩, ?_⟩, fun d => ?_⟩
        · have d' : t < order.length := by omega
          refine Loop.nilref 19 1 rfl (Nat.zero_le _) ?_
          refine Loop.fam [0, 8, 10, 12, 13, 17, 18, 19, 121, 122, 123, 128, 129, 130] (wSt l f D order og ps co t) (fun i => i ≤ D.length) (fun i => D.length - i) 0 [0, 1, 2, 3] (by simp) (by simp) (by simp only [List.length_cons, List.length_nil, List.cons_append, List.nil_append, State.can, AV.can, AV.canL, HO.can, Z0s, idx, Z01, Z00, Heap.at, Nat.reduceBEq, ↓reduceIte, Nat.reduceEqDiff, Option.getD_some, Option.map_some, List.map_cons, List.map_nil, List.getD_cons_zero, List.getD_cons_succ, wSt]; rfl) (by omega) ?_
          intro i hi
          have hi : i ≤ D.length := hi
          have hwl := want_le D l.length t i
          simp (maxSteps := 3000000) only [↓Z1g, ↓Z24, ↓Z1s, ↓Z04, ↓Z2p, ↓Z2o, nilG_d, nilG_r, ↓Z1i, ↓Z1a, ↓Z0f, ↓Z1t, ↓Z0d, ↓Z1f, ↓Z34, ↓Z3a, ↓Z26, ↓Z1q, ↓Z2r, ↓Z2h, ↓Z1e, ↓Z3d, ↓retK_n, ↓Z3t, ↓Z3v, ↓Z3u, ↓famK_n, ↓Z42, ↓famK_r, ↓Z0l, ↓Z08, ↓Z1j, ↓Z0e, ↓Z1v, nf_mk, Z07, Z1h, Z2z, Z1b, Z32, evN, Z2d, Z1d, Z31, feet_t, Z1c, Z0n, Z19, Z2y, Z2j, Z2e, Z1o, Z2f, evT, Opd.ev, Z01, Z00, Z30, app_no, Z3l, Z29, Z1u, Z2b, Z2g, Z3r, Z18, Z09, Z3b, LOp.isNew, State.prune, Z3p, Z2m, AV.leaf, Heap.at, Z0g, Z0b, Z1k, Z0j, Z03, idx_I, idx_W, rowW, Z2i, Z35, Z27, Z1m, rowB, Z38, Z36, rowN, lens_W, Z3x, Z1l, Z17, w_or, w_and, Z39, w_and1, w_shl, w_shl1, w_shr, w_sub1, w_neg, w_add, w_bit, w_eq0, w_eq1, w_eq, Bool.decide_eq_true, Z3o, Z3n, Z3q, Z2s, Z1w, Z05, Z0c, Z0o, Z02, Z1r, rowI, RatG.row, LocG.row, ActG.row, StepG.row, StampG.row, ActG.av, ActG.eta, RatG.eta, LocG.eta, beq_true, beq_false, Z2n, Z2x, Z2q, Z2w, Z14, Z0r, Z12, Z13, Z0q, Z0p, Z0h, List.length_set, List.length_replicate, Z06, Int.reduceToNat, evLen, Z2c, Z40, Src.all, Src.len, Src.leaf, Src.leafN, Z3h, aliveQ, joinV, Z0m, Z0t, Z0u, Z0v, Z0w, Z0x, Z0y, Z0z, mkVec, drows, evMk, List.length_map, Z25, Z28, List.take_length, List.take_left, List.length_append, Nat.le_add_right, ite_self, List.take_of_length_le, Z3m, intOr, intOpd, Option.isSome_none, Option.isSome_some, Nat.sub_zero, loadQ, loadT, evBin, evUn, Z15, Z16, binT, binQ, chk, Z3y, List.contains_cons, List.contains_nil, Bool.or_false, Bool.false_or, Bool.and_self, resQ, resV, resT, pickV, Z2a, evTake, Z3j, fnOf, Z3e, isD, HO.drow, viewT, Z41, evEq, eqV, eqK, eqC1, buildQ, buildT, Z3g, Z3c, lens_I, Z3s, Z2v, Z1z, Z2u, Z1y, Z2t, Z1x, Z20, Z10, Z11, Z0i, List.mem_cons, List.not_mem_nil, or_false, forall_eq, putRow, Z3i, Z23, RetS, RetF, RetD, AV.frz, AV.frzL, AV.freshP, AV.freshL, DV.less, Z2k, Z21, Z2l, Z22, Z0k, Z0a, Option.some.injEq, AV.tup.injEq, AV.agg.injEq, List.cons.injEq, DV.list.injEq, List.isEmpty_nil, Nat.le_refl, AV.d.injEq, DV.int.injEq, DV.bool.injEq, ↓reduceIte, Nat.reduceEqDiff, Nat.reduceAdd, Nat.reduceBEq, List.length_cons, List.length_nil, List.replicate_succ, List.replicate_zero, List.nil_append, List.cons_append, List.append_nil, List.foldl_cons, List.foldl_nil, List.map_cons, List.map_nil, List.all_cons, List.all_nil, List.set_cons_zero, List.set_cons_succ, List.getD_cons_zero, List.getD_cons_succ, List.drop_zero, List.drop_succ_cons, List.take_succ_cons, List.take_zero, List.flatten_cons, List.flatten_nil, Bool.true_and, Bool.and_true, Bool.not_true, Bool.not_false, true_and, and_true, true_or, or_true, Option.bind_some, Option.map_some, decide_true, decide_false, beq_self_eq_true, true_implies, false_implies, implies_true, not_true_eq_false, not_false_eq_true, and_self, Bool.and_false, Bool.false_and, Nat.reduceLT, Nat.reduceLeDiff, List.reverse_cons, List.reverse_nil, Nat.zero_add, Nat.add_zero, Bool.false_eq_true, List.getElem?_cons_zero, Nat.reduceMul, Nat.mul_one, DeedG.row, Z3z, Z3f, Z33, lens_Deed, Z3w, idx_LA, rowLA_len, rowLA_get, idx_LI, rowLI_len, rowLI_get, wSt, F1, G1, F2, G2, F3, G3, F4, G4, G5, F6, G6, F7, G7, F8, G8, at_Deeds, at_deed_b, at_clone, at_sortI, sortIE_d, sortI_len, take_sortI, at_sameI, at_Of]
          have w1 : IntKind.i64.wrap ((i : Int) + 1) = ((i + 1 : Nat) : Int) := by rw [wrap_id (by omega) (by omega)]; omega
          rw [w1]
          refine ⟨fun e => ?_, fun e => ?_⟩
          · have e' : i < D.length := by omega
            have no : ∀ {S : State}, ¬ (l.length ≤ i ∧ (D.getD i default).act.isW = true ∧ (D.getD i default).act.loc = (t : Int)) → 4 ≤ S.heap.length → S.can [0, 1, 2, 3] [0, 8, 10, 12, 13, 17, 18, 19, 121, 122, 123, 128, 129, 130] =
                ⟨[(0, .d (.list (l.map LocG.row) f)), (8, .ptr 0 4 0 0), (10, .d (.list (D.map DeedG.row) false)), (12, .ref 1 2 0 ps.length true), (13, .ref 2 2 0 co.length true), (17, .d (.int .i64 t)), (18, .d (.list ((order.getD t default).1.map rowI) (order.getD t default).2)), (19, .ref 3 1 0 (wantTo D l.length t i).length true),
                   (121, .d (.list (order.map rowLI) og)), (122, .d (.int .i64 order.length)), (123, .d (.int .i64 t)), (128, .d (.list (D.map DeedG.row) false)), (129, .d (.int .i64 D.length)), (130, .d (.int .i64 (i + 1 : Nat)))],
                  [.vec 4 [[.d (.list [] true), .d (.list [] true), .d (.list [] true), .d (.list [] true)]], .dvec 2 (ps.map RatG.row), .dvec 2 (co.map RatG.row), .dvec 1 ((wantTo D l.length t i).map rowI)]⟩ →
                Z1p [0, 8, 10, 12, 13, 17, 18, 19, 121, 122, 123, 128, 129, 130] (wSt l f D order og ps co t) (fun i => i ≤ D.length) (fun i => D.length - i) (D.length - i) S := fun {S} hc hl hS =>
              Z1p.mk [0, 1, 2, 3] (i + 1) (by simp) (by simp; omega) (by rw [hS]; unfold wSt; rw [show wantTo D l.length t (i + 1) = wantTo D l.length t i by rw [wantTo, if_neg hc]]) (by show i + 1 ≤ _; omega) (by show D.length - (i + 1) < D.length - i; omega)
            refine ⟨⟨by omega, by omega⟩, fun c1 => ⟨fun c2 => ⟨fun c3 => ⟨roomy_of (by omega) (by omega), ?_⟩, fun c3 => ?_⟩, fun c2 => ?_⟩, fun c1 => ?_⟩
            · have hw : wantTo D l.length t (i + 1) = wantTo D l.length t i ++ [(i : Int)] := by rw [wantTo, if_pos ⟨by omega, c2, c3⟩]
              exact Z1p.mk [0, 1, 2, 6] (i + 1) (by simp) (by simp) (by unfold wSt; rw [hw]; simp only [State.can, AV.can, AV.canL, HO.can, Z0s, idx, Z01, Z00, Heap.at, Nat.reduceBEq, ↓reduceIte, Nat.reduceEqDiff, Option.getD_some, Option.map_some, List.map_cons, List.map_nil, List.getD_cons_zero, List.getD_cons_succ, List.length_append, List.length_singleton]) (by show i + 1 ≤ _; omega) (by show D.length - (i + 1) < D.length - i; omega)
            · exact no (fun h => c3 h.2.2) (by simp) (by simp only [State.can, AV.can, AV.canL, HO.can, Z0s, idx, Z01, Z00, Heap.at, Nat.reduceBEq, ↓reduceIte, Nat.reduceEqDiff, Option.getD_some, Option.map_some, List.map_cons, List.map_nil, List.getD_cons_zero, List.getD_cons_succ])
            · exact no (fun h => by rw [c2] at h; simp at h) (by simp) (by simp only [State.can, AV.can, AV.canL, HO.can, Z0s, idx, Z01, Z00, Heap.at, Nat.reduceBEq, ↓reduceIte, Nat.reduceEqDiff, Option.getD_some, Option.map_some, List.map_cons, List.map_nil, List.getD_cons_zero, List.getD_cons_succ])
            · exact no (fun h => by omega) (by simp) (by simp only [State.can, AV.can, AV.canL, HO.can, Z0s, idx, Z01, Z00, Heap.at, Nat.reduceBEq, ↓reduceIte, Nat.reduceEqDiff, Option.getD_some, Option.map_some, List.map_cons, List.map_nil, List.getD_cons_zero, List.getD_cons_succ])
          · have e' : i = D.length := by omega
            have hord : (order.getD t default).1.length ≤ 100 := by rw [getD_lt d']; exact h3 _ (List.getElem_mem _)
            have hno : sortI (order.getD t default).1 ≠ wantTo D l.length t D.length → buildG l acts fr order = (WG.none, 3) := fun h => by
              unfold buildG
              rw [if_neg (by rw [he]; simp), hD, i2]
              simp only
              rw [if_neg (by simp [hol]), co_none (i := t + 1) (by unfold coG; rw [j2]; simp only; rw [if_neg h]) (by omega)]
            rw [e']
            have hM : maxLen = 9223372036854775807 := rfl
            refine ⟨roomy_of (by omega) (by omega), by omega, by omega, fun hs => ⟨roomy_of (by omega) (by omega), ?_⟩, fun hs => by rw [hno hs]; exact ⟨rfl, rfl⟩⟩
            rw [Nat.add_comm 1]
            generalize ha : ((t : Int) :: (order.getD t default).1) = a
            have hal : a.length = (order.getD t default).1.length + 1 := by rw [← ha]; rfl
            have har : ([DV.int .i64 (t : Int)] :: List.map rowI (order.getD t default).1) = a.map rowI := by rw [← ha]; rfl
            rw [har, ← hal]
            refine Loop.fam [0, 8, 10, 12, 13, 23, 121, 122, 123, 169, 170] (aSt l f D order og ps t a) (aInv a co) (fun x => a.length - x.1) (0, co) [0, 1, 2, 6] (by simp) (by simp) (by simp only [State.can, AV.can, AV.canL, HO.can, Z0s, idx, Z01, Z00, Heap.at, Nat.reduceBEq, ↓reduceIte, Nat.reduceEqDiff, Option.getD_some, Option.map_some, List.map_cons, List.map_nil, List.getD_cons_zero, List.getD_cons_succ, aSt, hal]; rfl) ⟨by omega, by simp [pairsTo]⟩ ?_
            rintro ⟨i2, co2⟩ ⟨q1, q2⟩
            have q1 : i2 ≤ a.length := q1
            have q2 : co2 = co ++ pairsTo a i2 := q2
            simp (maxSteps := 3000000) only [↓Z1g, ↓Z24, ↓Z1s, ↓Z04, ↓Z2p, ↓Z2o, nilG_d, nilG_r, ↓Z1i, ↓Z1a, ↓Z0f, ↓Z1t, ↓Z0d, ↓Z1f, ↓Z34, ↓Z3a, ↓Z26, ↓Z1q, ↓Z2r, ↓Z2h, ↓Z1e, ↓Z3d, ↓retK_n, ↓Z3t, ↓Z3v, ↓Z3u, ↓famK_n, ↓Z42, ↓famK_r, ↓Z0l, ↓Z08, ↓Z1j, ↓Z0e, ↓Z1v, nf_mk, Z07, Z1h, Z2z, Z1b, Z32, evN, Z2d, Z1d, Z31, feet_t, Z1c, Z0n, Z19, Z2y, Z2j, Z2e, Z1o, Z2f, evT, Opd.ev, Z01, Z00, Z30, app_no, Z3l, Z29, Z1u, Z2b, Z2g, Z3r, Z18, Z09, Z3b, LOp.isNew, State.prune, Z3p, Z2m, AV.leaf, Heap.at, Z0g, Z0b, Z1k, Z0j, Z03, idx_I, idx_W, rowW, Z2i, Z35, Z27, Z1m, rowB, Z38, Z36, rowN, lens_W, Z3x, Z1l, Z17, w_or, w_and, Z39, w_and1, w_shl, w_shl1, w_shr, w_sub1, w_neg, w_add, w_bit, w_eq0, w_eq1, w_eq, Bool.decide_eq_true, Z3o, Z3n, Z3q, Z2s, Z1w, Z05, Z0c, Z0o, Z02, Z1r, rowI, RatG.row, LocG.row, ActG.row, StepG.row, StampG.row, ActG.av, ActG.eta, RatG.eta, LocG.eta, beq_true, beq_false, Z2n, Z2x, Z2q, Z2w, Z14, Z0r, Z12, Z13, Z0q, Z0p, Z0h, List.length_set, List.length_replicate, Z06, Int.reduceToNat, evLen, Z2c, Z40, Src.all, Src.len, Src.leaf, Src.leafN, Z3h, aliveQ, joinV, Z0m, Z0t, Z0u, Z0v, Z0w, Z0x, Z0y, Z0z, mkVec, drows, evMk, List.length_map, Z25, Z28, List.take_length, List.take_left, List.length_append, Nat.le_add_right, ite_self, List.take_of_length_le, Z3m, intOr, intOpd, Option.isSome_none, Option.isSome_some, Nat.sub_zero, loadQ, loadT, evBin, evUn, Z15, Z16, binT, binQ, chk, Z3y, List.contains_cons, List.contains_nil, Bool.or_false, Bool.false_or, Bool.and_self, resQ, resV, resT, pickV, Z2a, evTake, Z3j, fnOf, Z3e, isD, HO.drow, viewT, Z41, evEq, eqV, eqK, eqC1, buildQ, buildT, Z3g, Z3c, lens_I, Z3s, Z2v, Z1z, Z2u, Z1y, Z2t, Z1x, Z20, Z10, Z11, Z0i, List.mem_cons, List.not_mem_nil, or_false, forall_eq, putRow, Z3i, Z23, RetS, RetF, RetD, AV.frz, AV.frzL, AV.freshP, AV.freshL, DV.less, Z2k, Z21, Z2l, Z22, Z0k, Z0a, Option.some.injEq, AV.tup.injEq, AV.agg.injEq, List.cons.injEq, DV.list.injEq, List.isEmpty_nil, Nat.le_refl, AV.d.injEq, DV.int.injEq, DV.bool.injEq, ↓reduceIte, Nat.reduceEqDiff, Nat.reduceAdd, Nat.reduceBEq, List.length_cons, List.length_nil, List.replicate_succ, List.replicate_zero, List.nil_append, List.cons_append, List.append_nil, List.foldl_cons, List.foldl_nil, List.map_cons, List.map_nil, List.all_cons, List.all_nil, List.set_cons_zero, List.set_cons_succ, List.getD_cons_zero, List.getD_cons_succ, List.drop_zero, List.drop_succ_cons, List.take_succ_cons, List.take_zero, List.flatten_cons, List.flatten_nil, Bool.true_and, Bool.and_true, Bool.not_true, Bool.not_false, true_and, and_true, true_or, or_true, Option.bind_some, Option.map_some, decide_true, decide_false, beq_self_eq_true, true_implies, false_implies, implies_true, not_true_eq_false, not_false_eq_true, and_self, Bool.and_false, Bool.false_and, Nat.reduceLT, Nat.reduceLeDiff, List.reverse_cons, List.reverse_nil, Nat.zero_add, Nat.add_zero, Bool.false_eq_true, List.getElem?_cons_zero, Nat.reduceMul, Nat.mul_one, DeedG.row, Z3z, Z3f, Z33, lens_Deed, Z3w, idx_LA, rowLA_len, rowLA_get, idx_LI, rowLI_len, rowLI_get, aSt, F1, G1, F2, G2, F3, G3, F4, G4, G5, F6, G6, F7, G7, F8, G8, at_Deeds, at_deed_b, at_clone, at_sortI, sortIE_d, sortI_len, take_sortI, at_sameI, at_Of]
            have hal2 : a.length ≤ 101 := by omega
            have hpt := pairsTo_le a i2
            have hco2 : co2.length ≤ 10201 * t + i2 * a.length := by rw [q2, List.length_append]; omega
            have hb2 : i2 * a.length ≤ 101 * 101 := Nat.mul_le_mul (by omega) hal2
            have w2 : IntKind.i64.wrap ((i2 : Int) + 1) = ((i2 + 1 : Nat) : Int) := by rw [wrap_id (by omega) (by omega)]; omega
            have w3 : IntKind.i64.wrap ((t : Int) + 1) = ((t + 1 : Nat) : Int) := by rw [wrap_id (by omega) (by omega)]; omega
            rw [w2, w3]
            simp only [Z06]
            refine ⟨fun e2 => ⟨⟨by omega, by omega, by omega⟩, ?_⟩, fun e2 => ?_⟩
            · have e2' : i2 < a.length := by omega
              refine Loop.fam [0, 8, 10, 12, 13, 23, 24, 121, 122, 123, 169, 170, 176, 177, 178] (pSt l f D order og ps t a i2) (pInv a co i2) (fun x => a.length - (i2 + 1) - x.1) (0, co2) [0, 1, 2, 3] (by simp) (by simp) (by simp only [State.can, AV.can, AV.canL, HO.can, Z0s, idx, Z01, Z00, Heap.at, Nat.reduceBEq, ↓reduceIte, Nat.reduceEqDiff, Option.getD_some, Option.map_some, List.map_cons, List.map_nil, List.getD_cons_zero, List.getD_cons_succ, pSt]; rfl) ⟨by omega, by rw [q2]; simp [pairsAt]⟩ ?_
              rintro ⟨k, co3⟩ ⟨v1, v2⟩
              have v1 : k ≤ a.length - (i2 + 1) := v1
              have v2 : co3 = co ++ (pairsTo a i2 ++ pairsAt a i2 k) := v2
              have hpa := pairsAt_le a i2 k
              have hco3 : co3.length ≤ 10201 * t + i2 * a.length + a.length := by rw [v2, List.length_append, List.length_append]; omega
              simp (maxSteps := 3000000) only [↓Z1g, ↓Z24, ↓Z1s, ↓Z04, ↓Z2p, ↓Z2o, nilG_d, nilG_r, ↓Z1i, ↓Z1a, ↓Z0f, ↓Z1t, ↓Z0d, ↓Z1f, ↓Z34, ↓Z3a, ↓Z26, ↓Z1q, ↓Z2r, ↓Z2h, ↓Z1e, ↓Z3d, ↓retK_n, ↓Z3t, ↓Z3v, ↓Z3u, ↓famK_n, ↓Z42, ↓famK_r, ↓Z0l, ↓Z08, ↓Z1j, ↓Z0e, ↓Z1v, nf_mk, Z07, Z1h, Z2z, Z1b, Z32, evN, Z2d, Z1d, Z31, feet_t, Z1c, Z0n, Z19, Z2y, Z2j, Z2e, Z1o, Z2f, evT, Opd.ev, Z01, Z00, Z30, app_no, Z3l, Z29, Z1u, Z2b, Z2g, Z3r, Z18, Z09, Z3b, LOp.isNew, State.prune, Z3p, Z2m, AV.leaf, Heap.at, Z0g, Z0b, Z1k, Z0j, Z03, idx_I, idx_W, rowW, Z2i, Z35, Z27, Z1m, rowB, Z38, Z36, rowN, lens_W, Z3x, Z1l, Z17, w_or, w_and, Z39, w_and1, w_shl, w_shl1, w_shr, w_sub1, w_neg, w_add, w_bit, w_eq0, w_eq1, w_eq, Bool.decide_eq_true, Z3o, Z3n, Z3q, Z2s, Z1w, Z05, Z0c, Z0o, Z02, Z1r, rowI, RatG.row, LocG.row, ActG.row, StepG.row, StampG.row, ActG.av, ActG.eta, RatG.eta, LocG.eta, beq_true, beq_false, Z2n, Z2x, Z2q, Z2w, Z14, Z0r, Z12, Z13, Z0q, Z0p, Z0h, List.length_set, List.length_replicate, Z06, Int.reduceToNat, evLen, Z2c, Z40, Src.all, Src.len, Src.leaf, Src.leafN, Z3h, aliveQ, joinV, Z0m, Z0t, Z0u, Z0v, Z0w, Z0x, Z0y, Z0z, mkVec, drows, evMk, List.length_map, Z25, Z28, List.take_length, List.take_left, List.length_append, Nat.le_add_right, ite_self, List.take_of_length_le, Z3m, intOr, intOpd, Option.isSome_none, Option.isSome_some, Nat.sub_zero, loadQ, loadT, evBin, evUn, Z15, Z16, binT, binQ, chk, Z3y, List.contains_cons, List.contains_nil, Bool.or_false, Bool.false_or, Bool.and_self, resQ, resV, resT, pickV, Z2a, evTake, Z3j, fnOf, Z3e, isD, HO.drow, viewT, Z41, evEq, eqV, eqK, eqC1, buildQ, buildT, Z3g, Z3c, lens_I, Z3s, Z2v, Z1z, Z2u, Z1y, Z2t, Z1x, Z20, Z10, Z11, Z0i, List.mem_cons, List.not_mem_nil, or_false, forall_eq, putRow, Z3i, Z23, RetS, RetF, RetD, AV.frz, AV.frzL, AV.freshP, AV.freshL, DV.less, Z2k, Z21, Z2l, Z22, Z0k, Z0a, Option.some.injEq, AV.tup.injEq, AV.agg.injEq, List.cons.injEq, DV.list.injEq, List.isEmpty_nil, Nat.le_refl, AV.d.injEq, DV.int.injEq, DV.bool.injEq, ↓reduceIte, Nat.reduceEqDiff, Nat.reduceAdd, Nat.reduceBEq, List.length_cons, List.length_nil, List.replicate_succ, List.replicate_zero, List.nil_append, List.cons_append, List.append_nil, List.foldl_cons, List.foldl_nil, List.map_cons, List.map_nil, List.all_cons, List.all_nil, List.set_cons_zero, List.set_cons_succ, List.getD_cons_zero, List.getD_cons_succ, List.drop_zero, List.drop_succ_cons, List.take_succ_cons, List.take_zero, List.flatten_cons, List.flatten_nil, Bool.true_and, Bool.and_true, Bool.not_true, Bool.not_false, true_and, and_true, true_or, or_true, Option.bind_some, Option.map_some, decide_true, decide_false, beq_self_eq_true, true_implies, false_implies, implies_true, not_true_eq_false, not_false_eq_true, and_self, Bool.and_false, Bool.false_and, Nat.reduceLT, Nat.reduceLeDiff, List.reverse_cons, List.reverse_nil, Nat.zero_add, Nat.add_zero, Bool.false_eq_true, List.getElem?_cons_zero, Nat.reduceMul, Nat.mul_one, DeedG.row, Z3z, Z3f, Z33, lens_Deed, Z3w, idx_LA, rowLA_len, rowLA_get, idx_LI, rowLI_len, rowLI_get, pSt, F1, G1, F2, G2, F3, G3, F4, G4, G5, F6, G6, F7, G7, F8, G8, at_Deeds, at_deed_b, at_clone, at_sortI, sortIE_d, sortI_len, take_sortI, at_sameI, at_Of]
              have w4 : IntKind.i64.wrap ((k : Int) + 1) = ((k + 1 : Nat) : Int) := by rw [wrap_id (by omega) (by omega)]; omega
              rw [w4, w2]
              refine ⟨fun e3 => ⟨⟨by omega, by omega⟩, by omega, ⟨by omega, by omega⟩, by omega, roomy_of (by omega) (by omega), ?_⟩, fun e3 => ?_⟩
              · have e3' : i2 + 1 + k < a.length := by omega
                refine Z1p.mk [0, 1, 5, 3] (k + 1, co3 ++ [⟨a.getD i2 default, a.getD (i2 + 1 + k) default⟩]) (by simp) (by simp) (by simp only [State.can, AV.can, AV.canL, HO.can, Z0s, idx, Z01, Z00, Heap.at, Nat.reduceBEq, ↓reduceIte, Nat.reduceEqDiff, Option.getD_some, Option.map_some, List.map_cons, List.map_nil, List.getD_cons_zero, List.getD_cons_succ, pSt, List.length_append, List.length_singleton]) ⟨by show k + 1 ≤ _; omega, ?_⟩ (by show a.length - (i2 + 1) - (k + 1) < a.length - (i2 + 1) - k; omega)
                show co3 ++ [_] = co ++ (pairsTo a i2 ++ pairsAt a i2 (k + 1))
                rw [pairsAt_succ e3', v2]; simp only [List.append_assoc]
              · have e3' : k = a.length - (i2 + 1) := by omega
                refine Z1p.mk [0, 1, 2, 3] (i2 + 1, co3) (by simp) (by simp) (by simp only [State.can, AV.can, AV.canL, HO.can, Z0s, idx, Z01, Z00, Heap.at, Nat.reduceBEq, ↓reduceIte, Nat.reduceEqDiff, Option.getD_some, Option.map_some, List.map_cons, List.map_nil, List.getD_cons_zero, List.getD_cons_succ, aSt]) ⟨by show i2 + 1 ≤ _; omega, ?_⟩ (by show a.length - (i2 + 1) < a.length - i2; omega)
                show co3 = co ++ pairsTo a (i2 + 1)
                rw [v2, e3', pairsTo]
            · have e2' : i2 = a.length := by omega
              subst e2'
              have hnext : coG D l.length order (t + 1) = some co2 := by
                unfold coG
                rw [j2]
                simp only
                rw [if_pos hs, ha, ← hal, q2]
              refine Z1p.mk [0, 1, 2] (t + 1, co2) (by simp) (by simp) (by simp only [State.can, AV.can, AV.canL, HO.can, Z0s, idx, Z01, Z00, Heap.at, Nat.reduceBEq, ↓reduceIte, Nat.reduceEqDiff, Option.getD_some, Option.map_some, List.map_cons, List.map_nil, List.getD_cons_zero, List.getD_cons_succ, cSt]) ⟨by show t + 1 ≤ _; omega, hnext, by show co2.length ≤ 10201 * (t + 1); omega⟩ (by show order.length - (t + 1) < order.length - t; omega)
        · have e9 : t = order.length := by omega
          subst e9
          have hM : maxLen = 9223372036854775807 := rfl
          have hl16 : l.length ≤ 20 := hA.1
          have hB : buildG l acts fr order = (⟨l, false, D, false, ofG D.length ps, false, ofG D.length co, false⟩, 0) := by
            unfold buildG
            rw [if_neg (by rw [he]; simp), hD, i2]
            simp only
            rw [if_neg (by simp [hol]), ← hol, hol, ← hol, hol]
            rw [hol] at j2
            rw [j2]
          rw [hB]
          exact ⟨roomy_of (by omega) (by omega), by omega, by omega, rfl, rfl⟩
      · rw [hb3 (.inr (by omega))]; exact ⟨rfl, rfl⟩
  · unfold buildG
    rw [if_pos he]
    exact ⟨rfl, rfl⟩
end Go.Ago

/- Package axiom: what a built world is. Conditions: none. -/
set_option maxRecDepth 100000
set_option linter.unusedSimpArgs false
set_option linter.unusedVariables false
set_option linter.unusedSectionVars false
namespace Go.Ago

/-! ### Deeds -/
theorem getD_of {α : Type} [Inhabited α] {l : List α} {i : Nat} (h : i < l.length) : l.getD i default = l[i] := by
  rw [List.getD_eq_getElem?_getD, List.getElem?_eq_getElem h]; rfl
def goodD (l : List LocG) (d : DeedG) : Prop := d.act.right l = true ∧ d.act.kind ≠ 6
theorem good_init (l : List LocG) {i : Nat} (hi : i < l.length) : goodD l (initD (l.getD i default) i) := by
  unfold goodD initD ActG.right ActG.isA ActG.isR ActG.isW
  cases h : (l.getD i default).atom
  · simp only [h, Bool.false_eq_true, if_false, Int.toNat_natCast]
    refine ⟨?_, by decide⟩
    rw [decide_eq_true (show (i : Int) < l.length by omega), decide_eq_true (show (0 : Int) ≤ i by omega)]; simp
  · simp only [h, if_true, Int.toNat_natCast]
    refine ⟨?_, by decide⟩
    rw [decide_eq_true (show (i : Int) < l.length by omega), decide_eq_true (show (0 : Int) ≤ i by omega)]; simp
theorem mem_kept {acts : List (List ActG × Bool)} {d : DeedG} : ∀ {t : Nat}, d ∈ keptTo acts t → ∃ i < t, d.th = i ∧ d.act ∈ (acts.getD i default).1 ∧ d.act.kind ≠ 6 := by
  intro t h
  unfold keptTo at h
  obtain ⟨x, hx, hd⟩ := List.mem_flatten.1 h
  obtain ⟨i, hi, rfl⟩ := List.mem_map.1 hx
  unfold keepD at hd
  obtain ⟨a, ha, rfl⟩ := List.mem_map.1 hd
  have := List.mem_filter.1 ha
  exact ⟨i, by simpa using hi, rfl, this.1, by simpa using this.2⟩
theorem deeds_get {l : List LocG} {acts : List (List ActG × Bool)} {i : Nat} (hi : i < l.length) : (deedsAll l acts).getD i default = initD (l.getD i default) i := by
  have h1 : i < (initL l l.length).length := by rw [initL_len]; exact hi
  unfold deedsAll
  rw [List.getD_eq_getElem?_getD, List.getElem?_append_left h1]
  unfold initL
  rw [List.getElem?_map, List.getElem?_range hi]; rfl
theorem deeds_kept {l : List LocG} {acts : List (List ActG × Bool)} {i : Nat} (hi : l.length ≤ i) (hl : i < (deedsAll l acts).length) : (deedsAll l acts).getD i default ∈ keptTo acts acts.length := by
  unfold deedsAll at hl ⊢
  rw [List.length_append, initL_len] at hl
  rw [List.getD_eq_getElem?_getD, List.getElem?_append_right (by rw [initL_len]; exact hi), initL_len, List.getElem?_eq_getElem (by omega)]
  exact List.getElem_mem _
theorem deeds_good {l : List LocG} {acts : List (List ActG × Bool)} (hr : rightA l acts = true) {i : Nat} (hl : i < (deedsAll l acts).length) : goodD l ((deedsAll l acts).getD i default) := by
  by_cases hi : i < l.length
  · rw [deeds_get hi]; exact good_init l hi
  · obtain ⟨t, ht, _, hm, hk⟩ := mem_kept (deeds_kept (by omega) hl)
    refine ⟨?_, hk⟩
    unfold rightA at hr
    have h1 := List.all_eq_true.1 hr (acts.getD t default) (by rw [getD_of ht]; exact List.getElem_mem _)
    exact List.all_eq_true.1 h1 _ hm
theorem deeds_loc0 {l : List LocG} {acts : List (List ActG × Bool)} {i : Nat} (hi : i < l.length) : ((deedsAll l acts).getD i default).act.loc = i := by rw [deeds_get hi]; rfl
theorem deeds_w0 {l : List LocG} {acts : List (List ActG × Bool)} {i : Nat} (hi : i < l.length) : ((deedsAll l acts).getD i default).act.isW = true := by
  rw [deeds_get hi]; unfold initD ActG.isW; cases (l.getD i default).atom <;> rfl
theorem deeds_ge (l : List LocG) (acts : List (List ActG × Bool)) : l.length ≤ (deedsAll l acts).length := by unfold deedsAll; rw [List.length_append, initL_len]; omega

/-! ### Who reads from whom -/
theorem rd_mem {D : List DeedG} {fr : List Int} : ∀ {i : Nat} {r : List Int} {ps : List RatG}, rdG D fr i = some (r, ps) → ∀ p ∈ ps, ∃ j, j < i ∧ p.den = j ∧ (D.getD j default).act.isR = true ∧ okR D p.num j = true := by
  intro i
  induction i with
  | zero => intro r ps h p hp; simp [rdG] at h; rw [h.2] at hp; cases hp
  | succ i ih =>
    intro r ps h p hp
    unfold rdG at h
    split at h
    · cases h
    · rename_i r0 ps0 h0
      split at h
      · rename_i hR
        split at h
        · cases h
        · rename_i w r1
          split at h
          · rename_i hk
            simp at h
            rw [← h.2, List.mem_append] at hp
            rcases hp with hp | hp
            · obtain ⟨j, h1, h2⟩ := ih h0 p hp
              exact ⟨j, by omega, h2⟩
            · simp at hp; subst hp
              exact ⟨i, by omega, rfl, hR, hk⟩
          · cases h
      · simp at h
        rw [← h.2] at hp
        obtain ⟨j, h1, h2⟩ := ih h0 p hp
        exact ⟨j, by omega, h2⟩
theorem okR_iff {D : List DeedG} {w : Int} {i : Nat} : okR D w i = true ↔ 0 ≤ w ∧ w < D.length ∧ w ≠ i ∧ (D.getD w.toNat default).act.isW = true ∧ (D.getD w.toNat default).act.loc = (D.getD i default).act.loc ∧ (D.getD w.toNat default).act.new = (D.getD i default).act.old := by
  unfold okR; simp only [Bool.and_eq_true, decide_eq_true_eq, Bool.not_eq_true', decide_eq_false_iff_not]
  constructor
  · rintro ⟨⟨⟨⟨⟨a, b⟩, c⟩, d⟩, e⟩, f⟩; exact ⟨a, b, c, d, e, f⟩
  · rintro ⟨a, b, c, d, e, f⟩; exact ⟨⟨⟨⟨⟨a, b⟩, c⟩, d⟩, e⟩, f⟩

/-! ### The order of a location's writes -/
def wL (D : List DeedG) (t : Nat) (j : Int) : Prop := 0 ≤ j ∧ j < D.length ∧ (D.getD j.toNat default).act.isW = true ∧ (D.getD j.toNat default).act.loc = t
theorem mem_want {D : List DeedG} {n loc : Nat} : ∀ {i : Nat} {j : Int}, j ∈ wantTo D n loc i ↔ ∃ k : Nat, j = k ∧ k < i ∧ n ≤ k ∧ (D.getD k default).act.isW = true ∧ (D.getD k default).act.loc = loc := by
  intro i
  induction i with
  | zero => intro j; simp [wantTo]
  | succ i ih =>
    intro j
    unfold wantTo
    split
    · rename_i h
      rw [List.mem_append, ih]
      constructor
      · rintro (⟨k, h1, h2, h3⟩ | h1)
        · exact ⟨k, h1, by omega, h3⟩
        · exact ⟨i, by simpa using h1, by omega, h.1, h.2.1, h.2.2⟩
      · rintro ⟨k, h1, h2, h3⟩
        by_cases e : k = i
        · exact .inr (by rw [h1, e]; simp)
        · exact .inl ⟨k, h1, by omega, h3⟩
    · rename_i h
      rw [ih]
      constructor
      · rintro ⟨k, h1, h2, h3⟩; exact ⟨k, h1, by omega, h3⟩
      · rintro ⟨k, h1, h2, h3, h4, h5⟩
        by_cases e : k = i
        · subst e; exact absurd ⟨h3, h4, h5⟩ h
        · exact ⟨k, h1, by omega, h3, h4, h5⟩
theorem want_nodup {D : List DeedG} {n loc : Nat} : ∀ {i : Nat}, (wantTo D n loc i).Nodup := by
  intro i
  induction i with
  | zero => exact List.nodup_nil
  | succ i ih =>
    unfold wantTo
    split
    · rw [List.nodup_append]
      refine ⟨ih, by simp, fun a ha b hb => ?_⟩
      obtain ⟨k, h1, h2, _⟩ := mem_want.1 ha
      simp at hb; omega
    · exact ih
theorem sort_perm (l : List Int) : (sortI l).Perm l := List.mergeSort_perm l _

theorem mem_pairsAt {a : List Int} {i : Nat} {p : RatG} : p ∈ pairsAt a i (a.length - (i + 1)) ↔ ∃ j, i < j ∧ j < a.length ∧ p = ⟨a.getD i default, a.getD j default⟩ := by
  unfold pairsAt
  rw [List.take_of_length_le (by rw [List.length_drop]; omega)]
  constructor
  · intro h
    obtain ⟨x, hx, rfl⟩ := List.mem_map.1 h
    obtain ⟨m, hm, rfl⟩ := List.mem_iff_getElem.1 hx
    rw [List.length_drop] at hm
    refine ⟨i + 1 + m, by omega, by omega, ?_⟩
    rw [List.getElem_drop, getD_of (show i + 1 + m < a.length by omega)]
  · rintro ⟨j, h1, h2, rfl⟩
    refine List.mem_map.2 ⟨a.getD j default, ?_, rfl⟩
    rw [getD_of h2]
    refine List.mem_iff_getElem.2 ⟨j - (i + 1), by rw [List.length_drop]; omega, ?_⟩
    rw [List.getElem_drop]
    congr 1; omega
theorem mem_pairsTo {a : List Int} {p : RatG} : ∀ {n : Nat}, p ∈ pairsTo a n ↔ ∃ i j, i < n ∧ i < j ∧ j < a.length ∧ p = ⟨a.getD i default, a.getD j default⟩ := by
  intro n
  induction n with
  | zero => simp [pairsTo]
  | succ n ih =>
    unfold pairsTo
    rw [List.mem_append, ih, mem_pairsAt]
    constructor
    · rintro (⟨i, j, h1, h2⟩ | ⟨j, h1⟩)
      · exact ⟨i, j, by omega, h2⟩
      · exact ⟨n, j, by omega, h1⟩
    · rintro ⟨i, j, h1, h2⟩
      by_cases e : i = n
      · subst e; exact .inr ⟨j, h2⟩
      · exact .inl ⟨i, j, by omega, h2⟩
/-- The writes of a location, in their order. -/
def lineG (order : List (List Int × Bool)) (t : Nat) : List Int := (t : Int) :: (order.getD t default).1
theorem co_mem {D : List DeedG} {n : Nat} {order : List (List Int × Bool)} : ∀ {m : Nat} {ps : List RatG}, coG D n order m = some ps →
    (∀ p : RatG, p ∈ ps ↔ ∃ t i j, t < m ∧ i < j ∧ j < (lineG order t).length ∧ p = ⟨(lineG order t).getD i default, (lineG order t).getD j default⟩) ∧
    ∀ t, t < m → sortI (order.getD t default).1 = wantTo D n t D.length := by
  intro m
  induction m with
  | zero => intro ps h; simp [coG] at h; subst h; simp
  | succ m ih =>
    intro ps h
    unfold coG at h
    split at h
    · cases h
    · rename_i ps0 h0
      split at h
      · rename_i hw
        obtain ⟨g1, g2⟩ := ih h0
        simp at h; subst h
        refine ⟨fun p => ?_, fun t ht => ?_⟩
        · rw [List.mem_append, g1]
          constructor
          · rintro (⟨t, i, j, h1, h2⟩ | h1)
            · exact ⟨t, i, j, by omega, h2⟩
            · obtain ⟨i, j, h1, h2⟩ := mem_pairsTo.1 h1
              exact ⟨m, i, j, by omega, h2⟩
          · rintro ⟨t, i, j, h1, h2, h3, h4⟩
            by_cases e : t = m
            · subst e
              exact .inr (mem_pairsTo.2 ⟨i, j, by unfold lineG at h3; simp at h3; omega, h2, h3, h4⟩)
            · exact .inl ⟨t, i, j, by omega, h2, h3, h4⟩
        · by_cases e : t = m
          · rw [e]; exact hw
          · exact g2 t (by omega)
      · cases h

/-! ### Built worlds -/
structure BuiltG (l : List LocG) (acts : List (List ActG × Bool)) (fr : List Int) (order : List (List Int × Bool)) (x : WG) : Prop where
  locs : x.locs = l
  deeds : x.deeds = deedsAll l acts
  right : rightA l acts = true
  le : x.deeds.length ≤ 64
  ol : order.length = l.length
  okx : ∃ ps, rdG x.deeds fr x.deeds.length = some ([], ps) ∧ x.rf = ofG x.deeds.length ps
  cox : ∃ ps, coG x.deeds l.length order l.length = some ps ∧ x.co = ofG x.deeds.length ps

theorem built_of {l : List LocG} {acts : List (List ActG × Bool)} {fr : List Int} {order : List (List Int × Bool)} (h : (buildG l acts fr order).2 = 0) :
    BuiltG l acts fr order (buildG l acts fr order).1 := by
  unfold buildG at h ⊢
  split at h
  · rename_i h1; exact absurd h h1
  · rename_i h0
    rw [if_neg h0]
    have hD : (deedsG l acts).1 = deedsAll l acts ∧ rightA l acts = true ∧ (deedsAll l acts).length ≤ 64 := by
      unfold deedsG at h0 ⊢
      split at h0
      · simp at h0
      · split at h0
        · simp at h0
        · split at h0
          · simp at h0
          · rename_i q1 q2 q3
            rw [if_neg q1, if_neg q2, if_neg q3]
            exact ⟨rfl, by simpa using q2, by omega⟩
    rw [hD.1] at h ⊢
    rcases hrd : rdG (deedsAll l acts) fr (deedsAll l acts).length with _ | ⟨rest, rf⟩
    · rw [hrd] at h; cases h
    · rw [hrd] at h
      simp only at h ⊢
      split at h
      · cases h
      · rename_i h2
        rw [if_neg h2]
        rcases hco : coG (deedsAll l acts) l.length order l.length with _ | co
        · rw [hco] at h; cases h
        · have h3 : rest = [] ∧ order.length = l.length := by
            constructor
            · apply Classical.byContradiction; intro e; exact h2 (.inl e)
            · apply Classical.byContradiction; intro e; exact h2 (.inr e)
          rw [h3.1] at hrd
          exact ⟨rfl, rfl, hD.2.1, hD.2.2, h3.2, ⟨rf, hrd, rfl⟩, ⟨co, hco, rfl⟩⟩
theorem hasN_of {n : Nat} (hn : n ≤ 64) {ps : List RatG} (h : ∀ p ∈ ps, 0 ≤ p.num ∧ p.num < n ∧ 0 ≤ p.den ∧ p.den < n) {i k : Nat} : hasN (ofG n ps) i k = true ↔ (⟨i, k⟩ : RatG) ∈ ps := by
  have he : ofErr n ps = 0 := by
    unfold ofErr
    rw [if_neg (by omega), if_neg]
    rw [Bool.not_eq_true, List.any_eq_false]
    intro p hp
    obtain ⟨a, b, c, d⟩ := h p hp
    unfold ofBad
    rw [decide_eq_false (show ¬ p.num < 0 by omega), decide_eq_false (show ¬ (n : Int) ≤ p.num by omega), decide_eq_false (show ¬ p.den < 0 by omega), decide_eq_false (show ¬ (n : Int) ≤ p.den by omega)]
    simp
  unfold ofG
  rw [if_pos he, Int.toNat_natCast, hasN_mk hn]
  unfold ofP
  simp only [Bool.and_eq_true, decide_eq_true_eq, List.any_eq_true]
  constructor
  · rintro ⟨_, p, hp, h1, h2⟩
    have : p = ⟨i, k⟩ := by cases p; simp only at h1 h2; rw [h1, h2]
    rw [← this]; exact hp
  · intro hp
    have := h _ hp
    simp only at this
    exact ⟨⟨by omega, by omega⟩, _, hp, rfl, rfl⟩
theorem sq_of {n : Nat} (hn : n ≤ 64) {ps : List RatG} (h : ∀ p ∈ ps, 0 ≤ p.num ∧ p.num < n ∧ 0 ≤ p.den ∧ p.den < n) : Sq n (ofG n ps) := by
  have he : ofErr n ps = 0 := by
    unfold ofErr
    rw [if_neg (by omega), if_neg]
    rw [Bool.not_eq_true, List.any_eq_false]
    intro p hp
    obtain ⟨a, b, c, d⟩ := h p hp
    unfold ofBad
    rw [decide_eq_false (show ¬ p.num < 0 by omega), decide_eq_false (show ¬ (n : Int) ≤ p.num by omega), decide_eq_false (show ¬ p.den < 0 by omega), decide_eq_false (show ¬ (n : Int) ≤ p.den by omega)]
    simp
  unfold ofG
  rw [if_pos he, Int.toNat_natCast]
  exact Sq.mk hn _

section
variable {l : List LocG} {acts : List (List ActG × Bool)} {fr : List Int} {order : List (List Int × Bool)} {x : WG} (B : BuiltG l acts fr order x)
include B
theorem BuiltG.ge : l.length ≤ x.deeds.length := by rw [B.deeds]; exact deeds_ge l acts
theorem BuiltG.good {i : Nat} (hi : i < x.deeds.length) : goodD l (x.deeds.getD i default) := by
  rw [B.deeds] at hi ⊢; exact deeds_good B.right hi
theorem BuiltG.rd_ok {ps : List RatG} (h : rdG x.deeds fr x.deeds.length = some ([], ps)) : ∀ p ∈ ps, 0 ≤ p.num ∧ p.num < x.deeds.length ∧ 0 ≤ p.den ∧ p.den < x.deeds.length := by
  intro p hp
  obtain ⟨j, h1, h2, h3, h4⟩ := rd_mem h p hp
  have := okR_iff.1 h4
  omega
theorem BuiltG.line_mem {t : Nat} (ht : t < l.length) {j : Int} : j ∈ lineG order t ↔ wL x.deeds t j := by
  obtain ⟨ps, h1, _⟩ := B.cox
  have hs := (co_mem h1).2 t ht
  unfold lineG wL
  rw [List.mem_cons, ← (sort_perm _).mem_iff, hs, mem_want]
  have hge := B.ge
  constructor
  · rintro (rfl | ⟨k, rfl, h2, h3, h4, h5⟩)
    · rw [Int.toNat_natCast, B.deeds, deeds_w0 ht, deeds_loc0 ht]
      exact ⟨by omega, by rw [← B.deeds]; omega, rfl, rfl⟩
    · exact ⟨by omega, by omega, by rw [Int.toNat_natCast]; exact h4, by rw [Int.toNat_natCast]; exact h5⟩
  · rintro ⟨h2, h3, h4, h5⟩
    by_cases hj : j.toNat < l.length
    · left
      rw [B.deeds, deeds_loc0 hj] at h5
      omega
    · exact .inr ⟨j.toNat, by omega, by omega, by omega, h4, h5⟩
theorem BuiltG.line_nodup {t : Nat} (ht : t < l.length) : (lineG order t).Nodup := by
  obtain ⟨ps, h1, _⟩ := B.cox
  have hs := (co_mem h1).2 t ht
  unfold lineG
  rw [List.nodup_cons]
  constructor
  · intro hm
    rw [← (sort_perm _).mem_iff, hs, mem_want] at hm
    obtain ⟨k, h2, h3, h4, _⟩ := hm
    omega
  · rw [← (sort_perm _).nodup_iff, hs]; exact want_nodup
theorem BuiltG.co_ok {ps : List RatG} (h : coG x.deeds l.length order l.length = some ps) : ∀ p ∈ ps, 0 ≤ p.num ∧ p.num < x.deeds.length ∧ 0 ≤ p.den ∧ p.den < x.deeds.length := by
  intro p hp
  obtain ⟨t, i, j, ht, h1, h2, rfl⟩ := ((co_mem h).1 p).1 hp
  have e1 : (lineG order t).getD i default ∈ lineG order t := by rw [getD_of (by omega)]; exact List.getElem_mem _
  have e2 : (lineG order t).getD j default ∈ lineG order t := by rw [getD_of h2]; exact List.getElem_mem _
  have q1 := (B.line_mem ht).1 e1
  have q2 := (B.line_mem ht).1 e2
  exact ⟨q1.1, q1.2.1, q2.1, q2.2.1⟩
theorem BuiltG.rf_iff {k i : Nat} : hasN x.rf k i = true ↔ ∃ ps, rdG x.deeds fr x.deeds.length = some ([], ps) ∧ (⟨k, i⟩ : RatG) ∈ ps := by
  obtain ⟨ps, h1, h2⟩ := B.okx
  rw [h2, hasN_of B.le (B.rd_ok h1)]
  constructor
  · exact fun h => ⟨ps, h1, h⟩
  · rintro ⟨ps', h3, h4⟩; rw [h1] at h3; cases h3; exact h4
/-- A pair of who reads from whom. -/
theorem BuiltG.rf_ok {k i : Nat} (h : hasN x.rf k i = true) : k < x.deeds.length ∧ i < x.deeds.length ∧ k ≠ i ∧ (x.deeds.getD i default).act.isR = true ∧ (x.deeds.getD k default).act.isW = true ∧
    (x.deeds.getD k default).act.loc = (x.deeds.getD i default).act.loc ∧ (x.deeds.getD k default).act.new = (x.deeds.getD i default).act.old := by
  obtain ⟨ps, h1, h2⟩ := B.rf_iff.1 h
  obtain ⟨j, h3, h4, h5, h6⟩ := rd_mem h1 _ h2
  simp only at h4
  have : j = i := by omega
  subst this
  have := okR_iff.1 h6
  simp only [Int.toNat_natCast] at this
  obtain ⟨a, b, c, d, e, f⟩ := this
  exact ⟨by omega, h3, by omega, h5, d, e, f⟩
theorem BuiltG.co_iff {i k : Nat} : hasN x.co i k = true ↔ ∃ t a b, t < l.length ∧ a < b ∧ b < (lineG order t).length ∧ (i : Int) = (lineG order t).getD a default ∧ (k : Int) = (lineG order t).getD b default := by
  obtain ⟨ps, h1, h2⟩ := B.cox
  rw [h2, hasN_of B.le (B.co_ok h1), (co_mem h1).1]
  constructor
  · rintro ⟨t, a, b, h3, h4, h5, h6⟩
    simp only [RatG.mk.injEq] at h6
    exact ⟨t, a, b, h3, h4, h5, h6.1, h6.2⟩
  · rintro ⟨t, a, b, h3, h4, h5, h6, h7⟩
    exact ⟨t, a, b, h3, h4, h5, by rw [h6, h7]⟩
theorem BuiltG.co_ok2 {i k : Nat} (h : hasN x.co i k = true) : ∃ t : Nat, t < l.length ∧ i ≠ k ∧ wL x.deeds t i ∧ wL x.deeds t k := by
  obtain ⟨t, a, b, h1, h2, h3, h4, h5⟩ := B.co_iff.1 h
  refine ⟨t, h1, ?_, ?_, ?_⟩
  · intro e
    have hn := B.line_nodup h1
    rw [e, h5, getD_of (show a < _ by omega), getD_of h3] at h4
    have := (List.getElem_inj hn).1 h4
    omega
  · rw [h4]; exact (B.line_mem h1).1 (by rw [getD_of (by omega)]; exact List.getElem_mem _)
  · rw [h5]; exact (B.line_mem h1).1 (by rw [getD_of h3]; exact List.getElem_mem _)
theorem BuiltG.co_tot {t i k : Nat} (ht : t < l.length) (hne : i ≠ k) (hi : wL x.deeds t i) (hk : wL x.deeds t k) : hasN x.co i k = true ∨ hasN x.co k i = true := by
  obtain ⟨a, ha, ea⟩ := List.mem_iff_getElem.1 ((B.line_mem ht).2 hi)
  obtain ⟨b, hb, eb⟩ := List.mem_iff_getElem.1 ((B.line_mem ht).2 hk)
  have hab : a ≠ b := by
    intro e; subst e; rw [ea] at eb; omega
  by_cases h : a < b
  · exact .inl (B.co_iff.2 ⟨t, a, b, ht, h, hb, by rw [getD_of ha, ea], by rw [getD_of hb, eb]⟩)
  · exact .inr (B.co_iff.2 ⟨t, b, a, ht, by omega, ha, by rw [getD_of hb, eb], by rw [getD_of ha, ea]⟩)
theorem BuiltG.ok : x.Ok := by
  obtain ⟨ps, h1, h2⟩ := B.okx
  obtain ⟨qs, h3, h4⟩ := B.cox
  exact ⟨B.le, by rw [h2]; exact sq_of B.le (B.rd_ok h1), by rw [h4]; exact sq_of B.le (B.co_ok h3)⟩
/-- Where a deed is. -/
theorem BuiltG.at_ {i : Nat} (hi : i < x.deeds.length) : ∃ t : Nat, t < l.length ∧ (x.deeds.getD i default).act.loc = t := by
  obtain ⟨h1, h2⟩ := B.good hi
  unfold ActG.right at h1
  rw [if_neg h2] at h1
  simp only [Bool.and_eq_true, decide_eq_true_eq] at h1
  exact ⟨(x.deeds.getD i default).act.loc.toNat, by omega, by omega⟩
theorem BuiltG.atom {i : Nat} (hi : i < x.deeds.length) : x.atom i = (x.deeds.getD i default).act.isA := by
  obtain ⟨h1, h2⟩ := B.good hi
  unfold ActG.right at h1
  rw [if_neg h2] at h1
  simp only [Bool.and_eq_true, decide_eq_true_eq, beq_iff_eq] at h1
  unfold WG.atom WG.dl
  rw [B.locs, decide_eq_true (show 0 ≤ (x.deeds.getD i default).act.loc by omega), decide_eq_true (show (x.deeds.getD i default).act.loc < l.length by omega)]
  simp only [Bool.and_self, Bool.true_and]
  exact h1.1.1.2
theorem BuiltG.atom_loc {i k : Nat} (h : (x.deeds.getD i default).act.loc = (x.deeds.getD k default).act.loc) : x.atom i = x.atom k := by
  unfold WG.atom WG.dl; rw [h]
end

/-! ### Judged -/
theorem any_nz {r : List W} {i k : Nat} (h : hasN r i k = true) : r.any nzW = true := by
  have h1 := hasN_lt h
  have h2 := szR_len r
  have hi : i < r.length := by omega
  unfold hasN at h
  simp only [Bool.and_eq_true, decide_eq_true_eq] at h
  rw [List.getD_eq_getElem?_getD, List.getElem?_eq_getElem hi] at h
  refine List.any_eq_true.2 ⟨r[i], List.getElem_mem hi, ?_⟩
  unfold nzW
  have : r[i] ≠ 0#64 := by
    intro e
    rw [e] at h
    have := h.2
    simp at this
  simpa using this
theorem hasN_back23 {A : List W} {i k : Nat} : hasN (backG A) i k = hasN A k i := by
  unfold backG
  rw [hasN_mk (szR_le A)]
  apply beq_of_iff
  simp only [Bool.and_eq_true, decide_eq_true_eq]
  exact ⟨fun h => h.2, fun h => ⟨by have := hasN_lt h; omega, h⟩⟩
theorem no_meet {a b : List W} (h : meetsG a b = false) {i k : Nat} (h1 : hasN a i k = true) (h2 : hasN b k i = true) : False := by
  have : meetsG a b = true := by
    unfold meetsG
    refine any_nz (i := i) (k := k) ?_
    rw [hasN_lay2 rfl, h1, hasN_back23, h2]; rfl
  rw [h] at this; cases this
theorem way_base {p : Nat → Nat → Bool} {i k : Nat} (h : p i k = true) : ∀ m, way p m i k = true := by
  intro m
  induction m with
  | zero => exact h
  | succ m ih => simp only [way, ih, Bool.true_or]
theorem way_up {p : Nat → Nat → Bool} {i k m : Nat} (h : way p m i k = true) : ∀ d, way p (m + d) i k = true := by
  intro d
  induction d with
  | zero => exact h
  | succ d ih => rw [show m + (d + 1) = (m + d) + 1 by omega]; simp only [way, ih, Bool.true_or]
theorem ring_two {A : List W} {i k : Nat} (h1 : hasN A i k = true) (h2 : hasN A k i = true) : ringG A = true := by
  have hl := hasN_lt h1
  have h3 : way (hasN A) (k + 1) i i = true := by
    simp only [way, way_base h1, way_base h2, Bool.and_self, Bool.or_true]
  have h4 := way_up h3 (szR A - (k + 1))
  rw [show k + 1 + (szR A - (k + 1)) = szR A by omega] at h4
  unfold ringG
  exact List.any_eq_true.2 ⟨i, by simpa using hl.1, h4⟩
theorem hasN_only {x : WG} {r : List W} {i k : Nat} (hr : r.length ≤ 64) : hasN (onlyG x r) i k = (x.atom i && hasN r i k) := by
  have hlen : (onlyG x r).length = r.length := by unfold onlyG mapW; simp
  have hsz : szR (onlyG x r) = szR r := by unfold szR; rw [hlen]
  unfold hasN
  rw [hsz]
  by_cases hi : i < szR r
  · have hi' : i < r.length := by have := szR_len r; omega
    have : (onlyG x r).getD i 0#64 = if x.atom i then r.getD i 0#64 else 0#64 := by
      unfold onlyG mapW
      rw [List.getD_eq_getElem?_getD, List.getElem?_map, List.getElem?_range hi']; rfl
    rw [this]
    cases x.atom i
    · simp
    · simp
  · simp [hi]
theorem sq_r {x : WG} (hx : x.Ok) : Sq x.deeds.length (lay2 qOr x.rf x.co) := Sq.lay2 hx.rf.len hx.co.len hx.n
theorem ord_of {x : WG} (hx : x.Ok) {i k : Nat} (hi : i < x.deeds.length) (hk : k < x.deeds.length) (h : x.bef i k = true ∨ x.atom i = true ∧ (hasN x.rf i k = true ∨ hasN x.co i k = true)) : hasN (ordW x) i k = true := by
  have hb : hasN x.baseO i k = true := by
    unfold WG.baseO
    rw [hasN_mk hx.n, decide_eq_true hi, decide_eq_true hk]
    unfold WG.baseR
    rw [hasN_only (by rw [(sq_r hx).len]; exact hx.n), hasN_or]
    rcases h with h | ⟨h1, h2 | h2⟩
    · simp [h]
    · simp [h1, h2]
    · simp [h1, h2]
  have hs : szR x.baseO = x.deeds.length := by unfold WG.baseO szR; rw [mkR_len]; have := hx.n; omega
  unfold ordW plusG
  rw [hs, hasN_mk hx.n, decide_eq_true hi, decide_eq_true hk, way_base hb]; rfl
theorem fr_of {x : WG} (hx : x.Ok) {s i k : Nat} (hne : i ≠ k) (h1 : hasN x.rf s i = true) (h2 : hasN x.co s k = true) : hasN (frW x) i k = true := by
  unfold frW
  have l1 := hx.rf.lt h1
  have l2 := hx.co.lt h2
  rw [hasN_mk hx.n, decide_eq_true l1.2, decide_eq_true l2.2]
  have : frP x i k = true := thenP_iff.2 ⟨s, by rw [hasN_back23]; exact h1, h2⟩
  rw [this]
  simp; omega
theorem chk_no {x : WG} (h : chkW x = 0) : ringG (lay2 qOr (lay2 qOr (ordW x) x.rf) (onlyG x (frW x))) = false ∧ meetsG (ordW x) x.co = false ∧ meetsG (ordW x) (frW x) = false := by
  unfold chkW at h
  split at h
  · cases h
  · rename_i h1
    split at h
    · cases h
    · rename_i h2
      split at h
      · cases h
      · rename_i h3
        exact ⟨by simpa using h1, by simpa using h2, by simpa using h3⟩
theorem fr_len (x : WG) : (frW x).length = x.deeds.length := by unfold frW; rw [mkR_len]

section
variable {l : List LocG} {acts : List (List ActG × Bool)} {fr : List Int} {order : List (List Int × Bool)} {x : WG} (B : BuiltG l acts fr order x) (hc : chkW x = 0)
include B hc
theorem turn_co {k i : Nat} (hT : (x.deeds.getD i default).act.kind = 5) (h : hasN x.rf k i = true) : hasN x.co k i = true := by
  obtain ⟨hk, hi, hne, hR, hW, hl, _⟩ := B.rf_ok h
  obtain ⟨t, ht, et⟩ := B.at_ hi
  have hWi : (x.deeds.getD i default).act.isW = true := by unfold ActG.isW; rw [hT]; rfl
  have hAi : (x.deeds.getD i default).act.isA = true := by unfold ActG.isA; rw [hT]; rfl
  have hak : x.atom k = true := by rw [B.atom_loc hl, B.atom hi, hAi]
  obtain ⟨h1, h2, h3⟩ := chk_no hc
  rcases B.co_tot ht hne ⟨by omega, by omega, by rw [Int.toNat_natCast]; exact hW, by rw [Int.toNat_natCast, hl, et]⟩ ⟨by omega, by omega, by rw [Int.toNat_natCast]; exact hWi, by rw [Int.toNat_natCast, et]⟩ with q | q
  · exact q
  · exact absurd (no_meet h2 (ord_of B.ok hk hi (.inr ⟨hak, .inl h⟩)) q) id
theorem turn_next {k i j : Nat} (hT : (x.deeds.getD i default).act.kind = 5) (h : hasN x.rf k i = true) (h1 : hasN x.co k j = true) (h2 : hasN x.co j i = true) : False := by
  obtain ⟨hk, hi, hne, hR, hW, hl, _⟩ := B.rf_ok h
  have hAi : (x.deeds.getD i default).act.isA = true := by unfold ActG.isA; rw [hT]; rfl
  obtain ⟨t, ht, hji, wj, wi⟩ := B.co_ok2 h2
  obtain ⟨q1, q2, q3⟩ := chk_no hc
  have hj : j < x.deeds.length := (B.ok.co.lt h2).1
  have hai : x.atom i = true := by rw [B.atom hi, hAi]
  have haj : x.atom j = true := by
    rw [B.atom_loc (i := j) (k := i), hai]
    have e1 := wj.2.2.2; have e2 := wi.2.2.2
    rw [Int.toNat_natCast] at e1 e2
    rw [e1, e2]
  have r1 : hasN (lay2 qOr (lay2 qOr (ordW x) x.rf) (onlyG x (frW x))) i j = true := by
    rw [hasN_or, hasN_only (by rw [fr_len]; exact B.le), hai, fr_of B.ok (fun e => hji e.symm) h h1]; simp
  have r2 : hasN (lay2 qOr (lay2 qOr (ordW x) x.rf) (onlyG x (frW x))) j i = true := by
    rw [hasN_or, hasN_or, ord_of B.ok hj hi (.inr ⟨haj, .inr h2⟩)]; simp
  have := ring_two r1 r2
  rw [q1] at this; cases this
theorem turn_two {k i j : Nat} (hT : (x.deeds.getD i default).act.kind = 5) (h : hasN x.rf k i = true) (hne : j ≠ i) (hT' : (x.deeds.getD j default).act.kind = 5) (h' : hasN x.rf k j = true) : False := by
  obtain ⟨hk, hi, _, hR, hW, hl, _⟩ := B.rf_ok h
  obtain ⟨_, hj, _, _, _, hl', _⟩ := B.rf_ok h'
  obtain ⟨t, ht, et⟩ := B.at_ hi
  have hWi : (x.deeds.getD i default).act.isW = true := by unfold ActG.isW; rw [hT]; rfl
  have hWj : (x.deeds.getD j default).act.isW = true := by unfold ActG.isW; rw [hT']; rfl
  rcases B.co_tot ht (i := j) (k := i) hne ⟨by omega, by omega, by rw [Int.toNat_natCast]; exact hWj, by rw [Int.toNat_natCast, ← hl', hl, et]⟩ ⟨by omega, by omega, by rw [Int.toNat_natCast]; exact hWi, by rw [Int.toNat_natCast, et]⟩ with q | q
  · exact turn_next B hc hT h (turn_co B hc hT' h') q
  · exact turn_next B hc hT' h' (turn_co B hc hT h) q
theorem own_bef {k i : Nat} (hki : k < i) (hi : i < x.deeds.length) (hth : 0 ≤ (x.deeds.getD k default).th) (he : (x.deeds.getD k default).th = (x.deeds.getD i default).th) : hasN (ordW x) k i = true := by
  refine ord_of B.ok (by omega) hi (.inl ?_)
  unfold WG.bef befD
  rw [decide_eq_true hth, decide_eq_true he, decide_eq_true hki]; simp
theorem own_w {k i : Nat} (hki : k < i) (hi : i < x.deeds.length) (hth : 0 ≤ (x.deeds.getD k default).th) (he : (x.deeds.getD k default).th = (x.deeds.getD i default).th)
    (hl : (x.deeds.getD k default).act.loc = (x.deeds.getD i default).act.loc) (hW : (x.deeds.getD k default).act.isW = true) (hWi : (x.deeds.getD i default).act.isW = true) : hasN x.co k i = true := by
  obtain ⟨t, ht, et⟩ := B.at_ hi
  obtain ⟨q1, q2, q3⟩ := chk_no hc
  rcases B.co_tot ht (i := k) (k := i) (by omega) ⟨by omega, by omega, by rw [Int.toNat_natCast]; exact hW, by rw [Int.toNat_natCast, hl, et]⟩ ⟨by omega, by omega, by rw [Int.toNat_natCast]; exact hWi, by rw [Int.toNat_natCast, et]⟩ with q | q
  · exact q
  · exact absurd (no_meet q2 (own_bef B hc hki hi hth he) q) id
theorem own_r {k i j : Nat} (hki : k < i) (hi : i < x.deeds.length) (hth : 0 ≤ (x.deeds.getD k default).th) (he : (x.deeds.getD k default).th = (x.deeds.getD i default).th)
    (hl : (x.deeds.getD k default).act.loc = (x.deeds.getD i default).act.loc) (hW : (x.deeds.getD k default).act.isW = true) (hr : hasN x.rf j i = true) (hne : j ≠ k) : hasN x.co k j = true := by
  obtain ⟨t, ht, et⟩ := B.at_ hi
  obtain ⟨q1, q2, q3⟩ := chk_no hc
  obtain ⟨hj, _, _, _, hWj, hlj, _⟩ := B.rf_ok hr
  rcases B.co_tot ht (i := k) (k := j) (fun e => hne e.symm) ⟨by omega, by omega, by rw [Int.toNat_natCast]; exact hW, by rw [Int.toNat_natCast, hl, et]⟩ ⟨by omega, by omega, by rw [Int.toNat_natCast]; exact hWj, by rw [Int.toNat_natCast, hlj, et]⟩ with q | q
  · exact q
  · exact absurd (no_meet q3 (own_bef B hc hki hi hth he) (fr_of B.ok (by omega) hr q)) id
end
end Go.Ago

/- The laws of layer 23: what is small, and a fixed answer. Conditions: none. -/
set_option maxRecDepth 100000
set_option linter.unusedSimpArgs false
set_option linter.unusedVariables false
namespace Go.Ago
attribute [local irreducible] vck
def smallF (l : List LocG) (acts : List (List ActG × Bool)) (fr : List Int) (order : List (List Int × Bool)) : Bool :=
  decide (l.length ≤ 20) && decide (acts.length ≤ 5) && decide (fr.length ≤ 100) && decide (order.length ≤ 20) && acts.all (fun x => decide (x.1.length ≤ 70)) && order.all (fun x => decide (x.1.length ≤ 100))
theorem smallF_iff {l : List LocG} {acts : List (List ActG × Bool)} {fr : List Int} {order : List (List Int × Bool)} : smallF l acts fr order = true ↔ smallB l acts fr order := by
  unfold smallF smallB smallA
  simp only [Bool.and_eq_true, decide_eq_true_eq, List.all_eq_true]
  exact ⟨fun ⟨⟨⟨⟨⟨a, b⟩, c⟩, d⟩, e⟩, f⟩ => ⟨⟨a, b, e⟩, c, d, f⟩, fun ⟨⟨a, b, e⟩, c, d, f⟩ => ⟨⟨⟨⟨⟨a, b⟩, c⟩, d⟩, e⟩, f⟩⟩
def sp_small : Sp := ⟨(List LocG × Bool × List (List ActG × Bool) × Bool) × (List Int × Bool × List (List Int × Bool) × Bool), fun x => [.d (.list (x.1.1.map LocG.row) x.1.2.1), .d (.list (x.1.2.2.1.map rowLA) x.1.2.2.2), .d (.list (x.2.1.map rowI) x.2.2.1), .d (.list (x.2.2.2.1.map rowLI) x.2.2.2.2)],
  fun x => .data (x.1.2.2.1.length ≤ maxLen ∧ x.2.2.2.1.length ≤ maxLen) (.d (.bool (smallF x.1.1 x.1.2.2.1 x.2.1 x.2.2.2.1))) true⟩
theorem at_small (l : List LocG) (f : Bool) (acts : List (List ActG × Bool)) (g : Bool) (fr : List Int) (ff : Bool) (order : List (List Int × Bool)) (og : Bool) : sp_small.at [.d (.list (l.map LocG.row) f), .d (.list (acts.map rowLA) g), .d (.list (fr.map rowI) ff), .d (.list (order.map rowLI) og)] =
    .data (acts.length ≤ maxLen ∧ order.length ≤ maxLen) (.d (.bool (smallF l acts fr order))) true :=
  Sp.at_enc (s := sp_small) (fun x y h => by
    obtain ⟨⟨a, b, c, d⟩, e, f, g, i⟩ := x; obtain ⟨⟨a', b', c', d'⟩, e', f', g', i'⟩ := y
    simp only [sp_small, List.cons.injEq, AV.d.injEq, DV.list.injEq, and_true] at h
    obtain ⟨⟨h1, h2⟩, ⟨h3, h4⟩, ⟨h5, h6⟩, h7, h8⟩ := h
    rw [Z37 LocG.row_inj h1, h2, Z37 rowLA_inj h3, h4, Z37 rowI_inj h5, h6, Z37 rowLI_inj h7, h8]) ((l, f, acts, g), fr, ff, order, og)
theorem all_at {α : Type} [Inhabited α] {l : List α} {p : α → Bool} {i : Nat} (hi : i < l.length) (h : p (l.getD i default) = false) : l.all p = false := by
  rw [Bool.eq_false_iff]
  intro hh
  rw [List.all_eq_true] at hh
  have := hh (l.getD i default) (by rw [getD_lt hi]; exact List.getElem_mem hi)
  rw [h] at this; cases this
theorem all_yes {α : Type} [Inhabited α] {l : List α} {p : α → Bool} (h : ∀ i, i < l.length → p (l.getD i default) = true) : l.all p = true := by
  rw [List.all_eq_true]
  intro x hx
  obtain ⟨i, hi, rfl⟩ := List.getElem_of_mem hx
  have := h i hi
  rwa [getD_lt hi] at this
theorem body_law23_small {T : Tab} : sp_small.Body T V_law23_small L_law23_small R_law23_small := by
  rintro ⟨⟨l, f, acts, g⟩, fr, ff, order, og⟩ ⟨h1, h2⟩
  have h1 : acts.length ≤ maxLen := h1
  have h2 : order.length ≤ maxLen := h2
  refine .inl ⟨rfl, ?_⟩
  unfold V_law23_small L_law23_small R_law23_small
  simp (maxSteps := 3000000) only [↓Z1g, ↓Z24, ↓Z1s, ↓Z04, ↓Z2p, ↓Z2o, nilG_d, nilG_r, ↓Z1i, ↓Z1a, ↓Z0f, ↓Z1t, ↓Z0d, ↓Z1f, ↓Z34, ↓Z3a, ↓Z26, ↓Z1q, ↓Z2r, ↓Z2h, ↓Z1e, ↓Z3d, ↓retK_n, ↓Z3t, ↓Z3v, ↓Z3u, ↓famK_n, ↓Z42, ↓famK_r, ↓Z0l, ↓Z08, ↓Z1j, ↓Z0e, ↓Z1v, nf_mk, Z07, Z1h, Z2z, Z1b, Z32, evN, Z2d, Z1d, Z31, feet_t, Z1c, Z0n, Z19, Z2y, Z2j, Z2e, Z1o, Z2f, evT, Opd.ev, Z01, Z00, Z30, app_no, Z3l, Z29, Z1u, Z2b, Z2g, Z3r, Z18, Z09, Z3b, LOp.isNew, State.prune, Z3p, Z2m, AV.leaf, Heap.at, Z0g, Z0b, Z1k, Z0j, Z03, idx_I, idx_W, rowW, Z2i, Z35, Z27, Z1m, rowB, Z38, Z36, rowN, lens_W, Z3x, Z1l, Z17, w_or, w_and, Z39, w_and1, w_shl, w_shl1, w_shr, w_sub1, w_neg, w_add, w_bit, w_eq0, w_eq1, w_eq, Bool.decide_eq_true, Z3o, Z3n, Z3q, Z2s, Z1w, Z05, Z0c, Z0o, Z02, Z1r, rowI, RatG.row, LocG.row, ActG.row, StepG.row, StampG.row, ActG.av, ActG.eta, RatG.eta, LocG.eta, beq_true, beq_false, Z2n, Z2x, Z2q, Z2w, Z14, Z0r, Z12, Z13, Z0q, Z0p, Z0h, List.length_set, List.length_replicate, Z06, Int.reduceToNat, evLen, Z2c, Z40, Src.all, Src.len, Src.leaf, Src.leafN, Z3h, aliveQ, joinV, Z0m, Z0t, Z0u, Z0v, Z0w, Z0x, Z0y, Z0z, mkVec, drows, evMk, List.length_map, Z25, Z28, List.take_length, List.take_left, List.length_append, Nat.le_add_right, ite_self, List.take_of_length_le, Z3m, intOr, intOpd, Option.isSome_none, Option.isSome_some, Nat.sub_zero, loadQ, loadT, evBin, evUn, Z15, Z16, binT, binQ, chk, Z3y, List.contains_cons, List.contains_nil, Bool.or_false, Bool.false_or, Bool.and_self, resQ, resV, resT, pickV, Z2a, evTake, Z3j, fnOf, Z3e, isD, HO.drow, viewT, Z41, evEq, eqV, eqK, eqC1, buildQ, buildT, Z3g, Z3c, lens_I, Z3s, Z2v, Z1z, Z2u, Z1y, Z2t, Z1x, Z20, Z10, Z11, Z0i, List.mem_cons, List.not_mem_nil, or_false, forall_eq, putRow, Z3i, Z23, RetS, RetF, RetD, AV.frz, AV.frzL, AV.freshP, AV.freshL, DV.less, Z2k, Z21, Z2l, Z22, Z0k, Z0a, Option.some.injEq, AV.tup.injEq, AV.agg.injEq, List.cons.injEq, DV.list.injEq, List.isEmpty_nil, Nat.le_refl, AV.d.injEq, DV.int.injEq, DV.bool.injEq, ↓reduceIte, Nat.reduceEqDiff, Nat.reduceAdd, Nat.reduceBEq, List.length_cons, List.length_nil, List.replicate_succ, List.replicate_zero, List.nil_append, List.cons_append, List.append_nil, List.foldl_cons, List.foldl_nil, List.map_cons, List.map_nil, List.all_cons, List.all_nil, List.set_cons_zero, List.set_cons_succ, List.getD_cons_zero, List.getD_cons_succ, List.drop_zero, List.drop_succ_cons, List.take_succ_cons, List.take_zero, List.flatten_cons, List.flatten_nil, Bool.true_and, Bool.and_true, Bool.not_true, Bool.not_false, true_and, and_true, true_or, or_true, Option.bind_some, Option.map_some, decide_true, decide_false, beq_self_eq_true, true_implies, false_implies, implies_true, not_true_eq_false, not_false_eq_true, and_self, Bool.and_false, Bool.false_and, Nat.reduceLT, Nat.reduceLeDiff, List.reverse_cons, List.reverse_nil, Nat.zero_add, Nat.add_zero, Bool.false_eq_true, List.getElem?_cons_zero, Nat.reduceMul, Nat.mul_one, DeedG.row, Z3z, Z3f, Z33, lens_Deed, Z3w, idx_LA, rowLA_len, rowLA_get, idx_LI, rowLI_len, rowLI_get, sp_small]
  refine ⟨fun c1 => by unfold smallF; rw [decide_eq_false (by omega)]; simp, fun c1 => ⟨fun c2 => by unfold smallF; rw [decide_eq_false (show ¬ acts.length ≤ 5 by omega)]; simp, fun c2 => ⟨fun c3 => by unfold smallF; rw [decide_eq_false (show ¬ fr.length ≤ 100 by omega)]; simp, fun c3 => ⟨fun c4 => by unfold smallF; rw [decide_eq_false (show ¬ order.length ≤ 20 by omega)]; simp, fun c4 => ?_⟩⟩⟩⟩
  refine Loop.fam [1, 3, 9] (fun i : Nat => ⟨[(1, .d (.list (acts.map rowLA) g)), (3, .d (.list (order.map rowLI) og)), (9, .d (.int .i64 i))], []⟩) (fun i => i ≤ acts.length ∧ ∀ j, j < i → (acts.getD j default).1.length ≤ 70) (fun i => acts.length - i) 0 [] (by simp) (by simp) (by simp only [State.can, AV.can, AV.canL, HO.can, Z0s, idx, Z01, Z00, Heap.at, Nat.reduceBEq, ↓reduceIte, Nat.reduceEqDiff, Option.getD_some, Option.map_some, List.map_cons, List.map_nil, List.getD_cons_zero, List.getD_cons_succ]; rfl) ⟨by omega, by omega⟩ ?_
  rintro i ⟨hi, hj⟩
  simp (maxSteps := 3000000) only [↓Z1g, ↓Z24, ↓Z1s, ↓Z04, ↓Z2p, ↓Z2o, nilG_d, nilG_r, ↓Z1i, ↓Z1a, ↓Z0f, ↓Z1t, ↓Z0d, ↓Z1f, ↓Z34, ↓Z3a, ↓Z26, ↓Z1q, ↓Z2r, ↓Z2h, ↓Z1e, ↓Z3d, ↓retK_n, ↓Z3t, ↓Z3v, ↓Z3u, ↓famK_n, ↓Z42, ↓famK_r, ↓Z0l, ↓Z08, ↓Z1j, ↓Z0e, ↓Z1v, nf_mk, Z07, Z1h, Z2z, Z1b, Z32, evN, Z2d, Z1d, Z31, feet_t, Z1c, Z0n, Z19, Z2y, Z2j, Z2e, Z1o, Z2f, evT, Opd.ev, Z01, Z00, Z30, app_no, Z3l, Z29, Z1u, Z2b, Z2g, Z3r, Z18, Z09, Z3b, LOp.isNew, State.prune, Z3p, Z2m, AV.leaf, Heap.at, Z0g, Z0b, Z1k, Z0j, Z03, idx_I, idx_W, rowW, Z2i, Z35, Z27, Z1m, rowB, Z38, Z36, rowN, lens_W, Z3x, Z1l, Z17, w_or, w_and, Z39, w_and1, w_shl, w_shl1, w_shr, w_sub1, w_neg, w_add, w_bit, w_eq0, w_eq1, w_eq, Bool.decide_eq_true, Z3o, Z3n, Z3q, Z2s, Z1w, Z05, Z0c, Z0o, Z02, Z1r, rowI, RatG.row, LocG.row, ActG.row, StepG.row, StampG.row, ActG.av, ActG.eta, RatG.eta, LocG.eta, beq_true, beq_false, Z2n, Z2x, Z2q, Z2w, Z14, Z0r, Z12, Z13, Z0q, Z0p, Z0h, List.length_set, List.length_replicate, Z06, Int.reduceToNat, evLen, Z2c, Z40, Src.all, Src.len, Src.leaf, Src.leafN, Z3h, aliveQ, joinV, Z0m, Z0t, Z0u, Z0v, Z0w, Z0x, Z0y, Z0z, mkVec, drows, evMk, List.length_map, Z25, Z28, List.take_length, List.take_left, List.length_append, Nat.le_add_right, ite_self, List.take_of_length_le, Z3m, intOr, intOpd, Option.isSome_none, Option.isSome_some, Nat.sub_zero, loadQ, loadT, evBin, evUn, Z15, Z16, binT, binQ, chk, Z3y, List.contains_cons, List.contains_nil, Bool.or_false, Bool.false_or, Bool.and_self, resQ, resV, resT, pickV, Z2a, evTake, Z3j, fnOf, Z3e, isD, HO.drow, viewT, Z41, evEq, eqV, eqK, eqC1, buildQ, buildT, Z3g, Z3c, lens_I, Z3s, Z2v, Z1z, Z2u, Z1y, Z2t, Z1x, Z20, Z10, Z11, Z0i, List.mem_cons, List.not_mem_nil, or_false, forall_eq, putRow, Z3i, Z23, RetS, RetF, RetD, AV.frz, AV.frzL, AV.freshP, AV.freshL, DV.less, Z2k, Z21, Z2l, Z22, Z0k, Z0a, Option.some.injEq, AV.tup.injEq, AV.agg.injEq, List.cons.injEq, DV.list.injEq, List.isEmpty_nil, Nat.le_refl, AV.d.injEq, DV.int.injEq, DV.bool.injEq, ↓reduceIte, Nat.reduceEqDiff, Nat.reduceAdd, Nat.reduceBEq, List.length_cons, List.length_nil, List.replicate_succ, List.replicate_zero, List.nil_append, List.cons_append, List.append_nil, List.foldl_cons, List.foldl_nil, List.map_cons, List.map_nil, List.all_cons, List.all_nil, List.set_cons_zero, List.set_cons_succ, List.getD_cons_zero, List.getD_cons_succ, List.drop_zero, List.drop_succ_cons, List.take_succ_cons, List.take_zero, List.flatten_cons, List.flatten_nil, Bool.true_and, Bool.and_true, Bool.not_true, Bool.not_false, true_and, and_true, true_or, or_true, Option.bind_some, Option.map_some, decide_true, decide_false, beq_self_eq_true, true_implies, false_implies, implies_true, not_true_eq_false, not_false_eq_true, and_self, Bool.and_false, Bool.false_and, Nat.reduceLT, Nat.reduceLeDiff, List.reverse_cons, List.reverse_nil, Nat.zero_add, Nat.add_zero, Bool.false_eq_true, List.getElem?_cons_zero, Nat.reduceMul, Nat.mul_one, DeedG.row, Z3z, Z3f, Z33, lens_Deed, Z3w, idx_LA, rowLA_len, rowLA_get, idx_LI, rowLI_len, rowLI_get]
  refine ⟨fun e => ⟨⟨by omega, by omega⟩, fun e2 => ?_, fun e2 => ?_⟩, fun e => ?_⟩
  · unfold smallF
    rw [all_at (l := acts) (i := i) (by omega) (decide_eq_false (by omega))]; simp
  · rw [Z43 (n := acts.length) (by omega) h1]
    exact Z1p.mk [] (i + 1) (by simp) (by simp) (by simp only [State.can, AV.can, AV.canL, HO.can, Z0s, idx, Z01, Z00, Heap.at, Nat.reduceBEq, ↓reduceIte, Nat.reduceEqDiff, Option.getD_some, Option.map_some, List.map_cons, List.map_nil, List.getD_cons_zero, List.getD_cons_succ]) ⟨by omega, fun j hj' => by
      by_cases h : j = i
      · rw [h]; omega
      · exact hj j (by omega)⟩ (by omega)
  · have ei : i = acts.length := by omega
    refine Loop.fam [3, 10] (fun i : Nat => ⟨[(3, .d (.list (order.map rowLI) og)), (10, .d (.int .i64 i))], []⟩) (fun i => i ≤ order.length ∧ ∀ j, j < i → (order.getD j default).1.length ≤ 100) (fun i => order.length - i) 0 [] (by simp) (by simp) (by simp only [State.can, AV.can, AV.canL, HO.can, Z0s, idx, Z01, Z00, Heap.at, Nat.reduceBEq, ↓reduceIte, Nat.reduceEqDiff, Option.getD_some, Option.map_some, List.map_cons, List.map_nil, List.getD_cons_zero, List.getD_cons_succ]; rfl) ⟨by omega, by omega⟩ ?_
    rintro k ⟨hk, hq⟩
    simp (maxSteps := 3000000) only [↓Z1g, ↓Z24, ↓Z1s, ↓Z04, ↓Z2p, ↓Z2o, nilG_d, nilG_r, ↓Z1i, ↓Z1a, ↓Z0f, ↓Z1t, ↓Z0d, ↓Z1f, ↓Z34, ↓Z3a, ↓Z26, ↓Z1q, ↓Z2r, ↓Z2h, ↓Z1e, ↓Z3d, ↓retK_n, ↓Z3t, ↓Z3v, ↓Z3u, ↓famK_n, ↓Z42, ↓famK_r, ↓Z0l, ↓Z08, ↓Z1j, ↓Z0e, ↓Z1v, nf_mk, Z07, Z1h, Z2z, Z1b, Z32, evN, Z2d, Z1d, Z31, feet_t, Z1c, Z0n, Z19, Z2y, Z2j, Z2e, Z1o, Z2f, evT, Opd.ev, Z01, Z00, Z30, app_no, Z3l, Z29, Z1u, Z2b, Z2g, Z3r, Z18, Z09, Z3b, LOp.isNew, State.prune, Z3p, Z2m, AV.leaf, Heap.at, Z0g, Z0b, Z1k, Z0j, Z03, idx_I, idx_W, rowW, Z2i, Z35, Z27, Z1m, rowB, Z38, Z36, rowN, lens_W, Z3x, Z1l, Z17, w_or, w_and, Z39, w_and1, w_shl, w_shl1, w_shr, w_sub1, w_neg, w_add, w_bit, w_eq0, w_eq1, w_eq, Bool.decide_eq_true, Z3o, Z3n, Z3q, Z2s, Z1w, Z05, Z0c, Z0o, Z02, Z1r, rowI, RatG.row, LocG.row, ActG.row, StepG.row, StampG.row, ActG.av, ActG.eta, RatG.eta, LocG.eta, beq_true, beq_false, Z2n, Z2x, Z2q, Z2w, Z14, Z0r, Z12, Z13, Z0q, Z0p, Z0h, List.length_set, List.length_replicate, Z06, Int.reduceToNat, evLen, Z2c, Z40, Src.all, Src.len, Src.leaf, Src.leafN, Z3h, aliveQ, joinV, Z0m, Z0t, Z0u, Z0v, Z0w, Z0x, Z0y, Z0z, mkVec, drows, evMk, List.length_map, Z25, Z28, List.take_length, List.take_left, List.length_append, Nat.le_add_right, ite_self, List.take_of_length_le, Z3m, intOr, intOpd, Option.isSome_none, Option.isSome_some, Nat.sub_zero, loadQ, loadT, evBin, evUn, Z15, Z16, binT, binQ, chk, Z3y, List.contains_cons, List.contains_nil, Bool.or_false, Bool.false_or, Bool.and_self, resQ, resV, resT, pickV, Z2a, evTake, Z3j, fnOf, Z3e, isD, HO.drow, viewT, Z41, evEq, eqV, eqK, eqC1, buildQ, buildT, Z3g, Z3c, lens_I, Z3s, Z2v, Z1z, Z2u, Z1y, Z2t, Z1x, Z20, Z10, Z11, Z0i, List.mem_cons, List.not_mem_nil, or_false, forall_eq, putRow, Z3i, Z23, RetS, RetF, RetD, AV.frz, AV.frzL, AV.freshP, AV.freshL, DV.less, Z2k, Z21, Z2l, Z22, Z0k, Z0a, Option.some.injEq, AV.tup.injEq, AV.agg.injEq, List.cons.injEq, DV.list.injEq, List.isEmpty_nil, Nat.le_refl, AV.d.injEq, DV.int.injEq, DV.bool.injEq, ↓reduceIte, Nat.reduceEqDiff, Nat.reduceAdd, Nat.reduceBEq, List.length_cons, List.length_nil, List.replicate_succ, List.replicate_zero, List.nil_append, List.cons_append, List.append_nil, List.foldl_cons, List.foldl_nil, List.map_cons, List.map_nil, List.all_cons, List.all_nil, List.set_cons_zero, List.set_cons_succ, List.getD_cons_zero, List.getD_cons_succ, List.drop_zero, List.drop_succ_cons, List.take_succ_cons, List.take_zero, List.flatten_cons, List.flatten_nil, Bool.true_and, Bool.and_true, Bool.not_true, Bool.not_false, true_and, and_true, true_or, or_true, Option.bind_some, Option.map_some, decide_true, decide_false, beq_self_eq_true, true_implies, false_implies, implies_true, not_true_eq_false, not_false_eq_true, and_self, Bool.and_false, Bool.false_and, Nat.reduceLT, Nat.reduceLeDiff, List.reverse_cons, List.reverse_nil, Nat.zero_add, Nat.add_zero, Bool.false_eq_true, List.getElem?_cons_zero, Nat.reduceMul, Nat.mul_one, DeedG.row, Z3z, Z3f, Z33, lens_Deed, Z3w, idx_LA, rowLA_len, rowLA_get, idx_LI, rowLI_len, rowLI_get]
    refine ⟨fun e => ⟨⟨by omega, by omega⟩, fun e2 => ?_, fun e2 => ?_⟩, fun e => ?_⟩
    · unfold smallF
      rw [all_at (l := order) (i := k) (by omega) (decide_eq_false (by omega))]; simp
    · rw [Z43 (n := order.length) (by omega) h2]
      exact Z1p.mk [] (k + 1) (by simp) (by simp) (by simp only [State.can, AV.can, AV.canL, HO.can, Z0s, idx, Z01, Z00, Heap.at, Nat.reduceBEq, ↓reduceIte, Nat.reduceEqDiff, Option.getD_some, Option.map_some, List.map_cons, List.map_nil, List.getD_cons_zero, List.getD_cons_succ]) ⟨by omega, fun j hj' => by
        by_cases h : j = k
        · rw [h]; omega
        · exact hq j (by omega)⟩ (by omega)
    · unfold smallF
      rw [all_yes (l := acts) (fun j hj' => decide_eq_true (hj j (by omega))), all_yes (l := order) (fun j hj' => decide_eq_true (hq j (by omega)))]
      rw [decide_eq_true (show l.length ≤ 20 by omega), decide_eq_true (show acts.length ≤ 5 by omega), decide_eq_true (show fr.length ≤ 100 by omega), decide_eq_true (show order.length ≤ 20 by omega)]; rfl
/-! ### awake -/
def awl : List LocG := [⟨false, 0⟩]
def awacts : List (List ActG × Bool) := [([⟨2, 0, 0, 1⟩], false), ([⟨1, 0, 1, 0⟩, ⟨1, 0, 0, 0⟩], false)]
def awfr : List Int := [1, 0]
def aword : List (List Int × Bool) := [([1], false)]
def awD : List DeedG := [⟨-1, ⟨2, 0, 0, 0⟩⟩, ⟨0, ⟨2, 0, 0, 1⟩⟩, ⟨1, ⟨1, 0, 1, 0⟩⟩, ⟨1, ⟨1, 0, 0, 0⟩⟩]
def awX : WG := ⟨awl, false, awD, false, [8#64, 4#64, 0#64, 0#64], false, [2#64, 0#64, 0#64, 0#64], false⟩
theorem aw_sort : sortI [1] = [1] := by unfold sortI; simp
theorem aw_deeds : deedsG awl awacts = (awD, 0) := by decide +kernel
theorem aw_rd : rdG awD awfr 4 = some ([], [⟨1, 2⟩, ⟨0, 3⟩]) := by decide +kernel
theorem aw_co : coG awD 1 aword 1 = some [⟨0, 1⟩] := by
  unfold coG
  have h : coG awD 1 aword 0 = some [] := rfl
  rw [h]
  have h2 : (aword.getD 0 default).1 = [1] := rfl
  simp only [h2, aw_sort]
  rw [if_pos (by decide +kernel)]
  decide +kernel
theorem aw_rf : ofG 4 [⟨1, 2⟩, ⟨0, 3⟩] = [8#64, 4#64, 0#64, 0#64] := by decide +kernel
theorem aw_co2 : ofG 4 [⟨0, 1⟩] = [2#64, 0#64, 0#64, 0#64] := by decide +kernel
theorem aw_build : buildG awl awacts awfr aword = (awX, 0) := by
  unfold buildG
  rw [aw_deeds]
  simp only [show awD.length = 4 from rfl, aw_rd, show awl.length = 1 from rfl, show aword.length = 1 from rfl, aw_co]
  simp only [ne_eq, not_true, if_false, or_self]
  rw [show ((4 : Nat) : Int) = 4 from rfl, aw_rf, aw_co2]; rfl
theorem aw_ok : awX.Ok := ⟨by decide, ⟨by decide +kernel⟩, ⟨by decide +kernel⟩⟩
theorem aw_chk : chkW awX = 0 := by decide +kernel
theorem aw_fr : hasI (frW awX) 3 1 = true := by decide +kernel
theorem aw_ord : hasI (ordW awX) 2 3 = true := by decide +kernel
theorem aw_small : smallB awl awacts awfr aword := by
  refine ⟨⟨by decide, by decide, by decide⟩, by decide, by decide, by decide⟩
theorem aw_at : sp_Build.at [.d (.list [[.bool false, .int .i64 0]] false), .d (.list [[.list [[.int .i64 2, .int .i64 0, .int .i64 0, .int .i64 1]] false], [.list [[.int .i64 1, .int .i64 0, .int .i64 1, .int .i64 0], [.int .i64 1, .int .i64 0, .int .i64 0, .int .i64 0]] false]] false),
    .d (.list [[.int .i64 1], [.int .i64 0]] false), .d (.list [[.list [[.int .i64 1]] false]] false)] =
    .data True (.tup [.agg [.d (.list (awX.locs.map LocG.row) awX.lf), .d (.list (awX.deeds.map DeedG.row) awX.df), .d (.list (awX.rf.map rowW) awX.rff), .d (.list (awX.co.map rowW) awX.cof)], .d (.int .i64 0)]) false := by
  have h := at_Build awl false awacts false awfr false aword false
  rw [aw_build, show smallB awl awacts awfr aword = True from eq_true aw_small] at h
  exact h
theorem at_chkWX (x : WG) : sp_chkW.at [.agg [.d (.list (x.locs.map LocG.row) x.lf), .d (.list (x.deeds.map DeedG.row) x.df), .d (.list (x.rf.map rowW) x.rff), .d (.list (x.co.map rowW) x.cof)]] = .data x.Ok (.d (.int .i64 (chkW x))) true := at_chkW x
theorem aw_dl : awX.deeds.length = 4 := rfl
theorem body_law23_awake {T : Tab} {n1 n2 n3 n4 n5 : Nat} (k1 : Knows T n1 sp_Build) (k2 : Knows T n2 sp_chkW) (k3 : Knows T n3 sp_orderW) (k4 : Knows T n4 sp_frW) (k5 : Knows T n5 sp_Has) : sp_true.Body T V_law23_awake (L_law23_awake n1 n2 n3 n4 n5) R_law23_awake := by
  have F1 := k1.F; have G1 := k1.G; have F2 := k2.F; have G2 := k2.G; have F3 := k3.F; have G3 := k3.G; have F4 := k4.F; have G4 := k4.G; have F5 := k5.F; have G5 := k5.G
  rintro x -
  refine .inl ⟨rfl, ?_⟩
  unfold V_law23_awake L_law23_awake R_law23_awake
  simp (maxSteps := 3000000) only [↓Z1g, ↓Z24, ↓Z1s, ↓Z04, ↓Z2p, ↓Z2o, nilG_d, nilG_r, ↓Z1i, ↓Z1a, ↓Z0f, ↓Z1t, ↓Z0d, ↓Z1f, ↓Z34, ↓Z3a, ↓Z26, ↓Z1q, ↓Z2r, ↓Z2h, ↓Z1e, ↓Z3d, ↓retK_n, ↓Z3t, ↓Z3v, ↓Z3u, ↓famK_n, ↓Z42, ↓famK_r, ↓Z0l, ↓Z08, ↓Z1j, ↓Z0e, ↓Z1v, nf_mk, Z07, Z1h, Z2z, Z1b, Z32, evN, Z2d, Z1d, Z31, feet_t, Z1c, Z0n, Z19, Z2y, Z2j, Z2e, Z1o, Z2f, evT, Opd.ev, Z01, Z00, Z30, app_no, Z3l, Z29, Z1u, Z2b, Z2g, Z3r, Z18, Z09, Z3b, LOp.isNew, State.prune, Z3p, Z2m, AV.leaf, Heap.at, Z0g, Z0b, Z1k, Z0j, Z03, idx_I, idx_W, rowW, Z2i, Z35, Z27, Z1m, rowB, Z38, Z36, rowN, lens_W, Z3x, Z1l, Z17, w_or, w_and, Z39, w_and1, w_shl, w_shl1, w_shr, w_sub1, w_neg, w_add, w_bit, w_eq0, w_eq1, w_eq, Bool.decide_eq_true, Z3o, Z3n, Z3q, Z2s, Z1w, Z05, Z0c, Z0o, Z02, Z1r, rowI, RatG.row, LocG.row, ActG.row, StepG.row, StampG.row, ActG.av, ActG.eta, RatG.eta, LocG.eta, beq_true, beq_false, Z2n, Z2x, Z2q, Z2w, Z14, Z0r, Z12, Z13, Z0q, Z0p, Z0h, List.length_set, List.length_replicate, Z06, Int.reduceToNat, evLen, Z2c, Z40, Src.all, Src.len, Src.leaf, Src.leafN, Z3h, aliveQ, joinV, Z0m, Z0t, Z0u, Z0v, Z0w, Z0x, Z0y, Z0z, mkVec, drows, evMk, List.length_map, Z25, Z28, List.take_length, List.take_left, List.length_append, Nat.le_add_right, ite_self, List.take_of_length_le, Z3m, intOr, intOpd, Option.isSome_none, Option.isSome_some, Nat.sub_zero, loadQ, loadT, evBin, evUn, Z15, Z16, binT, binQ, chk, Z3y, List.contains_cons, List.contains_nil, Bool.or_false, Bool.false_or, Bool.and_self, resQ, resV, resT, pickV, Z2a, evTake, Z3j, fnOf, Z3e, isD, HO.drow, viewT, Z41, evEq, eqV, eqK, eqC1, buildQ, buildT, Z3g, Z3c, lens_I, Z3s, Z2v, Z1z, Z2u, Z1y, Z2t, Z1x, Z20, Z10, Z11, Z0i, List.mem_cons, List.not_mem_nil, or_false, forall_eq, putRow, Z3i, Z23, RetS, RetF, RetD, AV.frz, AV.frzL, AV.freshP, AV.freshL, DV.less, Z2k, Z21, Z2l, Z22, Z0k, Z0a, Option.some.injEq, AV.tup.injEq, AV.agg.injEq, List.cons.injEq, DV.list.injEq, List.isEmpty_nil, Nat.le_refl, AV.d.injEq, DV.int.injEq, DV.bool.injEq, ↓reduceIte, Nat.reduceEqDiff, Nat.reduceAdd, Nat.reduceBEq, List.length_cons, List.length_nil, List.replicate_succ, List.replicate_zero, List.nil_append, List.cons_append, List.append_nil, List.foldl_cons, List.foldl_nil, List.map_cons, List.map_nil, List.all_cons, List.all_nil, List.set_cons_zero, List.set_cons_succ, List.getD_cons_zero, List.getD_cons_succ, List.drop_zero, List.drop_succ_cons, List.take_succ_cons, List.take_zero, List.flatten_cons, List.flatten_nil, Bool.true_and, Bool.and_true, Bool.not_true, Bool.not_false, true_and, and_true, true_or, or_true, Option.bind_some, Option.map_some, decide_true, decide_false, beq_self_eq_true, true_implies, false_implies, implies_true, not_true_eq_false, not_false_eq_true, and_self, Bool.and_false, Bool.false_and, Nat.reduceLT, Nat.reduceLeDiff, List.reverse_cons, List.reverse_nil, Nat.zero_add, Nat.add_zero, Bool.false_eq_true, List.getElem?_cons_zero, Nat.reduceMul, Nat.mul_one, DeedG.row, Z3z, Z3f, Z33, lens_Deed, Z3w, idx_LA, rowLA_len, rowLA_get, idx_LI, rowLI_len, rowLI_get, Option.bind_none, Option.bind_some, vrowsT, vcellsT, vcellT, List.take_succ_cons, List.take_zero, List.drop_zero, aw_at, at_chkWX, at_orderWX, at_frWX, at_Has, aw_ok, aw_chk, aw_fr, aw_ord, aw_dl, sp_true, F1, G1, F2, G2, F3, G3, F4, G4, F5, G5]
  have e1 : (frW awX).length = 4 := by unfold frW; rw [mkR_len]; rfl
  have e2 : (ordW awX).length = 4 := by unfold ordW plusG; rw [mkR_len]; rfl
  exact ⟨⟨by omega, by omega, roomy_of (by omega) (by omega)⟩, fun _ => ⟨by rw [e1]; decide, by rw [e2]; decide⟩, fun h => h rfl⟩
end Go.Ago

/- The law AxiomTurns. Conditions: none. -/
set_option maxRecDepth 100000
set_option linter.unusedSimpArgs false
set_option linter.unusedVariables false
namespace Go.Ago
attribute [local irreducible] vck
abbrev shLA : Sh := .sl shAct
abbrev shLI : Sh := .sl (.int .i64)
theorem has_LA {r : List DV} (h : shLA.has r) : ∃ x : List ActG × Bool, r = rowLA x ∧ (x.1.length ≤ maxLen ∧ ∀ a ∈ x.1, a.inn) := by
  obtain ⟨l, f, rfl, h1, hl⟩ := has_list (f := ActG.row) (ok := ActG.inn) (fun _ h => has_act h) h
  exact ⟨(l, f), rfl, hl, h1⟩
theorem has_LI {r : List DV} (h : shLI.has r) : ∃ x : List Int × Bool, r = rowLI x ∧ (x.1.length ≤ maxLen ∧ ∀ a ∈ x.1, inI a) := by
  obtain ⟨l, f, rfl, h1, hl⟩ := has_list (f := rowI) (ok := inI) (fun _ h => has_i64 h) h
  exact ⟨(l, f), rfl, hl, h1⟩
def tHv (x : WG) : HO := .vec 4 [[.d (.list (x.locs.map LocG.row) x.lf), .d (.list (x.deeds.map DeedG.row) x.df), .d (.list (x.rf.map rowW) x.rff), .d (.list (x.co.map rowW) x.cof)]]
def tSt1 (x : WG) (i : Nat) : State := ⟨[(9, .ptr 0 4 0 0), (11, .d (.int .i64 x.deeds.length)), (12, .d (.int .i64 i))], [tHv x]⟩
def tSt2 (x : WG) (i k : Nat) : State := ⟨[(9, .ptr 0 4 0 0), (11, .d (.int .i64 x.deeds.length)), (12, .d (.int .i64 i)), (13, .d (.int .i64 k))], [tHv x]⟩
def tSt3 (x : WG) (i k j : Nat) : State := ⟨[(9, .ptr 0 4 0 0), (11, .d (.int .i64 x.deeds.length)), (12, .d (.int .i64 i)), (13, .d (.int .i64 k)), (14, .d (.int .i64 j))], [tHv x]⟩
set_option maxHeartbeats 4000000 in
theorem law_AxiomTurns {T : Tab} {n1 n2 n3 n4 n5 : Nat} (k1 : Knows T n1 sp_true) (k2 : Knows T n2 sp_small) (k3 : Knows T n3 sp_Build) (k4 : Knows T n4 sp_chkW) (k5 : Knows T n5 sp_Has) (l : List LocG) (f : Bool) (acts : List (List ActG × Bool)) (g : Bool) (fr : List Int) (ff : Bool) (order : List (List Int × Bool)) (og : Bool)
    (hl : l.length ≤ maxLen) (ha : acts.length ≤ maxLen) (ha2 : ∀ x ∈ acts, x.1.length ≤ maxLen) (hf : fr.length ≤ maxLen) (ho : order.length ≤ maxLen) (ho2 : ∀ x ∈ order, x.1.length ≤ maxLen) :
    Holds T V_law23_AxiomTurns (L_law23_AxiomTurns n1 n2 n3 n4 n5) R_law23_AxiomTurns [.d (.list (l.map LocG.row) f), .d (.list (acts.map rowLA) g), .d (.list (fr.map rowI) ff), .d (.list (order.map rowLI) og)] := by
  have F1 := k1.F; have G1 := k1.G; have F2 := k2.F; have G2 := k2.G; have F3 := k3.F; have G3 := k3.G; have F4 := k4.F; have G4 := k4.G; have F5 := k5.F; have G5 := k5.G
  unfold V_law23_AxiomTurns L_law23_AxiomTurns R_law23_AxiomTurns
  simp (maxSteps := 3000000) only [↓Z1g, ↓Z24, ↓Z1s, ↓Z04, ↓Z2p, ↓Z2o, nilG_d, nilG_r, ↓Z1i, ↓Z1a, ↓Z0f, ↓Z1t, ↓Z0d, ↓Z1f, ↓Z34, ↓Z3a, ↓Z26, ↓Z1q, ↓Z2r, ↓Z2h, ↓Z1e, ↓Z3d, ↓retK_n, ↓Z3t, ↓Z3v, ↓Z3u, ↓famK_n, ↓Z42, ↓famK_r, ↓Z0l, ↓Z08, ↓Z1j, ↓Z0e, ↓Z1v, nf_mk, Z07, Z1h, Z2z, Z1b, Z32, evN, Z2d, Z1d, Z31, feet_t, Z1c, Z0n, Z19, Z2y, Z2j, Z2e, Z1o, Z2f, evT, Opd.ev, Z01, Z00, Z30, app_no, Z3l, Z29, Z1u, Z2b, Z2g, Z3r, Z18, Z09, Z3b, LOp.isNew, State.prune, Z3p, Z2m, AV.leaf, Heap.at, Z0g, Z0b, Z1k, Z0j, Z03, idx_I, idx_W, rowW, Z2i, Z35, Z27, Z1m, rowB, Z38, Z36, rowN, lens_W, Z3x, Z1l, Z17, w_or, w_and, Z39, w_and1, w_shl, w_shl1, w_shr, w_sub1, w_neg, w_add, w_bit, w_eq0, w_eq1, w_eq, Bool.decide_eq_true, Z3o, Z3n, Z3q, Z2s, Z1w, Z05, Z0c, Z0o, Z02, Z1r, rowI, RatG.row, LocG.row, ActG.row, StepG.row, StampG.row, ActG.av, ActG.eta, RatG.eta, LocG.eta, beq_true, beq_false, Z2n, Z2x, Z2q, Z2w, Z14, Z0r, Z12, Z13, Z0q, Z0p, Z0h, List.length_set, List.length_replicate, Z06, Int.reduceToNat, evLen, Z2c, Z40, Src.all, Src.len, Src.leaf, Src.leafN, Z3h, aliveQ, joinV, Z0m, Z0t, Z0u, Z0v, Z0w, Z0x, Z0y, Z0z, mkVec, drows, evMk, List.length_map, Z25, Z28, List.take_length, List.take_left, List.length_append, Nat.le_add_right, ite_self, List.take_of_length_le, Z3m, intOr, intOpd, Option.isSome_none, Option.isSome_some, Nat.sub_zero, loadQ, loadT, evBin, evUn, Z15, Z16, binT, binQ, chk, Z3y, List.contains_cons, List.contains_nil, Bool.or_false, Bool.false_or, Bool.and_self, resQ, resV, resT, pickV, Z2a, evTake, Z3j, fnOf, Z3e, isD, HO.drow, viewT, Z41, evEq, eqV, eqK, eqC1, buildQ, buildT, Z3g, Z3c, lens_I, Z3s, Z2v, Z1z, Z2u, Z1y, Z2t, Z1x, Z20, Z10, Z11, Z0i, List.mem_cons, List.not_mem_nil, or_false, forall_eq, putRow, Z3i, Z23, RetS, RetF, RetD, AV.frz, AV.frzL, AV.freshP, AV.freshL, DV.less, Z2k, Z21, Z2l, Z22, Z0k, Z0a, Option.some.injEq, AV.tup.injEq, AV.agg.injEq, List.cons.injEq, DV.list.injEq, List.isEmpty_nil, Nat.le_refl, AV.d.injEq, DV.int.injEq, DV.bool.injEq, ↓reduceIte, Nat.reduceEqDiff, Nat.reduceAdd, Nat.reduceBEq, List.length_cons, List.length_nil, List.replicate_succ, List.replicate_zero, List.nil_append, List.cons_append, List.append_nil, List.foldl_cons, List.foldl_nil, List.map_cons, List.map_nil, List.all_cons, List.all_nil, List.set_cons_zero, List.set_cons_succ, List.getD_cons_zero, List.getD_cons_succ, List.drop_zero, List.drop_succ_cons, List.take_succ_cons, List.take_zero, List.flatten_cons, List.flatten_nil, Bool.true_and, Bool.and_true, Bool.not_true, Bool.not_false, true_and, and_true, true_or, or_true, Option.bind_some, Option.map_some, decide_true, decide_false, beq_self_eq_true, true_implies, false_implies, implies_true, not_true_eq_false, not_false_eq_true, and_self, Bool.and_false, Bool.false_and, Nat.reduceLT, Nat.reduceLeDiff, List.reverse_cons, List.reverse_nil, Nat.zero_add, Nat.add_zero, Bool.false_eq_true, List.getElem?_cons_zero, Nat.reduceMul, Nat.mul_one, at_true, DeedG.row, Z3z, at_small, at_Build, at_chkW, at_chkWX, WG.av, at_Has, F1, G1, F2, G2, F3, G3, F4, G4, F5, G5]
  refine ⟨⟨ha, ho⟩, fun hs => ⟨smallF_iff.1 hs, fun he => ?_⟩, fun _ => trivial⟩
  have B := built_of he
  rw [he]
  clear he
  generalize (buildG l acts fr order).1 = x at *
  refine ⟨B.ok, fun hc => ?_⟩
  have hn := B.le
  refine Loop.fam [9, 11, 12] (tSt1 x) (fun i => i ≤ x.deeds.length) (fun i => x.deeds.length - i) 0 [0] (by simp) (by simp) (by simp only [State.can, AV.can, AV.canL, HO.can, Z0s, idx, Z01, Z00, Heap.at, Nat.reduceBEq, ↓reduceIte, Nat.reduceEqDiff, Option.getD_some, Option.map_some, List.map_cons, List.map_nil, List.getD_cons_zero, List.getD_cons_succ, tSt1, tHv]; rfl) (by omega) ?_
  intro i hi
  have hi : i ≤ x.deeds.length := hi
  simp (maxSteps := 3000000) only [↓Z1g, ↓Z24, ↓Z1s, ↓Z04, ↓Z2p, ↓Z2o, nilG_d, nilG_r, ↓Z1i, ↓Z1a, ↓Z0f, ↓Z1t, ↓Z0d, ↓Z1f, ↓Z34, ↓Z3a, ↓Z26, ↓Z1q, ↓Z2r, ↓Z2h, ↓Z1e, ↓Z3d, ↓retK_n, ↓Z3t, ↓Z3v, ↓Z3u, ↓famK_n, ↓Z42, ↓famK_r, ↓Z0l, ↓Z08, ↓Z1j, ↓Z0e, ↓Z1v, nf_mk, Z07, Z1h, Z2z, Z1b, Z32, evN, Z2d, Z1d, Z31, feet_t, Z1c, Z0n, Z19, Z2y, Z2j, Z2e, Z1o, Z2f, evT, Opd.ev, Z01, Z00, Z30, app_no, Z3l, Z29, Z1u, Z2b, Z2g, Z3r, Z18, Z09, Z3b, LOp.isNew, State.prune, Z3p, Z2m, AV.leaf, Heap.at, Z0g, Z0b, Z1k, Z0j, Z03, idx_I, idx_W, rowW, Z2i, Z35, Z27, Z1m, rowB, Z38, Z36, rowN, lens_W, Z3x, Z1l, Z17, w_or, w_and, Z39, w_and1, w_shl, w_shl1, w_shr, w_sub1, w_neg, w_add, w_bit, w_eq0, w_eq1, w_eq, Bool.decide_eq_true, Z3o, Z3n, Z3q, Z2s, Z1w, Z05, Z0c, Z0o, Z02, Z1r, rowI, RatG.row, LocG.row, ActG.row, StepG.row, StampG.row, ActG.av, ActG.eta, RatG.eta, LocG.eta, beq_true, beq_false, Z2n, Z2x, Z2q, Z2w, Z14, Z0r, Z12, Z13, Z0q, Z0p, Z0h, List.length_set, List.length_replicate, Z06, Int.reduceToNat, evLen, Z2c, Z40, Src.all, Src.len, Src.leaf, Src.leafN, Z3h, aliveQ, joinV, Z0m, Z0t, Z0u, Z0v, Z0w, Z0x, Z0y, Z0z, mkVec, drows, evMk, List.length_map, Z25, Z28, List.take_length, List.take_left, List.length_append, Nat.le_add_right, ite_self, List.take_of_length_le, Z3m, intOr, intOpd, Option.isSome_none, Option.isSome_some, Nat.sub_zero, loadQ, loadT, evBin, evUn, Z15, Z16, binT, binQ, chk, Z3y, List.contains_cons, List.contains_nil, Bool.or_false, Bool.false_or, Bool.and_self, resQ, resV, resT, pickV, Z2a, evTake, Z3j, fnOf, Z3e, isD, HO.drow, viewT, Z41, evEq, eqV, eqK, eqC1, buildQ, buildT, Z3g, Z3c, lens_I, Z3s, Z2v, Z1z, Z2u, Z1y, Z2t, Z1x, Z20, Z10, Z11, Z0i, List.mem_cons, List.not_mem_nil, or_false, forall_eq, putRow, Z3i, Z23, RetS, RetF, RetD, AV.frz, AV.frzL, AV.freshP, AV.freshL, DV.less, Z2k, Z21, Z2l, Z22, Z0k, Z0a, Option.some.injEq, AV.tup.injEq, AV.agg.injEq, List.cons.injEq, DV.list.injEq, List.isEmpty_nil, Nat.le_refl, AV.d.injEq, DV.int.injEq, DV.bool.injEq, ↓reduceIte, Nat.reduceEqDiff, Nat.reduceAdd, Nat.reduceBEq, List.length_cons, List.length_nil, List.replicate_succ, List.replicate_zero, List.nil_append, List.cons_append, List.append_nil, List.foldl_cons, List.foldl_nil, List.map_cons, List.map_nil, List.all_cons, List.all_nil, List.set_cons_zero, List.set_cons_succ, List.getD_cons_zero, List.getD_cons_succ, List.drop_zero, List.drop_succ_cons, List.take_succ_cons, List.take_zero, List.flatten_cons, List.flatten_nil, Bool.true_and, Bool.and_true, Bool.not_true, Bool.not_false, true_and, and_true, true_or, or_true, Option.bind_some, Option.map_some, decide_true, decide_false, beq_self_eq_true, true_implies, false_implies, implies_true, not_true_eq_false, not_false_eq_true, and_self, Bool.and_false, Bool.false_and, Nat.reduceLT, Nat.reduceLeDiff, List.reverse_cons, List.reverse_nil, Nat.zero_add, Nat.add_zero, Bool.false_eq_true, List.getElem?_cons_zero, Nat.reduceMul, Nat.mul_one, DeedG.row, Z3z, tSt1, tHv]
  intro e
  refine ⟨⟨by omega, by omega⟩, fun hT => ?_, fun hT => ?_⟩
  · refine Loop.fam [9, 11, 12, 13] (tSt2 x i) (fun k => k ≤ x.deeds.length) (fun k => x.deeds.length - k) 0 [0] (by simp) (by simp) (by simp only [State.can, AV.can, AV.canL, HO.can, Z0s, idx, Z01, Z00, Heap.at, Nat.reduceBEq, ↓reduceIte, Nat.reduceEqDiff, Option.getD_some, Option.map_some, List.map_cons, List.map_nil, List.getD_cons_zero, List.getD_cons_succ, tSt2, tHv]; rfl) (by omega) ?_
    intro k hk
    have hk : k ≤ x.deeds.length := hk
    simp (maxSteps := 3000000) only [↓Z1g, ↓Z24, ↓Z1s, ↓Z04, ↓Z2p, ↓Z2o, nilG_d, nilG_r, ↓Z1i, ↓Z1a, ↓Z0f, ↓Z1t, ↓Z0d, ↓Z1f, ↓Z34, ↓Z3a, ↓Z26, ↓Z1q, ↓Z2r, ↓Z2h, ↓Z1e, ↓Z3d, ↓retK_n, ↓Z3t, ↓Z3v, ↓Z3u, ↓famK_n, ↓Z42, ↓famK_r, ↓Z0l, ↓Z08, ↓Z1j, ↓Z0e, ↓Z1v, nf_mk, Z07, Z1h, Z2z, Z1b, Z32, evN, Z2d, Z1d, Z31, feet_t, Z1c, Z0n, Z19, Z2y, Z2j, Z2e, Z1o, Z2f, evT, Opd.ev, Z01, Z00, Z30, app_no, Z3l, Z29, Z1u, Z2b, Z2g, Z3r, Z18, Z09, Z3b, LOp.isNew, State.prune, Z3p, Z2m, AV.leaf, Heap.at, Z0g, Z0b, Z1k, Z0j, Z03, idx_I, idx_W, rowW, Z2i, Z35, Z27, Z1m, rowB, Z38, Z36, rowN, lens_W, Z3x, Z1l, Z17, w_or, w_and, Z39, w_and1, w_shl, w_shl1, w_shr, w_sub1, w_neg, w_add, w_bit, w_eq0, w_eq1, w_eq, Bool.decide_eq_true, Z3o, Z3n, Z3q, Z2s, Z1w, Z05, Z0c, Z0o, Z02, Z1r, rowI, RatG.row, LocG.row, ActG.row, StepG.row, StampG.row, ActG.av, ActG.eta, RatG.eta, LocG.eta, beq_true, beq_false, Z2n, Z2x, Z2q, Z2w, Z14, Z0r, Z12, Z13, Z0q, Z0p, Z0h, List.length_set, List.length_replicate, Z06, Int.reduceToNat, evLen, Z2c, Z40, Src.all, Src.len, Src.leaf, Src.leafN, Z3h, aliveQ, joinV, Z0m, Z0t, Z0u, Z0v, Z0w, Z0x, Z0y, Z0z, mkVec, drows, evMk, List.length_map, Z25, Z28, List.take_length, List.take_left, List.length_append, Nat.le_add_right, ite_self, List.take_of_length_le, Z3m, intOr, intOpd, Option.isSome_none, Option.isSome_some, Nat.sub_zero, loadQ, loadT, evBin, evUn, Z15, Z16, binT, binQ, chk, Z3y, List.contains_cons, List.contains_nil, Bool.or_false, Bool.false_or, Bool.and_self, resQ, resV, resT, pickV, Z2a, evTake, Z3j, fnOf, Z3e, isD, HO.drow, viewT, Z41, evEq, eqV, eqK, eqC1, buildQ, buildT, Z3g, Z3c, lens_I, Z3s, Z2v, Z1z, Z2u, Z1y, Z2t, Z1x, Z20, Z10, Z11, Z0i, List.mem_cons, List.not_mem_nil, or_false, forall_eq, putRow, Z3i, Z23, RetS, RetF, RetD, AV.frz, AV.frzL, AV.freshP, AV.freshL, DV.less, Z2k, Z21, Z2l, Z22, Z0k, Z0a, Option.some.injEq, AV.tup.injEq, AV.agg.injEq, List.cons.injEq, DV.list.injEq, List.isEmpty_nil, Nat.le_refl, AV.d.injEq, DV.int.injEq, DV.bool.injEq, ↓reduceIte, Nat.reduceEqDiff, Nat.reduceAdd, Nat.reduceBEq, List.length_cons, List.length_nil, List.replicate_succ, List.replicate_zero, List.nil_append, List.cons_append, List.append_nil, List.foldl_cons, List.foldl_nil, List.map_cons, List.map_nil, List.all_cons, List.all_nil, List.set_cons_zero, List.set_cons_succ, List.getD_cons_zero, List.getD_cons_succ, List.drop_zero, List.drop_succ_cons, List.take_succ_cons, List.take_zero, List.flatten_cons, List.flatten_nil, Bool.true_and, Bool.and_true, Bool.not_true, Bool.not_false, true_and, and_true, true_or, or_true, Option.bind_some, Option.map_some, decide_true, decide_false, beq_self_eq_true, true_implies, false_implies, implies_true, not_true_eq_false, not_false_eq_true, and_self, Bool.and_false, Bool.false_and, Nat.reduceLT, Nat.reduceLeDiff, List.reverse_cons, List.reverse_nil, Nat.zero_add, Nat.add_zero, Bool.false_eq_true, List.getElem?_cons_zero, Nat.reduceMul, Nat.mul_one, DeedG.row, Z3z, tSt2, tHv, F5, G5, at_Has]
    have hrl : x.rf.length ≤ maxLen := by rw [B.ok.rf.len]; unfold maxLen; omega
    have hcl : x.co.length ≤ maxLen := by rw [B.ok.co.len]; unfold maxLen; omega
    refine ⟨fun d => ⟨hrl, fun hr => ⟨hcl, fun hco => ?_, fun hco => ?_⟩, fun hr => ?_⟩, fun d => ?_⟩
    · refine Loop.fam [9, 11, 12, 13, 14] (tSt3 x i k) (fun j => j ≤ x.deeds.length) (fun j => x.deeds.length - j) 0 [0] (by simp) (by simp) (by simp only [State.can, AV.can, AV.canL, HO.can, Z0s, idx, Z01, Z00, Heap.at, Nat.reduceBEq, ↓reduceIte, Nat.reduceEqDiff, Option.getD_some, Option.map_some, List.map_cons, List.map_nil, List.getD_cons_zero, List.getD_cons_succ, tSt3, tHv]; rfl) (by omega) ?_
      intro j hj
      have hj : j ≤ x.deeds.length := hj
      simp (maxSteps := 3000000) only [↓Z1g, ↓Z24, ↓Z1s, ↓Z04, ↓Z2p, ↓Z2o, nilG_d, nilG_r, ↓Z1i, ↓Z1a, ↓Z0f, ↓Z1t, ↓Z0d, ↓Z1f, ↓Z34, ↓Z3a, ↓Z26, ↓Z1q, ↓Z2r, ↓Z2h, ↓Z1e, ↓Z3d, ↓retK_n, ↓Z3t, ↓Z3v, ↓Z3u, ↓famK_n, ↓Z42, ↓famK_r, ↓Z0l, ↓Z08, ↓Z1j, ↓Z0e, ↓Z1v, nf_mk, Z07, Z1h, Z2z, Z1b, Z32, evN, Z2d, Z1d, Z31, feet_t, Z1c, Z0n, Z19, Z2y, Z2j, Z2e, Z1o, Z2f, evT, Opd.ev, Z01, Z00, Z30, app_no, Z3l, Z29, Z1u, Z2b, Z2g, Z3r, Z18, Z09, Z3b, LOp.isNew, State.prune, Z3p, Z2m, AV.leaf, Heap.at, Z0g, Z0b, Z1k, Z0j, Z03, idx_I, idx_W, rowW, Z2i, Z35, Z27, Z1m, rowB, Z38, Z36, rowN, lens_W, Z3x, Z1l, Z17, w_or, w_and, Z39, w_and1, w_shl, w_shl1, w_shr, w_sub1, w_neg, w_add, w_bit, w_eq0, w_eq1, w_eq, Bool.decide_eq_true, Z3o, Z3n, Z3q, Z2s, Z1w, Z05, Z0c, Z0o, Z02, Z1r, rowI, RatG.row, LocG.row, ActG.row, StepG.row, StampG.row, ActG.av, ActG.eta, RatG.eta, LocG.eta, beq_true, beq_false, Z2n, Z2x, Z2q, Z2w, Z14, Z0r, Z12, Z13, Z0q, Z0p, Z0h, List.length_set, List.length_replicate, Z06, Int.reduceToNat, evLen, Z2c, Z40, Src.all, Src.len, Src.leaf, Src.leafN, Z3h, aliveQ, joinV, Z0m, Z0t, Z0u, Z0v, Z0w, Z0x, Z0y, Z0z, mkVec, drows, evMk, List.length_map, Z25, Z28, List.take_length, List.take_left, List.length_append, Nat.le_add_right, ite_self, List.take_of_length_le, Z3m, intOr, intOpd, Option.isSome_none, Option.isSome_some, Nat.sub_zero, loadQ, loadT, evBin, evUn, Z15, Z16, binT, binQ, chk, Z3y, List.contains_cons, List.contains_nil, Bool.or_false, Bool.false_or, Bool.and_self, resQ, resV, resT, pickV, Z2a, evTake, Z3j, fnOf, Z3e, isD, HO.drow, viewT, Z41, evEq, eqV, eqK, eqC1, buildQ, buildT, Z3g, Z3c, lens_I, Z3s, Z2v, Z1z, Z2u, Z1y, Z2t, Z1x, Z20, Z10, Z11, Z0i, List.mem_cons, List.not_mem_nil, or_false, forall_eq, putRow, Z3i, Z23, RetS, RetF, RetD, AV.frz, AV.frzL, AV.freshP, AV.freshL, DV.less, Z2k, Z21, Z2l, Z22, Z0k, Z0a, Option.some.injEq, AV.tup.injEq, AV.agg.injEq, List.cons.injEq, DV.list.injEq, List.isEmpty_nil, Nat.le_refl, AV.d.injEq, DV.int.injEq, DV.bool.injEq, ↓reduceIte, Nat.reduceEqDiff, Nat.reduceAdd, Nat.reduceBEq, List.length_cons, List.length_nil, List.replicate_succ, List.replicate_zero, List.nil_append, List.cons_append, List.append_nil, List.foldl_cons, List.foldl_nil, List.map_cons, List.map_nil, List.all_cons, List.all_nil, List.set_cons_zero, List.set_cons_succ, List.getD_cons_zero, List.getD_cons_succ, List.drop_zero, List.drop_succ_cons, List.take_succ_cons, List.take_zero, List.flatten_cons, List.flatten_nil, Bool.true_and, Bool.and_true, Bool.not_true, Bool.not_false, true_and, and_true, true_or, or_true, Option.bind_some, Option.map_some, decide_true, decide_false, beq_self_eq_true, true_implies, false_implies, implies_true, not_true_eq_false, not_false_eq_true, and_self, Bool.and_false, Bool.false_and, Nat.reduceLT, Nat.reduceLeDiff, List.reverse_cons, List.reverse_nil, Nat.zero_add, Nat.add_zero, Bool.false_eq_true, List.getElem?_cons_zero, Nat.reduceMul, Nat.mul_one, DeedG.row, Z3z, tSt3, tHv, F5, G5, at_Has]
      rw [hasI_nat] at hr hco
      refine ⟨fun d2 => ⟨hcl, fun h1 => ⟨hcl, fun h2 => ?_, fun h2 => ⟨fun e1 => by rw [Z43 (n := x.deeds.length) (by omega) (by unfold maxLen; omega)]; exact Z1p.mk [0] (j + 1) (by simp) (by simp) (by simp only [State.can, AV.can, AV.canL, HO.can, Z0s, idx, Z01, Z00, Heap.at, Nat.reduceBEq, ↓reduceIte, Nat.reduceEqDiff, Option.getD_some, Option.map_some, List.map_cons, List.map_nil, List.getD_cons_zero, List.getD_cons_succ, tSt3, tHv]) (by omega) (by omega), fun e1 => ⟨⟨by omega, by omega⟩, fun hk5 => ⟨hrl, fun h3 => by rw [hasI_nat] at h3; exact turn_two B hc hT hr (by omega) hk5 h3, fun h3 => by rw [Z43 (n := x.deeds.length) (by omega) (by unfold maxLen; omega)]; exact Z1p.mk [0] (j + 1) (by simp) (by simp) (by simp only [State.can, AV.can, AV.canL, HO.can, Z0s, idx, Z01, Z00, Heap.at, Nat.reduceBEq, ↓reduceIte, Nat.reduceEqDiff, Option.getD_some, Option.map_some, List.map_cons, List.map_nil, List.getD_cons_zero, List.getD_cons_succ, tSt3, tHv]) (by omega) (by omega)⟩, fun hk5 => by rw [Z43 (n := x.deeds.length) (by omega) (by unfold maxLen; omega)]; exact Z1p.mk [0] (j + 1) (by simp) (by simp) (by simp only [State.can, AV.can, AV.canL, HO.can, Z0s, idx, Z01, Z00, Heap.at, Nat.reduceBEq, ↓reduceIte, Nat.reduceEqDiff, Option.getD_some, Option.map_some, List.map_cons, List.map_nil, List.getD_cons_zero, List.getD_cons_succ, tSt3, tHv]) (by omega) (by omega)⟩⟩⟩, fun h1 => ⟨fun e1 => by rw [Z43 (n := x.deeds.length) (by omega) (by unfold maxLen; omega)]; exact Z1p.mk [0] (j + 1) (by simp) (by simp) (by simp only [State.can, AV.can, AV.canL, HO.can, Z0s, idx, Z01, Z00, Heap.at, Nat.reduceBEq, ↓reduceIte, Nat.reduceEqDiff, Option.getD_some, Option.map_some, List.map_cons, List.map_nil, List.getD_cons_zero, List.getD_cons_succ, tSt3, tHv]) (by omega) (by omega), fun e1 => ⟨⟨by omega, by omega⟩, fun hk5 => ⟨hrl, fun h3 => by rw [hasI_nat] at h3; exact turn_two B hc hT hr (by omega) hk5 h3, fun h3 => by rw [Z43 (n := x.deeds.length) (by omega) (by unfold maxLen; omega)]; exact Z1p.mk [0] (j + 1) (by simp) (by simp) (by simp only [State.can, AV.can, AV.canL, HO.can, Z0s, idx, Z01, Z00, Heap.at, Nat.reduceBEq, ↓reduceIte, Nat.reduceEqDiff, Option.getD_some, Option.map_some, List.map_cons, List.map_nil, List.getD_cons_zero, List.getD_cons_succ, tSt3, tHv]) (by omega) (by omega)⟩, fun hk5 => by rw [Z43 (n := x.deeds.length) (by omega) (by unfold maxLen; omega)]; exact Z1p.mk [0] (j + 1) (by simp) (by simp) (by simp only [State.can, AV.can, AV.canL, HO.can, Z0s, idx, Z01, Z00, Heap.at, Nat.reduceBEq, ↓reduceIte, Nat.reduceEqDiff, Option.getD_some, Option.map_some, List.map_cons, List.map_nil, List.getD_cons_zero, List.getD_cons_succ, tSt3, tHv]) (by omega) (by omega)⟩⟩⟩, fun d2 => ?_⟩
      · rw [hasI_nat] at h1 h2
        exact turn_next B hc hT hr h1 h2
      · rw [Z43 (n := x.deeds.length) (by omega) (by unfold maxLen; omega)]
        exact Z1p.mk [0] (k + 1) (by simp) (by simp) (by simp only [State.can, AV.can, AV.canL, HO.can, Z0s, idx, Z01, Z00, Heap.at, Nat.reduceBEq, ↓reduceIte, Nat.reduceEqDiff, Option.getD_some, Option.map_some, List.map_cons, List.map_nil, List.getD_cons_zero, List.getD_cons_succ, tSt2, tHv]) (by omega) (by omega)
    · rw [hasI_nat] at hr hco
      rw [turn_co B hc hT hr] at hco; cases hco
    · rw [Z43 (n := x.deeds.length) (by omega) (by unfold maxLen; omega)]
      exact Z1p.mk [0] (k + 1) (by simp) (by simp) (by simp only [State.can, AV.can, AV.canL, HO.can, Z0s, idx, Z01, Z00, Heap.at, Nat.reduceBEq, ↓reduceIte, Nat.reduceEqDiff, Option.getD_some, Option.map_some, List.map_cons, List.map_nil, List.getD_cons_zero, List.getD_cons_succ, tSt2, tHv]) (by omega) (by omega)
    · rw [Z43 (n := x.deeds.length) (by omega) (by unfold maxLen; omega)]
      exact Z1p.mk [0] (i + 1) (by simp) (by simp) (by simp only [State.can, AV.can, AV.canL, HO.can, Z0s, idx, Z01, Z00, Heap.at, Nat.reduceBEq, ↓reduceIte, Nat.reduceEqDiff, Option.getD_some, Option.map_some, List.map_cons, List.map_nil, List.getD_cons_zero, List.getD_cons_succ, tSt1, tHv]) (by omega) (by omega)
  · rw [Z43 (n := x.deeds.length) (by omega) (by unfold maxLen; omega)]
    exact Z1p.mk [0] (i + 1) (by simp) (by simp) (by simp only [State.can, AV.can, AV.canL, HO.can, Z0s, idx, Z01, Z00, Heap.at, Nat.reduceBEq, ↓reduceIte, Nat.reduceEqDiff, Option.getD_some, Option.map_some, List.map_cons, List.map_nil, List.getD_cons_zero, List.getD_cons_succ, tSt1, tHv]) (by omega) (by omega)
end Go.Ago

/- The law AxiomOwn. Conditions: none. -/
set_option maxRecDepth 100000
set_option linter.unusedSimpArgs false
set_option linter.unusedVariables false
namespace Go.Ago
attribute [local irreducible] vck
def oSt1 (x : WG) (i : Nat) : State := ⟨[(9, .ptr 0 4 0 0), (11, .d (.int .i64 i))], [tHv x]⟩
def oSt2 (x : WG) (i k : Nat) : State := ⟨[(9, .ptr 0 4 0 0), (11, .d (.int .i64 i)), (12, .d (.int .i64 k))], [tHv x]⟩
def oSt3 (x : WG) (i k j : Nat) : State := ⟨[(9, .ptr 0 4 0 0), (11, .d (.int .i64 i)), (12, .d (.int .i64 k)), (15, .d (.int .i64 j))], [tHv x]⟩
set_option maxHeartbeats 4000000 in
theorem law_AxiomOwn {T : Tab} {n1 n2 n3 n4 n5 n6 : Nat} (k1 : Knows T n1 sp_true) (k2 : Knows T n2 sp_small) (k3 : Knows T n3 sp_Build) (k4 : Knows T n4 sp_chkW) (k5 : Knows T n5 sp_Has) (k6 : Knows T n6 (sp_act_b ActG.isW)) (l : List LocG) (f : Bool) (acts : List (List ActG × Bool)) (g : Bool) (fr : List Int) (ff : Bool) (order : List (List Int × Bool)) (og : Bool)
    (hl : l.length ≤ maxLen) (ha : acts.length ≤ maxLen) (ha2 : ∀ x ∈ acts, x.1.length ≤ maxLen) (hf : fr.length ≤ maxLen) (ho : order.length ≤ maxLen) (ho2 : ∀ x ∈ order, x.1.length ≤ maxLen) :
    Holds T V_law23_AxiomOwn (L_law23_AxiomOwn n1 n2 n3 n4 n5 n6) R_law23_AxiomOwn [.d (.list (l.map LocG.row) f), .d (.list (acts.map rowLA) g), .d (.list (fr.map rowI) ff), .d (.list (order.map rowLI) og)] := by
  have F1 := k1.F; have G1 := k1.G; have F2 := k2.F; have G2 := k2.G; have F3 := k3.F; have G3 := k3.G; have F4 := k4.F; have G4 := k4.G; have F5 := k5.F; have G5 := k5.G; have F6 := k6.F; have G6 := k6.G
  unfold V_law23_AxiomOwn L_law23_AxiomOwn R_law23_AxiomOwn
  simp (maxSteps := 3000000) only [↓Z1g, ↓Z24, ↓Z1s, ↓Z04, ↓Z2p, ↓Z2o, nilG_d, nilG_r, ↓Z1i, ↓Z1a, ↓Z0f, ↓Z1t, ↓Z0d, ↓Z1f, ↓Z34, ↓Z3a, ↓Z26, ↓Z1q, ↓Z2r, ↓Z2h, ↓Z1e, ↓Z3d, ↓retK_n, ↓Z3t, ↓Z3v, ↓Z3u, ↓famK_n, ↓Z42, ↓famK_r, ↓Z0l, ↓Z08, ↓Z1j, ↓Z0e, ↓Z1v, nf_mk, Z07, Z1h, Z2z, Z1b, Z32, evN, Z2d, Z1d, Z31, feet_t, Z1c, Z0n, Z19, Z2y, Z2j, Z2e, Z1o, Z2f, evT, Opd.ev, Z01, Z00, Z30, app_no, Z3l, Z29, Z1u, Z2b, Z2g, Z3r, Z18, Z09, Z3b, LOp.isNew, State.prune, Z3p, Z2m, AV.leaf, Heap.at, Z0g, Z0b, Z1k, Z0j, Z03, idx_I, idx_W, rowW, Z2i, Z35, Z27, Z1m, rowB, Z38, Z36, rowN, lens_W, Z3x, Z1l, Z17, w_or, w_and, Z39, w_and1, w_shl, w_shl1, w_shr, w_sub1, w_neg, w_add, w_bit, w_eq0, w_eq1, w_eq, Bool.decide_eq_true, Z3o, Z3n, Z3q, Z2s, Z1w, Z05, Z0c, Z0o, Z02, Z1r, rowI, RatG.row, LocG.row, ActG.row, StepG.row, StampG.row, ActG.av, ActG.eta, RatG.eta, LocG.eta, beq_true, beq_false, Z2n, Z2x, Z2q, Z2w, Z14, Z0r, Z12, Z13, Z0q, Z0p, Z0h, List.length_set, List.length_replicate, Z06, Int.reduceToNat, evLen, Z2c, Z40, Src.all, Src.len, Src.leaf, Src.leafN, Z3h, aliveQ, joinV, Z0m, Z0t, Z0u, Z0v, Z0w, Z0x, Z0y, Z0z, mkVec, drows, evMk, List.length_map, Z25, Z28, List.take_length, List.take_left, List.length_append, Nat.le_add_right, ite_self, List.take_of_length_le, Z3m, intOr, intOpd, Option.isSome_none, Option.isSome_some, Nat.sub_zero, loadQ, loadT, evBin, evUn, Z15, Z16, binT, binQ, chk, Z3y, List.contains_cons, List.contains_nil, Bool.or_false, Bool.false_or, Bool.and_self, resQ, resV, resT, pickV, Z2a, evTake, Z3j, fnOf, Z3e, isD, HO.drow, viewT, Z41, evEq, eqV, eqK, eqC1, buildQ, buildT, Z3g, Z3c, lens_I, Z3s, Z2v, Z1z, Z2u, Z1y, Z2t, Z1x, Z20, Z10, Z11, Z0i, List.mem_cons, List.not_mem_nil, or_false, forall_eq, putRow, Z3i, Z23, RetS, RetF, RetD, AV.frz, AV.frzL, AV.freshP, AV.freshL, DV.less, Z2k, Z21, Z2l, Z22, Z0k, Z0a, Option.some.injEq, AV.tup.injEq, AV.agg.injEq, List.cons.injEq, DV.list.injEq, List.isEmpty_nil, Nat.le_refl, AV.d.injEq, DV.int.injEq, DV.bool.injEq, ↓reduceIte, Nat.reduceEqDiff, Nat.reduceAdd, Nat.reduceBEq, List.length_cons, List.length_nil, List.replicate_succ, List.replicate_zero, List.nil_append, List.cons_append, List.append_nil, List.foldl_cons, List.foldl_nil, List.map_cons, List.map_nil, List.all_cons, List.all_nil, List.set_cons_zero, List.set_cons_succ, List.getD_cons_zero, List.getD_cons_succ, List.drop_zero, List.drop_succ_cons, List.take_succ_cons, List.take_zero, List.flatten_cons, List.flatten_nil, Bool.true_and, Bool.and_true, Bool.not_true, Bool.not_false, true_and, and_true, true_or, or_true, Option.bind_some, Option.map_some, decide_true, decide_false, beq_self_eq_true, true_implies, false_implies, implies_true, not_true_eq_false, not_false_eq_true, and_self, Bool.and_false, Bool.false_and, Nat.reduceLT, Nat.reduceLeDiff, List.reverse_cons, List.reverse_nil, Nat.zero_add, Nat.add_zero, Bool.false_eq_true, List.getElem?_cons_zero, Nat.reduceMul, Nat.mul_one, at_true, DeedG.row, Z3z, at_small, at_Build, at_chkW, at_chkWX, WG.av, at_Has, F1, G1, F2, G2, F3, G3, F4, G4, F5, G5, F6, G6]
  refine ⟨⟨ha, ho⟩, fun hs => ⟨smallF_iff.1 hs, fun he => ?_⟩, fun _ => trivial⟩
  have B := built_of he
  rw [he]
  clear he
  generalize (buildG l acts fr order).1 = x at *
  refine ⟨B.ok, fun hc => ?_⟩
  have hn := B.le
  have hrl : x.rf.length ≤ maxLen := by rw [B.ok.rf.len]; unfold maxLen; omega
  have hcl : x.co.length ≤ maxLen := by rw [B.ok.co.len]; unfold maxLen; omega
  refine Loop.fam [9, 11] (oSt1 x) (fun i => i ≤ x.deeds.length) (fun i => x.deeds.length - i) 0 [0] (by simp) (by simp) (by simp only [State.can, AV.can, AV.canL, HO.can, Z0s, idx, Z01, Z00, Heap.at, Nat.reduceBEq, ↓reduceIte, Nat.reduceEqDiff, Option.getD_some, Option.map_some, List.map_cons, List.map_nil, List.getD_cons_zero, List.getD_cons_succ, oSt1, tHv]; rfl) (by omega) ?_
  intro i hi
  have hi : i ≤ x.deeds.length := hi
  simp (maxSteps := 3000000) only [↓Z1g, ↓Z24, ↓Z1s, ↓Z04, ↓Z2p, ↓Z2o, nilG_d, nilG_r, ↓Z1i, ↓Z1a, ↓Z0f, ↓Z1t, ↓Z0d, ↓Z1f, ↓Z34, ↓Z3a, ↓Z26, ↓Z1q, ↓Z2r, ↓Z2h, ↓Z1e, ↓Z3d, ↓retK_n, ↓Z3t, ↓Z3v, ↓Z3u, ↓famK_n, ↓Z42, ↓famK_r, ↓Z0l, ↓Z08, ↓Z1j, ↓Z0e, ↓Z1v, nf_mk, Z07, Z1h, Z2z, Z1b, Z32, evN, Z2d, Z1d, Z31, feet_t, Z1c, Z0n, Z19, Z2y, Z2j, Z2e, Z1o, Z2f, evT, Opd.ev, Z01, Z00, Z30, app_no, Z3l, Z29, Z1u, Z2b, Z2g, Z3r, Z18, Z09, Z3b, LOp.isNew, State.prune, Z3p, Z2m, AV.leaf, Heap.at, Z0g, Z0b, Z1k, Z0j, Z03, idx_I, idx_W, rowW, Z2i, Z35, Z27, Z1m, rowB, Z38, Z36, rowN, lens_W, Z3x, Z1l, Z17, w_or, w_and, Z39, w_and1, w_shl, w_shl1, w_shr, w_sub1, w_neg, w_add, w_bit, w_eq0, w_eq1, w_eq, Bool.decide_eq_true, Z3o, Z3n, Z3q, Z2s, Z1w, Z05, Z0c, Z0o, Z02, Z1r, rowI, RatG.row, LocG.row, ActG.row, StepG.row, StampG.row, ActG.av, ActG.eta, RatG.eta, LocG.eta, beq_true, beq_false, Z2n, Z2x, Z2q, Z2w, Z14, Z0r, Z12, Z13, Z0q, Z0p, Z0h, List.length_set, List.length_replicate, Z06, Int.reduceToNat, evLen, Z2c, Z40, Src.all, Src.len, Src.leaf, Src.leafN, Z3h, aliveQ, joinV, Z0m, Z0t, Z0u, Z0v, Z0w, Z0x, Z0y, Z0z, mkVec, drows, evMk, List.length_map, Z25, Z28, List.take_length, List.take_left, List.length_append, Nat.le_add_right, ite_self, List.take_of_length_le, Z3m, intOr, intOpd, Option.isSome_none, Option.isSome_some, Nat.sub_zero, loadQ, loadT, evBin, evUn, Z15, Z16, binT, binQ, chk, Z3y, List.contains_cons, List.contains_nil, Bool.or_false, Bool.false_or, Bool.and_self, resQ, resV, resT, pickV, Z2a, evTake, Z3j, fnOf, Z3e, isD, HO.drow, viewT, Z41, evEq, eqV, eqK, eqC1, buildQ, buildT, Z3g, Z3c, lens_I, Z3s, Z2v, Z1z, Z2u, Z1y, Z2t, Z1x, Z20, Z10, Z11, Z0i, List.mem_cons, List.not_mem_nil, or_false, forall_eq, putRow, Z3i, Z23, RetS, RetF, RetD, AV.frz, AV.frzL, AV.freshP, AV.freshL, DV.less, Z2k, Z21, Z2l, Z22, Z0k, Z0a, Option.some.injEq, AV.tup.injEq, AV.agg.injEq, List.cons.injEq, DV.list.injEq, List.isEmpty_nil, Nat.le_refl, AV.d.injEq, DV.int.injEq, DV.bool.injEq, ↓reduceIte, Nat.reduceEqDiff, Nat.reduceAdd, Nat.reduceBEq, List.length_cons, List.length_nil, List.replicate_succ, List.replicate_zero, List.nil_append, List.cons_append, List.append_nil, List.foldl_cons, List.foldl_nil, List.map_cons, List.map_nil, List.all_cons, List.all_nil, List.set_cons_zero, List.set_cons_succ, List.getD_cons_zero, List.getD_cons_succ, List.drop_zero, List.drop_succ_cons, List.take_succ_cons, List.take_zero, List.flatten_cons, List.flatten_nil, Bool.true_and, Bool.and_true, Bool.not_true, Bool.not_false, true_and, and_true, true_or, or_true, Option.bind_some, Option.map_some, decide_true, decide_false, beq_self_eq_true, true_implies, false_implies, implies_true, not_true_eq_false, not_false_eq_true, and_self, Bool.and_false, Bool.false_and, Nat.reduceLT, Nat.reduceLeDiff, List.reverse_cons, List.reverse_nil, Nat.zero_add, Nat.add_zero, Bool.false_eq_true, List.getElem?_cons_zero, Nat.reduceMul, Nat.mul_one, DeedG.row, Z3z, oSt1, tHv]
  intro e
  refine Loop.fam [9, 11, 12] (oSt2 x i) (fun k => k ≤ i) (fun k => i - k) 0 [0] (by simp) (by simp) (by simp only [State.can, AV.can, AV.canL, HO.can, Z0s, idx, Z01, Z00, Heap.at, Nat.reduceBEq, ↓reduceIte, Nat.reduceEqDiff, Option.getD_some, Option.map_some, List.map_cons, List.map_nil, List.getD_cons_zero, List.getD_cons_succ, oSt2, tHv]; rfl) (by omega) ?_
  intro k hk
  have hk : k ≤ i := hk
  simp (maxSteps := 3000000) only [↓Z1g, ↓Z24, ↓Z1s, ↓Z04, ↓Z2p, ↓Z2o, nilG_d, nilG_r, ↓Z1i, ↓Z1a, ↓Z0f, ↓Z1t, ↓Z0d, ↓Z1f, ↓Z34, ↓Z3a, ↓Z26, ↓Z1q, ↓Z2r, ↓Z2h, ↓Z1e, ↓Z3d, ↓retK_n, ↓Z3t, ↓Z3v, ↓Z3u, ↓famK_n, ↓Z42, ↓famK_r, ↓Z0l, ↓Z08, ↓Z1j, ↓Z0e, ↓Z1v, nf_mk, Z07, Z1h, Z2z, Z1b, Z32, evN, Z2d, Z1d, Z31, feet_t, Z1c, Z0n, Z19, Z2y, Z2j, Z2e, Z1o, Z2f, evT, Opd.ev, Z01, Z00, Z30, app_no, Z3l, Z29, Z1u, Z2b, Z2g, Z3r, Z18, Z09, Z3b, LOp.isNew, State.prune, Z3p, Z2m, AV.leaf, Heap.at, Z0g, Z0b, Z1k, Z0j, Z03, idx_I, idx_W, rowW, Z2i, Z35, Z27, Z1m, rowB, Z38, Z36, rowN, lens_W, Z3x, Z1l, Z17, w_or, w_and, Z39, w_and1, w_shl, w_shl1, w_shr, w_sub1, w_neg, w_add, w_bit, w_eq0, w_eq1, w_eq, Bool.decide_eq_true, Z3o, Z3n, Z3q, Z2s, Z1w, Z05, Z0c, Z0o, Z02, Z1r, rowI, RatG.row, LocG.row, ActG.row, StepG.row, StampG.row, ActG.av, ActG.eta, RatG.eta, LocG.eta, beq_true, beq_false, Z2n, Z2x, Z2q, Z2w, Z14, Z0r, Z12, Z13, Z0q, Z0p, Z0h, List.length_set, List.length_replicate, Z06, Int.reduceToNat, evLen, Z2c, Z40, Src.all, Src.len, Src.leaf, Src.leafN, Z3h, aliveQ, joinV, Z0m, Z0t, Z0u, Z0v, Z0w, Z0x, Z0y, Z0z, mkVec, drows, evMk, List.length_map, Z25, Z28, List.take_length, List.take_left, List.length_append, Nat.le_add_right, ite_self, List.take_of_length_le, Z3m, intOr, intOpd, Option.isSome_none, Option.isSome_some, Nat.sub_zero, loadQ, loadT, evBin, evUn, Z15, Z16, binT, binQ, chk, Z3y, List.contains_cons, List.contains_nil, Bool.or_false, Bool.false_or, Bool.and_self, resQ, resV, resT, pickV, Z2a, evTake, Z3j, fnOf, Z3e, isD, HO.drow, viewT, Z41, evEq, eqV, eqK, eqC1, buildQ, buildT, Z3g, Z3c, lens_I, Z3s, Z2v, Z1z, Z2u, Z1y, Z2t, Z1x, Z20, Z10, Z11, Z0i, List.mem_cons, List.not_mem_nil, or_false, forall_eq, putRow, Z3i, Z23, RetS, RetF, RetD, AV.frz, AV.frzL, AV.freshP, AV.freshL, DV.less, Z2k, Z21, Z2l, Z22, Z0k, Z0a, Option.some.injEq, AV.tup.injEq, AV.agg.injEq, List.cons.injEq, DV.list.injEq, List.isEmpty_nil, Nat.le_refl, AV.d.injEq, DV.int.injEq, DV.bool.injEq, ↓reduceIte, Nat.reduceEqDiff, Nat.reduceAdd, Nat.reduceBEq, List.length_cons, List.length_nil, List.replicate_succ, List.replicate_zero, List.nil_append, List.cons_append, List.append_nil, List.foldl_cons, List.foldl_nil, List.map_cons, List.map_nil, List.all_cons, List.all_nil, List.set_cons_zero, List.set_cons_succ, List.getD_cons_zero, List.getD_cons_succ, List.drop_zero, List.drop_succ_cons, List.take_succ_cons, List.take_zero, List.flatten_cons, List.flatten_nil, Bool.true_and, Bool.and_true, Bool.not_true, Bool.not_false, true_and, and_true, true_or, or_true, Option.bind_some, Option.map_some, decide_true, decide_false, beq_self_eq_true, true_implies, false_implies, implies_true, not_true_eq_false, not_false_eq_true, and_self, Bool.and_false, Bool.false_and, Nat.reduceLT, Nat.reduceLeDiff, List.reverse_cons, List.reverse_nil, Nat.zero_add, Nat.add_zero, Bool.false_eq_true, List.getElem?_cons_zero, Nat.reduceMul, Nat.mul_one, DeedG.row, Z3z, oSt2, tHv, F5, G5, at_Has, F6, G6, at_act_b]
  have w1 : IntKind.i64.wrap ((i : Int) + 1) = ((i + 1 : Nat) : Int) := Z43 (n := x.deeds.length) (by omega) (by unfold maxLen; omega)
  refine ⟨fun c => ?_, fun c => by rw [w1]; exact Z1p.mk [0] (i + 1) (by simp) (by simp) (by simp only [State.can, AV.can, AV.canL, HO.can, Z0s, idx, Z01, Z00, Heap.at, Nat.reduceBEq, ↓reduceIte, Nat.reduceEqDiff, Option.getD_some, Option.map_some, List.map_cons, List.map_nil, List.getD_cons_zero, List.getD_cons_succ, oSt1, tHv]) (by omega) (by omega)⟩
  have w2 : IntKind.i64.wrap ((k : Int) + 1) = ((k + 1 : Nat) : Int) := Z43 (n := x.deeds.length) (by omega) (by unfold maxLen; omega)
  refine ⟨⟨by omega, by omega⟩, ⟨by omega, by omega⟩, fun _ => by rw [w2]; exact Z1p.mk [0] (k + 1) (by simp) (by simp) (by simp only [State.can, AV.can, AV.canL, HO.can, Z0s, idx, Z01, Z00, Heap.at, Nat.reduceBEq, ↓reduceIte, Nat.reduceEqDiff, Option.getD_some, Option.map_some, List.map_cons, List.map_nil, List.getD_cons_zero, List.getD_cons_succ, oSt2, tHv]) (by omega) (by omega), fun h0 => ⟨fun ht => ⟨fun hl2 => ⟨fun hW => ⟨fun hWi => ⟨hcl, fun hco => ?_, fun hco => ?_⟩, fun hWi => ?_⟩, fun _ => by rw [w2]; exact Z1p.mk [0] (k + 1) (by simp) (by simp) (by simp only [State.can, AV.can, AV.canL, HO.can, Z0s, idx, Z01, Z00, Heap.at, Nat.reduceBEq, ↓reduceIte, Nat.reduceEqDiff, Option.getD_some, Option.map_some, List.map_cons, List.map_nil, List.getD_cons_zero, List.getD_cons_succ, oSt2, tHv]) (by omega) (by omega)⟩, fun _ => by rw [w2]; exact Z1p.mk [0] (k + 1) (by simp) (by simp) (by simp only [State.can, AV.can, AV.canL, HO.can, Z0s, idx, Z01, Z00, Heap.at, Nat.reduceBEq, ↓reduceIte, Nat.reduceEqDiff, Option.getD_some, Option.map_some, List.map_cons, List.map_nil, List.getD_cons_zero, List.getD_cons_succ, oSt2, tHv]) (by omega) (by omega)⟩, fun _ => by rw [w2]; exact Z1p.mk [0] (k + 1) (by simp) (by simp) (by simp only [State.can, AV.can, AV.canL, HO.can, Z0s, idx, Z01, Z00, Heap.at, Nat.reduceBEq, ↓reduceIte, Nat.reduceEqDiff, Option.getD_some, Option.map_some, List.map_cons, List.map_nil, List.getD_cons_zero, List.getD_cons_succ, oSt2, tHv]) (by omega) (by omega)⟩⟩
  · refine Loop.fam [9, 11, 12, 15] (oSt3 x i k) (fun j => j ≤ x.deeds.length) (fun j => x.deeds.length - j) 0 [0] (by simp) (by simp) (by simp only [State.can, AV.can, AV.canL, HO.can, Z0s, idx, Z01, Z00, Heap.at, Nat.reduceBEq, ↓reduceIte, Nat.reduceEqDiff, Option.getD_some, Option.map_some, List.map_cons, List.map_nil, List.getD_cons_zero, List.getD_cons_succ, oSt3, tHv]; rfl) (by omega) ?_
    intro j hj
    have hj : j ≤ x.deeds.length := hj
    simp (maxSteps := 3000000) only [↓Z1g, ↓Z24, ↓Z1s, ↓Z04, ↓Z2p, ↓Z2o, nilG_d, nilG_r, ↓Z1i, ↓Z1a, ↓Z0f, ↓Z1t, ↓Z0d, ↓Z1f, ↓Z34, ↓Z3a, ↓Z26, ↓Z1q, ↓Z2r, ↓Z2h, ↓Z1e, ↓Z3d, ↓retK_n, ↓Z3t, ↓Z3v, ↓Z3u, ↓famK_n, ↓Z42, ↓famK_r, ↓Z0l, ↓Z08, ↓Z1j, ↓Z0e, ↓Z1v, nf_mk, Z07, Z1h, Z2z, Z1b, Z32, evN, Z2d, Z1d, Z31, feet_t, Z1c, Z0n, Z19, Z2y, Z2j, Z2e, Z1o, Z2f, evT, Opd.ev, Z01, Z00, Z30, app_no, Z3l, Z29, Z1u, Z2b, Z2g, Z3r, Z18, Z09, Z3b, LOp.isNew, State.prune, Z3p, Z2m, AV.leaf, Heap.at, Z0g, Z0b, Z1k, Z0j, Z03, idx_I, idx_W, rowW, Z2i, Z35, Z27, Z1m, rowB, Z38, Z36, rowN, lens_W, Z3x, Z1l, Z17, w_or, w_and, Z39, w_and1, w_shl, w_shl1, w_shr, w_sub1, w_neg, w_add, w_bit, w_eq0, w_eq1, w_eq, Bool.decide_eq_true, Z3o, Z3n, Z3q, Z2s, Z1w, Z05, Z0c, Z0o, Z02, Z1r, rowI, RatG.row, LocG.row, ActG.row, StepG.row, StampG.row, ActG.av, ActG.eta, RatG.eta, LocG.eta, beq_true, beq_false, Z2n, Z2x, Z2q, Z2w, Z14, Z0r, Z12, Z13, Z0q, Z0p, Z0h, List.length_set, List.length_replicate, Z06, Int.reduceToNat, evLen, Z2c, Z40, Src.all, Src.len, Src.leaf, Src.leafN, Z3h, aliveQ, joinV, Z0m, Z0t, Z0u, Z0v, Z0w, Z0x, Z0y, Z0z, mkVec, drows, evMk, List.length_map, Z25, Z28, List.take_length, List.take_left, List.length_append, Nat.le_add_right, ite_self, List.take_of_length_le, Z3m, intOr, intOpd, Option.isSome_none, Option.isSome_some, Nat.sub_zero, loadQ, loadT, evBin, evUn, Z15, Z16, binT, binQ, chk, Z3y, List.contains_cons, List.contains_nil, Bool.or_false, Bool.false_or, Bool.and_self, resQ, resV, resT, pickV, Z2a, evTake, Z3j, fnOf, Z3e, isD, HO.drow, viewT, Z41, evEq, eqV, eqK, eqC1, buildQ, buildT, Z3g, Z3c, lens_I, Z3s, Z2v, Z1z, Z2u, Z1y, Z2t, Z1x, Z20, Z10, Z11, Z0i, List.mem_cons, List.not_mem_nil, or_false, forall_eq, putRow, Z3i, Z23, RetS, RetF, RetD, AV.frz, AV.frzL, AV.freshP, AV.freshL, DV.less, Z2k, Z21, Z2l, Z22, Z0k, Z0a, Option.some.injEq, AV.tup.injEq, AV.agg.injEq, List.cons.injEq, DV.list.injEq, List.isEmpty_nil, Nat.le_refl, AV.d.injEq, DV.int.injEq, DV.bool.injEq, ↓reduceIte, Nat.reduceEqDiff, Nat.reduceAdd, Nat.reduceBEq, List.length_cons, List.length_nil, List.replicate_succ, List.replicate_zero, List.nil_append, List.cons_append, List.append_nil, List.foldl_cons, List.foldl_nil, List.map_cons, List.map_nil, List.all_cons, List.all_nil, List.set_cons_zero, List.set_cons_succ, List.getD_cons_zero, List.getD_cons_succ, List.drop_zero, List.drop_succ_cons, List.take_succ_cons, List.take_zero, List.flatten_cons, List.flatten_nil, Bool.true_and, Bool.and_true, Bool.not_true, Bool.not_false, true_and, and_true, true_or, or_true, Option.bind_some, Option.map_some, decide_true, decide_false, beq_self_eq_true, true_implies, false_implies, implies_true, not_true_eq_false, not_false_eq_true, and_self, Bool.and_false, Bool.false_and, Nat.reduceLT, Nat.reduceLeDiff, List.reverse_cons, List.reverse_nil, Nat.zero_add, Nat.add_zero, Bool.false_eq_true, List.getElem?_cons_zero, Nat.reduceMul, Nat.mul_one, DeedG.row, Z3z, oSt3, tHv, F5, G5, at_Has, F6, G6, at_act_b]
    have w3 : j < x.deeds.length → IntKind.i64.wrap ((j : Int) + 1) = ((j + 1 : Nat) : Int) := fun h => Z43 (n := x.deeds.length) h (by unfold maxLen; omega)
    refine ⟨fun d => ⟨hrl, fun h1 => ⟨fun h2 => by rw [w3 (by omega)]; exact Z1p.mk [0] (j + 1) (by simp) (by simp) (by simp only [State.can, AV.can, AV.canL, HO.can, Z0s, idx, Z01, Z00, Heap.at, Nat.reduceBEq, ↓reduceIte, Nat.reduceEqDiff, Option.getD_some, Option.map_some, List.map_cons, List.map_nil, List.getD_cons_zero, List.getD_cons_succ, oSt3, tHv]) (by omega) (by omega), fun h2 => ⟨hcl, fun _ => by rw [w3 (by omega)]; exact Z1p.mk [0] (j + 1) (by simp) (by simp) (by simp only [State.can, AV.can, AV.canL, HO.can, Z0s, idx, Z01, Z00, Heap.at, Nat.reduceBEq, ↓reduceIte, Nat.reduceEqDiff, Option.getD_some, Option.map_some, List.map_cons, List.map_nil, List.getD_cons_zero, List.getD_cons_succ, oSt3, tHv]) (by omega) (by omega), fun h3 => ?_⟩⟩, fun _ => by rw [w3 (by omega)]; exact Z1p.mk [0] (j + 1) (by simp) (by simp) (by simp only [State.can, AV.can, AV.canL, HO.can, Z0s, idx, Z01, Z00, Heap.at, Nat.reduceBEq, ↓reduceIte, Nat.reduceEqDiff, Option.getD_some, Option.map_some, List.map_cons, List.map_nil, List.getD_cons_zero, List.getD_cons_succ, oSt3, tHv]) (by omega) (by omega)⟩, fun d => ?_⟩
    · rw [hasI_nat] at h1 h3
      rw [own_r B hc (by omega) (by omega) (by omega) ht hl2 hW h1 (by omega)] at h3; cases h3
    · rw [w2]; exact Z1p.mk [0] (k + 1) (by simp) (by simp) (by simp only [State.can, AV.can, AV.canL, HO.can, Z0s, idx, Z01, Z00, Heap.at, Nat.reduceBEq, ↓reduceIte, Nat.reduceEqDiff, Option.getD_some, Option.map_some, List.map_cons, List.map_nil, List.getD_cons_zero, List.getD_cons_succ, oSt2, tHv]) (by omega) (by omega)
  · rw [hasI_nat] at hco
    rw [own_w B hc (by omega) (by omega) (by omega) ht hl2 hW hWi] at hco; cases hco
  · refine Loop.fam [9, 11, 12, 15] (oSt3 x i k) (fun j => j ≤ x.deeds.length) (fun j => x.deeds.length - j) 0 [0] (by simp) (by simp) (by simp only [State.can, AV.can, AV.canL, HO.can, Z0s, idx, Z01, Z00, Heap.at, Nat.reduceBEq, ↓reduceIte, Nat.reduceEqDiff, Option.getD_some, Option.map_some, List.map_cons, List.map_nil, List.getD_cons_zero, List.getD_cons_succ, oSt3, tHv]; rfl) (by omega) ?_
    intro j hj
    have hj : j ≤ x.deeds.length := hj
    simp (maxSteps := 3000000) only [↓Z1g, ↓Z24, ↓Z1s, ↓Z04, ↓Z2p, ↓Z2o, nilG_d, nilG_r, ↓Z1i, ↓Z1a, ↓Z0f, ↓Z1t, ↓Z0d, ↓Z1f, ↓Z34, ↓Z3a, ↓Z26, ↓Z1q, ↓Z2r, ↓Z2h, ↓Z1e, ↓Z3d, ↓retK_n, ↓Z3t, ↓Z3v, ↓Z3u, ↓famK_n, ↓Z42, ↓famK_r, ↓Z0l, ↓Z08, ↓Z1j, ↓Z0e, ↓Z1v, nf_mk, Z07, Z1h, Z2z, Z1b, Z32, evN, Z2d, Z1d, Z31, feet_t, Z1c, Z0n, Z19, Z2y, Z2j, Z2e, Z1o, Z2f, evT, Opd.ev, Z01, Z00, Z30, app_no, Z3l, Z29, Z1u, Z2b, Z2g, Z3r, Z18, Z09, Z3b, LOp.isNew, State.prune, Z3p, Z2m, AV.leaf, Heap.at, Z0g, Z0b, Z1k, Z0j, Z03, idx_I, idx_W, rowW, Z2i, Z35, Z27, Z1m, rowB, Z38, Z36, rowN, lens_W, Z3x, Z1l, Z17, w_or, w_and, Z39, w_and1, w_shl, w_shl1, w_shr, w_sub1, w_neg, w_add, w_bit, w_eq0, w_eq1, w_eq, Bool.decide_eq_true, Z3o, Z3n, Z3q, Z2s, Z1w, Z05, Z0c, Z0o, Z02, Z1r, rowI, RatG.row, LocG.row, ActG.row, StepG.row, StampG.row, ActG.av, ActG.eta, RatG.eta, LocG.eta, beq_true, beq_false, Z2n, Z2x, Z2q, Z2w, Z14, Z0r, Z12, Z13, Z0q, Z0p, Z0h, List.length_set, List.length_replicate, Z06, Int.reduceToNat, evLen, Z2c, Z40, Src.all, Src.len, Src.leaf, Src.leafN, Z3h, aliveQ, joinV, Z0m, Z0t, Z0u, Z0v, Z0w, Z0x, Z0y, Z0z, mkVec, drows, evMk, List.length_map, Z25, Z28, List.take_length, List.take_left, List.length_append, Nat.le_add_right, ite_self, List.take_of_length_le, Z3m, intOr, intOpd, Option.isSome_none, Option.isSome_some, Nat.sub_zero, loadQ, loadT, evBin, evUn, Z15, Z16, binT, binQ, chk, Z3y, List.contains_cons, List.contains_nil, Bool.or_false, Bool.false_or, Bool.and_self, resQ, resV, resT, pickV, Z2a, evTake, Z3j, fnOf, Z3e, isD, HO.drow, viewT, Z41, evEq, eqV, eqK, eqC1, buildQ, buildT, Z3g, Z3c, lens_I, Z3s, Z2v, Z1z, Z2u, Z1y, Z2t, Z1x, Z20, Z10, Z11, Z0i, List.mem_cons, List.not_mem_nil, or_false, forall_eq, putRow, Z3i, Z23, RetS, RetF, RetD, AV.frz, AV.frzL, AV.freshP, AV.freshL, DV.less, Z2k, Z21, Z2l, Z22, Z0k, Z0a, Option.some.injEq, AV.tup.injEq, AV.agg.injEq, List.cons.injEq, DV.list.injEq, List.isEmpty_nil, Nat.le_refl, AV.d.injEq, DV.int.injEq, DV.bool.injEq, ↓reduceIte, Nat.reduceEqDiff, Nat.reduceAdd, Nat.reduceBEq, List.length_cons, List.length_nil, List.replicate_succ, List.replicate_zero, List.nil_append, List.cons_append, List.append_nil, List.foldl_cons, List.foldl_nil, List.map_cons, List.map_nil, List.all_cons, List.all_nil, List.set_cons_zero, List.set_cons_succ, List.getD_cons_zero, List.getD_cons_succ, List.drop_zero, List.drop_succ_cons, List.take_succ_cons, List.take_zero, List.flatten_cons, List.flatten_nil, Bool.true_and, Bool.and_true, Bool.not_true, Bool.not_false, true_and, and_true, true_or, or_true, Option.bind_some, Option.map_some, decide_true, decide_false, beq_self_eq_true, true_implies, false_implies, implies_true, not_true_eq_false, not_false_eq_true, and_self, Bool.and_false, Bool.false_and, Nat.reduceLT, Nat.reduceLeDiff, List.reverse_cons, List.reverse_nil, Nat.zero_add, Nat.add_zero, Bool.false_eq_true, List.getElem?_cons_zero, Nat.reduceMul, Nat.mul_one, DeedG.row, Z3z, oSt3, tHv, F5, G5, at_Has, F6, G6, at_act_b]
    have w3 : j < x.deeds.length → IntKind.i64.wrap ((j : Int) + 1) = ((j + 1 : Nat) : Int) := fun h => Z43 (n := x.deeds.length) h (by unfold maxLen; omega)
    refine ⟨fun d => ⟨hrl, fun h1 => ⟨fun h2 => by rw [w3 (by omega)]; exact Z1p.mk [0] (j + 1) (by simp) (by simp) (by simp only [State.can, AV.can, AV.canL, HO.can, Z0s, idx, Z01, Z00, Heap.at, Nat.reduceBEq, ↓reduceIte, Nat.reduceEqDiff, Option.getD_some, Option.map_some, List.map_cons, List.map_nil, List.getD_cons_zero, List.getD_cons_succ, oSt3, tHv]) (by omega) (by omega), fun h2 => ⟨hcl, fun _ => by rw [w3 (by omega)]; exact Z1p.mk [0] (j + 1) (by simp) (by simp) (by simp only [State.can, AV.can, AV.canL, HO.can, Z0s, idx, Z01, Z00, Heap.at, Nat.reduceBEq, ↓reduceIte, Nat.reduceEqDiff, Option.getD_some, Option.map_some, List.map_cons, List.map_nil, List.getD_cons_zero, List.getD_cons_succ, oSt3, tHv]) (by omega) (by omega), fun h3 => ?_⟩⟩, fun _ => by rw [w3 (by omega)]; exact Z1p.mk [0] (j + 1) (by simp) (by simp) (by simp only [State.can, AV.can, AV.canL, HO.can, Z0s, idx, Z01, Z00, Heap.at, Nat.reduceBEq, ↓reduceIte, Nat.reduceEqDiff, Option.getD_some, Option.map_some, List.map_cons, List.map_nil, List.getD_cons_zero, List.getD_cons_succ, oSt3, tHv]) (by omega) (by omega)⟩, fun d => ?_⟩
    · rw [hasI_nat] at h1 h3
      rw [own_r B hc (by omega) (by omega) (by omega) ht hl2 hW h1 (by omega)] at h3; cases h3
    · rw [w2]; exact Z1p.mk [0] (k + 1) (by simp) (by simp) (by simp only [State.can, AV.can, AV.canL, HO.can, Z0s, idx, Z01, Z00, Heap.at, Nat.reduceBEq, ↓reduceIte, Nat.reduceEqDiff, Option.getD_some, Option.map_some, List.map_cons, List.map_nil, List.getD_cons_zero, List.getD_cons_succ, oSt2, tHv]) (by omega) (by omega)
end Go.Ago

/- rel.lay in a cut that lacks Minus, or Inter too. Conditions: none. -/
set_option maxRecDepth 100000
set_option linter.unusedVariables false
namespace Go.Ago
theorem bodyM_rel_lay {T : Tab} {n1 n2 n_rel_Union_1 n_rel_Inter_1 n_rel_Plus_1 : Nat} (k1 : Knows T n1 sp_size) (k2 : Knows T n2 sp_row) (k3 : Knows T n_rel_Union_1 (sp_h2 orW)) (k4 : Knows T n_rel_Inter_1 (sp_h2 andW))
    (k6 : Knows T n_rel_Plus_1 (sp_h2 fstW)) : (sp_lay (hs4 n_rel_Union_1 n_rel_Inter_1 n_rel_Union_1 n_rel_Plus_1)).Body T V_rel_lay (L_rel_lay n1 n2) R_rel_lay := by
  rintro ⟨A, e, B, f, g⟩
  simp only [sp_lay, hs4]
  split
  · rename_i h hh
    split at hh
    · rename_i e; cases hh; rw [e]; exact lay_body k1 k2 k3 A B _ f
    · rename_i h1
      split at hh
      · rename_i e; cases hh; rw [e]; exact lay_body k1 k2 k4 A B _ f
      · split at hh
        · rename_i e; cases hh; rw [e]; exact lay_body k1 k2 k6 A B _ f
        · cases hh
  · trivial
end Go.Ago
