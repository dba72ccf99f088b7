/- Chapter 23: Build. Conditions: none. -/
import Derived.Test.YtmknnljemhajoaaDoorAgoP5
import Derived.Test.YtmknnljemhajoaaDoorAgoP4
set_option maxRecDepth 100000
set_option linter.unusedSimpArgs false
set_option linter.unusedVariables false
namespace Go.Ago
attribute [local irreducible] vck
theorem body_slices_Equal_int {T : Tab} : sp_sameI.Body T V_slices_Equal_int L_slices_Equal_int R_slices_Equal_int := by
  rintro ⟨a, f, b, g⟩ hlen
  refine .inl ⟨rfl, ?_⟩
  unfold V_slices_Equal_int L_slices_Equal_int R_slices_Equal_int
  simp only [↓Z19, ↓Z26, ↓Z1z, ↓Z05, ↓Z2m, ↓Z2l, Z4b, Z4g, ↓Z1l, ↓Z17, ↓Z0h, ↓Z20, ↓Z0k, ↓Z1k, ↓Z31, ↓Z30, ↓Z24, ↓Z1x, ↓Z2o, ↓Z2c, ↓Z1j, ↓Z3b, ↓Z4c, ↓Z3l, ↓Z3n, ↓Z3m, ↓Z3y, ↓Z3w, ↓Z48, ↓Z0i, ↓Z09, ↓Z18, ↓Z0g, ↓Z1o, Z49, Z07, Z1b, Z32, Z1a, Z35, evN, Z2g, Z1g, Z34, Z41, Z1f, Z15, Z1e, Z2v, Z2h, Z29, Z1h, Z2a, evT, Opd.ev, Z02, Z00, Z33, Z3z, Z3q, Z27, Z1n, Z28, Z2b, Z3j, Z1m, Z0l, Z3o, LOp.isNew, State.prune, Z3u, Z37, AV.leaf, Heap.at, Z0j, Z0a, Z1i, Z0e, Z03, idx_I, idx_W, rowW, Z2f, Z2w, Z21, Z1c, rowB, Z2y, Z2x, rowN, Z4i, Z3p, Z1d, Z16, w_or, w_and, Z2z, Z4d, w_shl, Z43, w_shr, Z4e, w_neg, w_add, w_bit, w_eq0, w_eq1, w_eq, Bool.decide_eq_true, Z3f, Z3e, Z3i, Z2p, Z1p, Z04, Z0b, Z0n, Z01, Z1y, rowI, RatG.row, LocG.row, ActG.row, StepG.row, StampG.row, ActG.av, ActG.eta, RatG.eta, LocG.eta, beq_true, beq_false, Z2k, Z2u, Z2n, Z2t, Z12, Z0q, Z10, Z11, Z0p, Z0o, Z0c, List.length_set, List.length_replicate, Z06, Int.reduceToNat, Z4t, Z2d, Z4a, Src.all, Src.len, Src.leaf, Src.leafN, Z3a, Z44, Z4p, Z0m, Z0r, Z0s, Z0t, Z0u, Z0v, Z0w, Z0x, Z4r, drows, evMk, List.length_map, Z1w, Z22, List.take_length, List.take_left, List.length_append, Nat.le_add_right, ite_self, List.take_of_length_le, Z3d, Z4n, Z42, Option.isSome_none, Option.isSome_some, Nat.sub_zero, Z4m, Z4v, Z4l, evUn, Z13, Z14, binT, binQ, chk, Z3v, List.contains_cons, List.contains_nil, Bool.or_false, Bool.false_or, Bool.and_self, resQ, resV, resT, Z4u, Z2e, Z47, Z3g, fnOf, Z3c, isD, HO.drow, Z4j, Z3x, evEq, eqV, eqK, eqC1, Z45, Z40, Z39, Z38, Z4f, Z3k, Z2s, Z1s, Z2r, Z1r, Z2q, Z1q, Z1t, Z0y, Z0z, Z0d, List.mem_cons, List.not_mem_nil, or_false, forall_eq, putRow, Z3r, Z23, RetS, RetF, RetD, AV.frz, AV.frzL, AV.freshP, AV.freshL, DV.less, Z2i, Z1u, Z2j, Z1v, Z0f, Z08, Option.some.injEq, AV.tup.injEq, AV.agg.injEq, List.cons.injEq, DV.list.injEq, List.isEmpty_nil, Nat.le_refl, AV.d.injEq, DV.int.injEq, DV.bool.injEq, ↓reduceIte, Nat.reduceEqDiff, Nat.reduceAdd, Nat.reduceBEq, List.length_cons, List.length_nil, List.replicate_succ, List.replicate_zero, List.nil_append, List.cons_append, List.append_nil, List.foldl_cons, List.foldl_nil, List.map_cons, List.map_nil, List.all_cons, List.all_nil, List.set_cons_zero, List.set_cons_succ, List.getD_cons_zero, List.getD_cons_succ, List.drop_zero, List.drop_succ_cons, List.take_succ_cons, List.take_zero, List.flatten_cons, List.flatten_nil, Bool.true_and, Bool.and_true, Bool.not_true, Bool.not_false, true_and, and_true, true_or, or_true, Option.bind_some, Option.map_some, decide_true, decide_false, beq_self_eq_true, true_implies, false_implies, implies_true, not_true_eq_false, not_false_eq_true, and_self, Bool.and_false, Bool.false_and, Nat.reduceLT, Nat.reduceLeDiff, List.reverse_cons, List.reverse_nil, Nat.zero_add, Nat.add_zero, Bool.false_eq_true, List.getElem?_cons_zero, Nat.reduceMul, Nat.mul_one, sp_sameI]
  have hm : maxLen = 9223372036854775807 := rfl
  have hlen : a.length ≤ maxLen := hlen
  refine ⟨fun h => ?_, fun h => ?_⟩
  · have hab : a.length = b.length := by omega
    refine Loop.fam [0, 1, 12, 13] (fun i : Nat => ⟨[(0, .d (.list (a.map rowI) f)), (1, .d (.list (b.map rowI) g)), (12, .d (.int .i64 a.length)), (13, .d (.int .i64 (i : Nat)))], []⟩) (fun i => i ≤ a.length ∧ a.take i = b.take i) (fun i => a.length - i) 0 [] (by simp) (by simp)
      (by simp only [State.can, AV.can, AV.canL, HO.can, Z25, idx, Z02, Z00, Heap.at, Nat.reduceBEq, ↓reduceIte, Nat.reduceEqDiff, Option.getD_some, Option.map_some, List.map_cons, List.map_nil, List.getD_cons_zero, List.getD_cons_succ]; rfl) ⟨by omega, by simp⟩ ?_
    rintro i ⟨h1, h2⟩
    simp only [↓Z19, ↓Z26, ↓Z1z, ↓Z05, ↓Z2m, ↓Z2l, Z4b, Z4g, ↓Z1l, ↓Z17, ↓Z0h, ↓Z20, ↓Z0k, ↓Z1k, ↓Z31, ↓Z30, ↓Z24, ↓Z1x, ↓Z2o, ↓Z2c, ↓Z1j, ↓Z3b, ↓Z4c, ↓Z3l, ↓Z3n, ↓Z3m, ↓Z3y, ↓Z3w, ↓Z48, ↓Z0i, ↓Z09, ↓Z18, ↓Z0g, ↓Z1o, Z49, Z07, Z1b, Z32, Z1a, Z35, evN, Z2g, Z1g, Z34, Z41, Z1f, Z15, Z1e, Z2v, Z2h, Z29, Z1h, Z2a, evT, Opd.ev, Z02, Z00, Z33, Z3z, Z3q, Z27, Z1n, Z28, Z2b, Z3j, Z1m, Z0l, Z3o, LOp.isNew, State.prune, Z3u, Z37, AV.leaf, Heap.at, Z0j, Z0a, Z1i, Z0e, Z03, idx_I, idx_W, rowW, Z2f, Z2w, Z21, Z1c, rowB, Z2y, Z2x, rowN, Z4i, Z3p, Z1d, Z16, w_or, w_and, Z2z, Z4d, w_shl, Z43, w_shr, Z4e, w_neg, w_add, w_bit, w_eq0, w_eq1, w_eq, Bool.decide_eq_true, Z3f, Z3e, Z3i, Z2p, Z1p, Z04, Z0b, Z0n, Z01, Z1y, rowI, RatG.row, LocG.row, ActG.row, StepG.row, StampG.row, ActG.av, ActG.eta, RatG.eta, LocG.eta, beq_true, beq_false, Z2k, Z2u, Z2n, Z2t, Z12, Z0q, Z10, Z11, Z0p, Z0o, Z0c, List.length_set, List.length_replicate, Z06, Int.reduceToNat, Z4t, Z2d, Z4a, Src.all, Src.len, Src.leaf, Src.leafN, Z3a, Z44, Z4p, Z0m, Z0r, Z0s, Z0t, Z0u, Z0v, Z0w, Z0x, Z4r, drows, evMk, List.length_map, Z1w, Z22, List.take_length, List.take_left, List.length_append, Nat.le_add_right, ite_self, List.take_of_length_le, Z3d, Z4n, Z42, Option.isSome_none, Option.isSome_some, Nat.sub_zero, Z4m, Z4v, Z4l, evUn, Z13, Z14, binT, binQ, chk, Z3v, List.contains_cons, List.contains_nil, Bool.or_false, Bool.false_or, Bool.and_self, resQ, resV, resT, Z4u, Z2e, Z47, Z3g, fnOf, Z3c, isD, HO.drow, Z4j, Z3x, evEq, eqV, eqK, eqC1, Z45, Z40, Z39, Z38, Z4f, Z3k, Z2s, Z1s, Z2r, Z1r, Z2q, Z1q, Z1t, Z0y, Z0z, Z0d, List.mem_cons, List.not_mem_nil, or_false, forall_eq, putRow, Z3r, Z23, RetS, RetF, RetD, AV.frz, AV.frzL, AV.freshP, AV.freshL, DV.less, Z2i, Z1u, Z2j, Z1v, Z0f, Z08, Option.some.injEq, AV.tup.injEq, AV.agg.injEq, List.cons.injEq, DV.list.injEq, List.isEmpty_nil, Nat.le_refl, AV.d.injEq, DV.int.injEq, DV.bool.injEq, ↓reduceIte, Nat.reduceEqDiff, Nat.reduceAdd, Nat.reduceBEq, List.length_cons, List.length_nil, List.replicate_succ, List.replicate_zero, List.nil_append, List.cons_append, List.append_nil, List.foldl_cons, List.foldl_nil, List.map_cons, List.map_nil, List.all_cons, List.all_nil, List.set_cons_zero, List.set_cons_succ, List.getD_cons_zero, List.getD_cons_succ, List.drop_zero, List.drop_succ_cons, List.take_succ_cons, List.take_zero, List.flatten_cons, List.flatten_nil, Bool.true_and, Bool.and_true, Bool.not_true, Bool.not_false, true_and, and_true, true_or, or_true, Option.bind_some, Option.map_some, decide_true, decide_false, beq_self_eq_true, true_implies, false_implies, implies_true, not_true_eq_false, not_false_eq_true, and_self, Bool.and_false, Bool.false_and, Nat.reduceLT, Nat.reduceLeDiff, List.reverse_cons, List.reverse_nil, Nat.zero_add, Nat.add_zero, Bool.false_eq_true, List.getElem?_cons_zero, Nat.reduceMul, Nat.mul_one]
    refine ⟨fun h3 => ?_, fun h3 => ?_⟩
    · have h3 : i < a.length := by omega
      rw [Z4h h3 hlen]
      refine ⟨⟨by omega, by omega⟩, ⟨by omega, by omega⟩, fun h4 => ?_, fun h4 => ?_⟩
      · exact Z36.mk [] (i + 1) (by simp) (by simp) (by simp only [State.can, AV.can, AV.canL, HO.can, Z25, idx, Z02, Z00, Heap.at, Nat.reduceBEq, ↓reduceIte, Nat.reduceEqDiff, Option.getD_some, Option.map_some, List.map_cons, List.map_nil, List.getD_cons_zero, List.getD_cons_succ]) ⟨by omega, take_next (d := default) h2 h3 (by omega) h4⟩ (by omega)
      · simp only [Bool.false_eq, decide_eq_false_iff_not]
        intro e; subst e; exact h4 rfl
    · have : i = a.length := by omega
      subst this
      exact (decide_eq_true (take_all h2 hab)).symm
  · simp only [Bool.false_eq, decide_eq_false_iff_not]
    intro e; subst e; exact h rfl
theorem take_sortI (l : List Int) : (sortI l).take l.length = sortI l := List.take_of_length_le (by rw [sortI_len]; exact Nat.le_refl _)
def okR (D : List DeedG) (w : Int) (i : Nat) : Bool :=
  decide (0 ≤ w) && decide (w < D.length) && !decide (w = i) && (D.getD w.toNat default).act.isW && decide ((D.getD w.toNat default).act.loc = (D.getD i default).act.loc) && decide ((D.getD w.toNat default).act.new = (D.getD i default).act.old)
/-- The readers so far: what is left to be read from, and who reads from whom. -/
def rdG (D : List DeedG) (fr : List Int) : Nat → Option (List Int × List RatG)
  | 0 => some (fr, [])
  | i + 1 => match rdG D fr i with
    | none => none
    | some (r, ps) => if (D.getD i default).act.isR then (match r with
      | [] => none
      | w :: r' => if okR D w i then some (r', ps ++ [⟨w, i⟩]) else none) else some (r, ps)
theorem rd_no {D : List DeedG} {fr r : List Int} {ps : List RatG} {i : Nat} (h : rdG D fr i = some (r, ps)) (hR : (D.getD i default).act.isR = false) : rdG D fr (i + 1) = some (r, ps) := by
  unfold rdG; rw [h]; simp only [hR]; rfl
theorem rd_yes {D : List DeedG} {fr r : List Int} {ps : List RatG} {i : Nat} (h : rdG D fr i = some (r, ps)) (hR : (D.getD i default).act.isR = true) (h0 : r ≠ []) (hk : okR D (r.getD 0 default) i = true) : rdG D fr (i + 1) = some (r.drop 1, ps ++ [⟨r.getD 0 default, i⟩]) := by
  unfold rdG; rw [h]; simp only [hR]
  cases r with
  | nil => exact absurd rfl h0
  | cons w r =>
    have hk : okR D w i = true := hk
    simp only [if_true, hk]; rfl
theorem rd_end {D : List DeedG} {fr : List Int} {ps : List RatG} {i : Nat} (h : rdG D fr i = some ([], ps)) (hR : (D.getD i default).act.isR = true) : rdG D fr (i + 1) = none := by
  unfold rdG; rw [h]; simp only [hR, if_true]
theorem rd_bad {D : List DeedG} {fr r : List Int} {ps : List RatG} {i : Nat} (h : rdG D fr i = some (r, ps)) (hR : (D.getD i default).act.isR = true) (hk : okR D (r.getD 0 default) i = false) : rdG D fr (i + 1) = none := by
  unfold rdG; rw [h]; simp only [hR, if_true]
  cases r with
  | nil => rfl
  | cons w r =>
    have hk : okR D w i = false := hk
    simp only [hk]; rfl
theorem rd_none {D : List DeedG} {fr : List Int} {i n : Nat} (h : rdG D fr i = none) (hn : i ≤ n) : rdG D fr n = none := by
  induction n with
  | zero => rwa [show i = 0 by omega] at h
  | succ n ih =>
    by_cases e : i = n + 1
    · rwa [← e]
    · unfold rdG; rw [ih (by omega)]
def wantTo (D : List DeedG) (n : Nat) (loc : Nat) : Nat → List Int
  | 0 => []
  | i + 1 => if n ≤ i ∧ (D.getD i default).act.isW = true ∧ (D.getD i default).act.loc = loc then wantTo D n loc i ++ [(i : Int)] else wantTo D n loc i
/-- The pairs that begin at a place of a list. -/
def pairsAt (a : List Int) (i : Nat) (k : Nat) : List RatG := ((a.drop (i + 1)).take k).map fun x => ⟨a.getD i default, x⟩
def pairsTo (a : List Int) : Nat → List RatG
  | 0 => []
  | i + 1 => pairsTo a i ++ pairsAt a i (a.length - (i + 1))
def coG (D : List DeedG) (n : Nat) (order : List (List Int × Bool)) : Nat → Option (List RatG)
  | 0 => some []
  | t + 1 => match coG D n order t with
    | none => none
    | some ps => if sortI (order.getD t default).1 = wantTo D n t D.length then some (ps ++ pairsTo ((t : Int) :: (order.getD t default).1) ((order.getD t default).1.length + 1)) else none
theorem deeds_le (l : List LocG) (acts : List (List ActG × Bool)) : (deedsG l acts).1.length ≤ 64 := by
  unfold deedsG
  split
  · simp
  · split
    · simp
    · split
      · simp
      · simp only; omega
theorem co_none {D : List DeedG} {n : Nat} {order : List (List Int × Bool)} {i k : Nat} (h : coG D n order i = none) (hk : i ≤ k) : coG D n order k = none := by
  induction k with
  | zero => rwa [show i = 0 by omega] at h
  | succ k ih =>
    by_cases e : i = k + 1
    · rwa [← e]
    · unfold coG; rw [ih (by omega)]
def WG.none : WG := ⟨[], false, [], false, [], false, [], false⟩
def buildG (l : List LocG) (acts : List (List ActG × Bool)) (fr : List Int) (order : List (List Int × Bool)) : WG × Int :=
  if (deedsG l acts).2 ≠ 0 then (WG.none, (deedsG l acts).2) else
  match rdG (deedsG l acts).1 fr (deedsG l acts).1.length with
  | .none => (WG.none, 3)
  | some (rest, rf) => if rest ≠ [] ∨ order.length ≠ l.length then (WG.none, 3) else
    match coG (deedsG l acts).1 l.length order l.length with
    | .none => (WG.none, 3)
    | some co => (⟨l, false, (deedsG l acts).1, false, ofG (deedsG l acts).1.length rf, false, ofG (deedsG l acts).1.length co, false⟩, 0)
def smallB (l : List LocG) (acts : List (List ActG × Bool)) (fr : List Int) (order : List (List Int × Bool)) : Prop := smallA l acts ∧ fr.length ≤ 100 ∧ order.length ≤ 20 ∧ ∀ x ∈ order, x.1.length ≤ 100
def sp_Build : Sp := ⟨(List LocG × Bool × List (List ActG × Bool) × Bool) × (List Int × Bool × List (List Int × Bool) × Bool), fun x => [.d (.list (x.1.1.map LocG.row) x.1.2.1), .d (.list (x.1.2.2.1.map rowLA) x.1.2.2.2), .d (.list (x.2.1.map rowI) x.2.2.1), .d (.list (x.2.2.2.1.map rowLI) x.2.2.2.2)],
  fun x => .data (smallB x.1.1 x.1.2.2.1 x.2.1 x.2.2.2.1) (.tup [(buildG x.1.1 x.1.2.2.1 x.2.1 x.2.2.2.1).1.av, .d (.int .i64 (buildG x.1.1 x.1.2.2.1 x.2.1 x.2.2.2.1).2)]) false⟩
theorem at_Build (l : List LocG) (f : Bool) (acts : List (List ActG × Bool)) (g : Bool) (fr : List Int) (ff : Bool) (order : List (List Int × Bool)) (og : Bool) : sp_Build.at [.d (.list (l.map LocG.row) f), .d (.list (acts.map rowLA) g), .d (.list (fr.map rowI) ff), .d (.list (order.map rowLI) og)] =
    .data (smallB l acts fr order) (.tup [(buildG l acts fr order).1.av, .d (.int .i64 (buildG l acts fr order).2)]) false :=
  Sp.at_enc (s := sp_Build) (fun x y h => by
    obtain ⟨⟨a, b, c, d⟩, e, f, g, i⟩ := x; obtain ⟨⟨a', b', c', d'⟩, e', f', g', i'⟩ := y
    simp only [sp_Build, List.cons.injEq, AV.d.injEq, DV.list.injEq, and_true] at h
    obtain ⟨⟨h1, h2⟩, ⟨h3, h4⟩, ⟨h5, h6⟩, h7, h8⟩ := h
    rw [Z3t LocG.row_inj h1, h2, Z3t rowLA_inj h3, h4, Z3t rowI_inj h5, h6, Z3t rowLI_inj h7, h8]) ((l, f, acts, g), fr, ff, order, og)
def rSt (l : List LocG) (f : Bool) (D : List DeedG) (order : List (List Int × Bool)) (og : Bool) (x : Nat × (List Int × Bool) × List RatG) : State :=
  ⟨[(0, .d (.list (l.map LocG.row) f)), (2, .d (.list (x.2.1.1.map rowI) x.2.1.2)), (3, .d (.list (order.map rowLI) og)), (8, .ptr 0 4 0 0), (10, .d (.list (D.map DeedG.row) false)), (12, .ref 1 2 0 x.2.2.length true), (13, .d (.list [] true)), (38, .d (.list (D.map DeedG.row) false)), (39, .d (.int .i64 D.length)), (40, .d (.int .i64 x.1))],
    [.vec 4 [[.d (.list [] true), .d (.list [] true), .d (.list [] true), .d (.list [] true)]], .dvec 2 (x.2.2.map RatG.row)]⟩
def rInv (D : List DeedG) (fr : List Int) (x : Nat × (List Int × Bool) × List RatG) : Prop := x.1 ≤ D.length ∧ rdG D fr x.1 = some (x.2.1.1, x.2.2) ∧ x.2.1.1.length ≤ fr.length ∧ x.2.2.length ≤ x.1
def cSt (l : List LocG) (f : Bool) (D : List DeedG) (order : List (List Int × Bool)) (og : Bool) (ps : List RatG) (x : Nat × List RatG) : State :=
  ⟨[(0, .d (.list (l.map LocG.row) f)), (8, .ptr 0 4 0 0), (10, .d (.list (D.map DeedG.row) false)), (12, .ref 1 2 0 ps.length true), (13, .ref 2 2 0 x.2.length true), (121, .d (.list (order.map rowLI) og)), (122, .d (.int .i64 order.length)), (123, .d (.int .i64 x.1))],
    [.vec 4 [[.d (.list [] true), .d (.list [] true), .d (.list [] true), .d (.list [] true)]], .dvec 2 (ps.map RatG.row), .dvec 2 (x.2.map RatG.row)]⟩
def cInv (D : List DeedG) (n : Nat) (order : List (List Int × Bool)) (x : Nat × List RatG) : Prop := x.1 ≤ order.length ∧ coG D n order x.1 = some x.2 ∧ x.2.length ≤ 10201 * x.1
def wSt (l : List LocG) (f : Bool) (D : List DeedG) (order : List (List Int × Bool)) (og : Bool) (ps co : List RatG) (t : Nat) (i : Nat) : State :=
  ⟨[(0, .d (.list (l.map LocG.row) f)), (8, .ptr 0 4 0 0), (10, .d (.list (D.map DeedG.row) false)), (12, .ref 1 2 0 ps.length true), (13, .ref 2 2 0 co.length true), (17, .d (.int .i64 t)), (18, .d (.list ((order.getD t default).1.map rowI) (order.getD t default).2)), (19, .ref 3 1 0 (wantTo D l.length t i).length true),
     (121, .d (.list (order.map rowLI) og)), (122, .d (.int .i64 order.length)), (123, .d (.int .i64 t)), (128, .d (.list (D.map DeedG.row) false)), (129, .d (.int .i64 D.length)), (130, .d (.int .i64 i))],
    [.vec 4 [[.d (.list [] true), .d (.list [] true), .d (.list [] true), .d (.list [] true)]], .dvec 2 (ps.map RatG.row), .dvec 2 (co.map RatG.row), .dvec 1 ((wantTo D l.length t i).map rowI)]⟩
theorem want_le (D : List DeedG) (n loc : Nat) : ∀ i, (wantTo D n loc i).length ≤ i
  | 0 => Nat.le_refl _
  | i + 1 => by
    have := want_le D n loc i
    unfold wantTo; split
    · rw [List.length_append, List.length_singleton]; omega
    · omega
theorem pairsAt_succ {a : List Int} {i k : Nat} (h : i + 1 + k < a.length) : pairsAt a i (k + 1) = pairsAt a i k ++ [⟨a.getD i default, a.getD (i + 1 + k) default⟩] := by
  unfold pairsAt
  rw [List.take_add_one, List.getElem?_drop, List.getElem?_eq_getElem h, List.map_append, List.getD_eq_getElem?_getD (i := i + 1 + k), List.getElem?_eq_getElem h]
  rfl
theorem pairsAt_le (a : List Int) (i k : Nat) : (pairsAt a i k).length ≤ a.length := by unfold pairsAt; rw [List.length_map, List.length_take, List.length_drop]; omega
theorem pairsTo_le (a : List Int) : ∀ i, (pairsTo a i).length ≤ i * a.length
  | 0 => by simp [pairsTo]
  | i + 1 => by
    have := pairsTo_le a i
    have := pairsAt_le a i (a.length - (i + 1))
    rw [pairsTo, List.length_append, Nat.succ_mul]
    omega
def aSt (l : List LocG) (f : Bool) (D : List DeedG) (order : List (List Int × Bool)) (og : Bool) (ps : List RatG) (t : Nat) (a : List Int) (x : Nat × List RatG) : State :=
  ⟨[(0, .d (.list (l.map LocG.row) f)), (8, .ptr 0 4 0 0), (10, .d (.list (D.map DeedG.row) false)), (12, .ref 1 2 0 ps.length true), (13, .ref 2 2 0 x.2.length true), (23, .ref 3 1 0 a.length true), (121, .d (.list (order.map rowLI) og)), (122, .d (.int .i64 order.length)), (123, .d (.int .i64 t)), (169, .d (.int .i64 a.length)), (170, .d (.int .i64 x.1))],
    [.vec 4 [[.d (.list [] true), .d (.list [] true), .d (.list [] true), .d (.list [] true)]], .dvec 2 (ps.map RatG.row), .dvec 2 (x.2.map RatG.row), .dvec 1 (a.map rowI)]⟩
def aInv (a : List Int) (co : List RatG) (x : Nat × List RatG) : Prop := x.1 ≤ a.length ∧ x.2 = co ++ pairsTo a x.1
def pSt (l : List LocG) (f : Bool) (D : List DeedG) (order : List (List Int × Bool)) (og : Bool) (ps : List RatG) (t : Nat) (a : List Int) (i : Nat) (x : Nat × List RatG) : State :=
  ⟨[(0, .d (.list (l.map LocG.row) f)), (8, .ptr 0 4 0 0), (10, .d (.list (D.map DeedG.row) false)), (12, .ref 1 2 0 ps.length true), (13, .ref 2 2 0 x.2.length true), (23, .ref 3 1 0 a.length true), (24, .d (.int .i64 i)), (121, .d (.list (order.map rowLI) og)), (122, .d (.int .i64 order.length)), (123, .d (.int .i64 t)), (169, .d (.int .i64 a.length)), (170, .d (.int .i64 i)),
     (176, .ref 3 1 (i + 1) (a.length - (i + 1)) true), (177, .d (.int .i64 (a.length - (i + 1) : Nat))), (178, .d (.int .i64 x.1))],
    [.vec 4 [[.d (.list [] true), .d (.list [] true), .d (.list [] true), .d (.list [] true)]], .dvec 2 (ps.map RatG.row), .dvec 2 (x.2.map RatG.row), .dvec 1 (a.map rowI)]⟩
def pInv (a : List Int) (co : List RatG) (i : Nat) (x : Nat × List RatG) : Prop := x.1 ≤ a.length - (i + 1) ∧ x.2 = co ++ (pairsTo a i ++ pairsAt a i x.1)
set_option maxHeartbeats 8000000 in
theorem body_axiom_Build {T : Tab} {n1 n2 n3 n4 n5 n6 n7 n8 : Nat} (k1 : Knows T n1 sp_Deeds) (k2 : Knows T n2 (sp_deed_b ActG.isR)) (k3 : Knows T n3 (sp_deed_b ActG.isW)) (k4 : Knows T n4 (cloneS 1 8)) (k5 : KnowsG T n5 ef_sortI.at) (k6 : Knows T n6 sp_sameI) (k7 : Knows T n7 (cloneS 2 16)) (k8 : Knows T n8 sp_Of) :
    sp_Build.Body T V_axiom_Build (L_axiom_Build n1 n2 n3 n4 n5 n6 n7 n8) R_axiom_Build := by
  have F1 := k1.F; have G1 := k1.G; have F2 := k2.F; have G2 := k2.G; have F3 := k3.F; have G3 := k3.G; have F4 := k4.F; have G4 := k4.G; have G5 := k5.G; have F6 := k6.F; have G6 := k6.G; have F7 := k7.F; have G7 := k7.G; have F8 := k8.F; have G8 := k8.G
  rintro ⟨⟨l, f, acts, g⟩, fr, ff, order, og⟩ ⟨hA, h1, h2, h3⟩
  have hA : smallA l acts := hA
  have h1 : fr.length ≤ 100 := h1
  have h2 : order.length ≤ 20 := h2
  have h3 : ∀ x ∈ order, x.1.length ≤ 100 := h3
  refine ⟨rfl, ?_⟩
  unfold V_axiom_Build L_axiom_Build R_axiom_Build
  simp (maxSteps := 3000000) only [↓Z19, ↓Z26, ↓Z1z, ↓Z05, ↓Z2m, ↓Z2l, Z4b, Z4g, ↓Z1l, ↓Z17, ↓Z0h, ↓Z20, ↓Z0k, ↓Z1k, ↓Z31, ↓Z30, ↓Z24, ↓Z1x, ↓Z2o, ↓Z2c, ↓Z1j, ↓Z3b, ↓Z4c, ↓Z3l, ↓Z3n, ↓Z3m, ↓Z3y, ↓Z3w, ↓Z48, ↓Z0i, ↓Z09, ↓Z18, ↓Z0g, ↓Z1o, Z49, Z07, Z1b, Z32, Z1a, Z35, evN, Z2g, Z1g, Z34, Z41, Z1f, Z15, Z1e, Z2v, Z2h, Z29, Z1h, Z2a, evT, Opd.ev, Z02, Z00, Z33, Z3z, Z3q, Z27, Z1n, Z28, Z2b, Z3j, Z1m, Z0l, Z3o, LOp.isNew, State.prune, Z3u, Z37, AV.leaf, Heap.at, Z0j, Z0a, Z1i, Z0e, Z03, idx_I, idx_W, rowW, Z2f, Z2w, Z21, Z1c, rowB, Z2y, Z2x, rowN, Z4i, Z3p, Z1d, Z16, w_or, w_and, Z2z, Z4d, w_shl, Z43, w_shr, Z4e, w_neg, w_add, w_bit, w_eq0, w_eq1, w_eq, Bool.decide_eq_true, Z3f, Z3e, Z3i, Z2p, Z1p, Z04, Z0b, Z0n, Z01, Z1y, rowI, RatG.row, LocG.row, ActG.row, StepG.row, StampG.row, ActG.av, ActG.eta, RatG.eta, LocG.eta, beq_true, beq_false, Z2k, Z2u, Z2n, Z2t, Z12, Z0q, Z10, Z11, Z0p, Z0o, Z0c, List.length_set, List.length_replicate, Z06, Int.reduceToNat, Z4t, Z2d, Z4a, Src.all, Src.len, Src.leaf, Src.leafN, Z3a, Z44, Z4p, Z0m, Z0r, Z0s, Z0t, Z0u, Z0v, Z0w, Z0x, Z4r, drows, evMk, List.length_map, Z1w, Z22, List.take_length, List.take_left, List.length_append, Nat.le_add_right, ite_self, List.take_of_length_le, Z3d, Z4n, Z42, Option.isSome_none, Option.isSome_some, Nat.sub_zero, Z4m, Z4v, Z4l, evUn, Z13, Z14, binT, binQ, chk, Z3v, List.contains_cons, List.contains_nil, Bool.or_false, Bool.false_or, Bool.and_self, resQ, resV, resT, Z4u, Z2e, Z47, Z3g, fnOf, Z3c, isD, HO.drow, Z4j, Z3x, evEq, eqV, eqK, eqC1, Z45, Z40, Z39, Z38, Z4f, Z3k, Z2s, Z1s, Z2r, Z1r, Z2q, Z1q, Z1t, Z0y, Z0z, Z0d, List.mem_cons, List.not_mem_nil, or_false, forall_eq, putRow, Z3r, Z23, RetS, RetF, RetD, AV.frz, AV.frzL, AV.freshP, AV.freshL, DV.less, Z2i, Z1u, Z2j, Z1v, Z0f, Z08, Option.some.injEq, AV.tup.injEq, AV.agg.injEq, List.cons.injEq, DV.list.injEq, List.isEmpty_nil, Nat.le_refl, AV.d.injEq, DV.int.injEq, DV.bool.injEq, ↓reduceIte, Nat.reduceEqDiff, Nat.reduceAdd, Nat.reduceBEq, List.length_cons, List.length_nil, List.replicate_succ, List.replicate_zero, List.nil_append, List.cons_append, List.append_nil, List.foldl_cons, List.foldl_nil, List.map_cons, List.map_nil, List.all_cons, List.all_nil, List.set_cons_zero, List.set_cons_succ, List.getD_cons_zero, List.getD_cons_succ, List.drop_zero, List.drop_succ_cons, List.take_succ_cons, List.take_zero, List.flatten_cons, List.flatten_nil, Bool.true_and, Bool.and_true, Bool.not_true, Bool.not_false, true_and, and_true, true_or, or_true, Option.bind_some, Option.map_some, decide_true, decide_false, beq_self_eq_true, true_implies, false_implies, implies_true, not_true_eq_false, not_false_eq_true, and_self, Bool.and_false, Bool.false_and, Nat.reduceLT, Nat.reduceLeDiff, List.reverse_cons, List.reverse_nil, Nat.zero_add, Nat.add_zero, Bool.false_eq_true, List.getElem?_cons_zero, Nat.reduceMul, Nat.mul_one, DeedG.row, idx_Deed, Z4k, Z46, lens_Deed, Z4s, idx_LA, rowLA_len, rowLA_get, idx_LI, rowLI_len, rowLI_get, sp_Build, F1, G1, F2, G2, F3, G3, F4, G4, G5, F6, G6, F7, G7, F8, G8, at_Deeds, at_deed_b, at_clone, at_sortI, sortIE_d, sortI_len, take_sortI, at_sameI, at_Of]
  refine ⟨hA, fun he => ?_, fun he => ?_⟩
  · generalize hD : (deedsG l acts).1 = D
    refine Loop.nilref 12 2 rfl (Nat.zero_le _) ?_
    refine Loop.fam [0, 2, 3, 8, 10, 12, 13, 38, 39, 40] (rSt l f D order og) (rInv D fr) (fun x => D.length - x.1) (0, (fr, ff), []) [0, 1] (by simp) (by simp) (by simp only [List.length_cons, List.length_nil, List.cons_append, List.nil_append, State.can, AV.can, AV.canL, HO.can, Z25, idx, Z02, Z00, Heap.at, Nat.reduceBEq, ↓reduceIte, Nat.reduceEqDiff, Option.getD_some, Option.map_some, List.map_cons, List.map_nil, List.getD_cons_zero, List.getD_cons_succ, rSt]; rfl) ⟨by omega, rfl, Nat.le_refl _, Nat.le_refl _⟩ ?_
    rintro ⟨i, ⟨r, rg⟩, ps⟩ ⟨i1, i2, i3, i4⟩
    simp (maxSteps := 3000000) only [↓Z19, ↓Z26, ↓Z1z, ↓Z05, ↓Z2m, ↓Z2l, Z4b, Z4g, ↓Z1l, ↓Z17, ↓Z0h, ↓Z20, ↓Z0k, ↓Z1k, ↓Z31, ↓Z30, ↓Z24, ↓Z1x, ↓Z2o, ↓Z2c, ↓Z1j, ↓Z3b, ↓Z4c, ↓Z3l, ↓Z3n, ↓Z3m, ↓Z3y, ↓Z3w, ↓Z48, ↓Z0i, ↓Z09, ↓Z18, ↓Z0g, ↓Z1o, Z49, Z07, Z1b, Z32, Z1a, Z35, evN, Z2g, Z1g, Z34, Z41, Z1f, Z15, Z1e, Z2v, Z2h, Z29, Z1h, Z2a, evT, Opd.ev, Z02, Z00, Z33, Z3z, Z3q, Z27, Z1n, Z28, Z2b, Z3j, Z1m, Z0l, Z3o, LOp.isNew, State.prune, Z3u, Z37, AV.leaf, Heap.at, Z0j, Z0a, Z1i, Z0e, Z03, idx_I, idx_W, rowW, Z2f, Z2w, Z21, Z1c, rowB, Z2y, Z2x, rowN, Z4i, Z3p, Z1d, Z16, w_or, w_and, Z2z, Z4d, w_shl, Z43, w_shr, Z4e, w_neg, w_add, w_bit, w_eq0, w_eq1, w_eq, Bool.decide_eq_true, Z3f, Z3e, Z3i, Z2p, Z1p, Z04, Z0b, Z0n, Z01, Z1y, rowI, RatG.row, LocG.row, ActG.row, StepG.row, StampG.row, ActG.av, ActG.eta, RatG.eta, LocG.eta, beq_true, beq_false, Z2k, Z2u, Z2n, Z2t, Z12, Z0q, Z10, Z11, Z0p, Z0o, Z0c, List.length_set, List.length_replicate, Z06, Int.reduceToNat, Z4t, Z2d, Z4a, Src.all, Src.len, Src.leaf, Src.leafN, Z3a, Z44, Z4p, Z0m, Z0r, Z0s, Z0t, Z0u, Z0v, Z0w, Z0x, Z4r, drows, evMk, List.length_map, Z1w, Z22, List.take_length, List.take_left, List.length_append, Nat.le_add_right, ite_self, List.take_of_length_le, Z3d, Z4n, Z42, Option.isSome_none, Option.isSome_some, Nat.sub_zero, Z4m, Z4v, Z4l, evUn, Z13, Z14, binT, binQ, chk, Z3v, List.contains_cons, List.contains_nil, Bool.or_false, Bool.false_or, Bool.and_self, resQ, resV, resT, Z4u, Z2e, Z47, Z3g, fnOf, Z3c, isD, HO.drow, Z4j, Z3x, evEq, eqV, eqK, eqC1, Z45, Z40, Z39, Z38, Z4f, Z3k, Z2s, Z1s, Z2r, Z1r, Z2q, Z1q, Z1t, Z0y, Z0z, Z0d, List.mem_cons, List.not_mem_nil, or_false, forall_eq, putRow, Z3r, Z23, RetS, RetF, RetD, AV.frz, AV.frzL, AV.freshP, AV.freshL, DV.less, Z2i, Z1u, Z2j, Z1v, Z0f, Z08, Option.some.injEq, AV.tup.injEq, AV.agg.injEq, List.cons.injEq, DV.list.injEq, List.isEmpty_nil, Nat.le_refl, AV.d.injEq, DV.int.injEq, DV.bool.injEq, ↓reduceIte, Nat.reduceEqDiff, Nat.reduceAdd, Nat.reduceBEq, List.length_cons, List.length_nil, List.replicate_succ, List.replicate_zero, List.nil_append, List.cons_append, List.append_nil, List.foldl_cons, List.foldl_nil, List.map_cons, List.map_nil, List.all_cons, List.all_nil, List.set_cons_zero, List.set_cons_succ, List.getD_cons_zero, List.getD_cons_succ, List.drop_zero, List.drop_succ_cons, List.take_succ_cons, List.take_zero, List.flatten_cons, List.flatten_nil, Bool.true_and, Bool.and_true, Bool.not_true, Bool.not_false, true_and, and_true, true_or, or_true, Option.bind_some, Option.map_some, decide_true, decide_false, beq_self_eq_true, true_implies, false_implies, implies_true, not_true_eq_false, not_false_eq_true, and_self, Bool.and_false, Bool.false_and, Nat.reduceLT, Nat.reduceLeDiff, List.reverse_cons, List.reverse_nil, Nat.zero_add, Nat.add_zero, Bool.false_eq_true, List.getElem?_cons_zero, Nat.reduceMul, Nat.mul_one, DeedG.row, idx_Deed, Z4k, Z46, lens_Deed, Z4s, idx_LA, rowLA_len, rowLA_get, idx_LI, rowLI_len, rowLI_get, rSt, F1, G1, F2, G2, F3, G3, F4, G4, G5, F6, G6, F7, G7, F8, G8, at_Deeds, at_deed_b, at_clone, at_sortI, sortIE_d, sortI_len, take_sortI, at_sameI, at_Of]
    have i1 : i ≤ D.length := i1
    have i2 : rdG D fr i = some (r, ps) := i2
    have i3 : r.length ≤ fr.length := i3
    have i4 : ps.length ≤ i := i4
    have hDl : D.length ≤ 64 := by rw [← hD]; exact deeds_le l acts
    have hfail : rdG D fr (i + 1) = none → i < D.length → buildG l acts fr order = (WG.none, 3) := fun h hi => by
      unfold buildG
      rw [if_neg (by rw [he]; simp), hD, rd_none h (by omega)]
    have hbad : ∀ {P : Prop}, (D.getD i default).act.isR = true → i < D.length → okR D (r.getD 0 default) i = false → (AV.agg [AV.d (DV.list [] false), AV.d (DV.list [] false), AV.d (DV.list [] false), AV.d (DV.list [] false)] = (buildG l acts fr order).fst.av ∧ 3 = (buildG l acts fr order).snd) := fun hR hi hk => by
      rw [hfail (rd_bad i2 hR hk) hi]; exact ⟨rfl, rfl⟩
    refine ⟨fun e => ?_, fun e => ?_⟩
    · have e' : i < D.length := by omega
      have w1 : IntKind.i64.wrap ((i : Int) + 1) = ((i + 1 : Nat) : Int) := by rw [wrap_id (by omega) (by omega)]; omega
      rw [w1]
      refine ⟨⟨by omega, by omega⟩, fun hR => ⟨fun h0 => ?_, fun h0 => ⟨by omega, by omega, fun c1 => ?_, fun c1 => ⟨fun c2 => ?_, fun c2 => ⟨fun c3 => ?_, fun c3 => ⟨by omega, fun c4 => ⟨by omega, fun c5 => ⟨by omega, fun c6 => ⟨roomy_of (by omega) (by omega), ?_⟩, fun c6 => ?_⟩, fun c5 => ?_⟩, fun c4 => ?_⟩⟩⟩⟩⟩, fun hR => ?_⟩
      · have hr : r = [] := List.length_eq_zero_iff.1 (by omega)
        subst hr
        rw [hfail (rd_end i2 hR) e']; exact ⟨rfl, rfl⟩
      · exact hbad (P := True) hR e' (by unfold okR; rw [decide_eq_false (by omega)]; simp)
      · exact hbad (P := True) hR e' (by unfold okR; rw [decide_eq_false (show ¬ r.getD 0 default < (D.length : Int) by omega)]; simp)
      · exact hbad (P := True) hR e' (by unfold okR; rw [decide_eq_true c3]; simp)
      · have hr0 : r ≠ [] := fun h => h0 (by rw [h]; rfl)
        have hk : okR D (r.getD 0 default) i = true := by
          unfold okR
          rw [decide_eq_true (show 0 ≤ r.getD 0 default by omega), decide_eq_true (show r.getD 0 default < (D.length : Int) by omega), decide_eq_false c3, c4, decide_eq_true c5, decide_eq_true c6]; rfl
        refine Z36.mk [0, 4] (i + 1, (r.drop 1, rg), ps ++ [⟨r.getD 0 default, i⟩]) (by simp) (by simp) (by simp only [State.can, AV.can, AV.canL, HO.can, Z25, idx, Z02, Z00, Heap.at, Nat.reduceBEq, ↓reduceIte, Nat.reduceEqDiff, Option.getD_some, Option.map_some, List.map_cons, List.map_nil, List.getD_cons_zero, List.getD_cons_succ, rSt, List.length_append, List.length_singleton]) ⟨by show i + 1 ≤ _; omega, rd_yes i2 hR hr0 hk, ?_, ?_⟩ (by show D.length - (i + 1) < D.length - i; omega)
        · show (r.drop 1).length ≤ _; rw [List.length_drop]; omega
        · show (ps ++ [_]).length ≤ i + 1; rw [List.length_append, List.length_singleton]; omega
      · exact hbad (P := True) hR e' (by unfold okR; rw [decide_eq_false c6]; simp)
      · exact hbad (P := True) hR e' (by unfold okR; rw [decide_eq_false c5]; simp)
      · exact hbad (P := True) hR e' (by unfold okR; rw [c4]; simp)
      · refine Z36.mk [0, 1] (i + 1, (r, rg), ps) (by simp) (by simp) (by simp only [State.can, AV.can, AV.canL, HO.can, Z25, idx, Z02, Z00, Heap.at, Nat.reduceBEq, ↓reduceIte, Nat.reduceEqDiff, Option.getD_some, Option.map_some, List.map_cons, List.map_nil, List.getD_cons_zero, List.getD_cons_succ, rSt]) ⟨by show i + 1 ≤ _; omega, rd_no i2 hR, i3, by show ps.length ≤ i + 1; omega⟩ (by show D.length - (i + 1) < D.length - i; omega)
    · have e' : i = D.length := by omega
      subst e'
      have hb3 : (r ≠ [] ∨ order.length ≠ l.length) → buildG l acts fr order = (WG.none, 3) := fun h => by
        unfold buildG
        rw [if_neg (by rw [he]; simp), hD, i2]
        simp only
        rw [if_pos h]
      refine ⟨fun c => ?_, fun c => ⟨fun c2 => ?_, fun c2 => ?_⟩⟩
      · rw [hb3 (.inl (fun h => by rw [h] at c; simp at c))]; exact ⟨rfl, rfl⟩
      · have hr : r = [] := List.length_eq_zero_iff.1 (by omega)
        subst hr
        have hol : order.length = l.length := by omega
        refine Loop.nilref 13 2 rfl (Nat.zero_le _) ?_
        refine Loop.fam [0, 8, 10, 12, 13, 121, 122, 123] (cSt l f D order og ps) (cInv D l.length order) (fun x => order.length - x.1) (0, []) [0, 1, 2] (by simp) (by simp) (by simp only [List.length_cons, List.length_nil, List.cons_append, List.nil_append, State.can, AV.can, AV.canL, HO.can, Z25, idx, Z02, Z00, Heap.at, Nat.reduceBEq, ↓reduceIte, Nat.reduceEqDiff, Option.getD_some, Option.map_some, List.map_cons, List.map_nil, List.getD_cons_zero, List.getD_cons_succ, cSt]; rfl) ⟨by omega, rfl, Nat.le_refl _⟩ ?_
        rintro ⟨t, co⟩ ⟨j1, j2, j3⟩
        have j1 : t ≤ order.length := j1
        have j2 : coG D l.length order t = some co := j2
        have j3 : co.length ≤ 10201 * t := j3
        simp (maxSteps := 3000000) only [↓Z19, ↓Z26, ↓Z1z, ↓Z05, ↓Z2m, ↓Z2l, Z4b, Z4g, ↓Z1l, ↓Z17, ↓Z0h, ↓Z20, ↓Z0k, ↓Z1k, ↓Z31, ↓Z30, ↓Z24, ↓Z1x, ↓Z2o, ↓Z2c, ↓Z1j, ↓Z3b, ↓Z4c, ↓Z3l, ↓Z3n, ↓Z3m, ↓Z3y, ↓Z3w, ↓Z48, ↓Z0i, ↓Z09, ↓Z18, ↓Z0g, ↓Z1o, Z49, Z07, Z1b, Z32, Z1a, Z35, evN, Z2g, Z1g, Z34, Z41, Z1f, Z15, Z1e, Z2v, Z2h, Z29, Z1h, Z2a, evT, Opd.ev, Z02, Z00, Z33, Z3z, Z3q, Z27, Z1n, Z28, Z2b, Z3j, Z1m, Z0l, Z3o, LOp.isNew, State.prune, Z3u, Z37, AV.leaf, Heap.at, Z0j, Z0a, Z1i, Z0e, Z03, idx_I, idx_W, rowW, Z2f, Z2w, Z21, Z1c, rowB, Z2y, Z2x, rowN, Z4i, Z3p, Z1d, Z16, w_or, w_and, Z2z, Z4d, w_shl, Z43, w_shr, Z4e, w_neg, w_add, w_bit, w_eq0, w_eq1, w_eq, Bool.decide_eq_true, Z3f, Z3e, Z3i, Z2p, Z1p, Z04, Z0b, Z0n, Z01, Z1y, rowI, RatG.row, LocG.row, ActG.row, StepG.row, StampG.row, ActG.av, ActG.eta, RatG.eta, LocG.eta, beq_true, beq_false, Z2k, Z2u, Z2n, Z2t, Z12, Z0q, Z10, Z11, Z0p, Z0o, Z0c, List.length_set, List.length_replicate, Z06, Int.reduceToNat, Z4t, Z2d, Z4a, Src.all, Src.len, Src.leaf, Src.leafN, Z3a, Z44, Z4p, Z0m, Z0r, Z0s, Z0t, Z0u, Z0v, Z0w, Z0x, Z4r, drows, evMk, List.length_map, Z1w, Z22, List.take_length, List.take_left, List.length_append, Nat.le_add_right, ite_self, List.take_of_length_le, Z3d, Z4n, Z42, Option.isSome_none, Option.isSome_some, Nat.sub_zero, Z4m, Z4v, Z4l, evUn, Z13, Z14, binT, binQ, chk, Z3v, List.contains_cons, List.contains_nil, Bool.or_false, Bool.false_or, Bool.and_self, resQ, resV, resT, Z4u, Z2e, Z47, Z3g, fnOf, Z3c, isD, HO.drow, Z4j, Z3x, evEq, eqV, eqK, eqC1, Z45, Z40, Z39, Z38, Z4f, Z3k, Z2s, Z1s, Z2r, Z1r, Z2q, Z1q, Z1t, Z0y, Z0z, Z0d, List.mem_cons, List.not_mem_nil, or_false, forall_eq, putRow, Z3r, Z23, RetS, RetF, RetD, AV.frz, AV.frzL, AV.freshP, AV.freshL, DV.less, Z2i, Z1u, Z2j, Z1v, Z0f, Z08, Option.some.injEq, AV.tup.injEq, AV.agg.injEq, List.cons.injEq, DV.list.injEq, List.isEmpty_nil, Nat.le_refl, AV.d.injEq, DV.int.injEq, DV.bool.injEq, ↓reduceIte, Nat.reduceEqDiff, Nat.reduceAdd, Nat.reduceBEq, List.length_cons, List.length_nil, List.replicate_succ, List.replicate_zero, List.nil_append, List.cons_append, List.append_nil, List.foldl_cons, List.foldl_nil, List.map_cons, List.map_nil, List.all_cons, List.all_nil, List.set_cons_zero, List.set_cons_succ, List.getD_cons_zero, List.getD_cons_succ, List.drop_zero, List.drop_succ_cons, List.take_succ_cons, List.take_zero, List.flatten_cons, List.flatten_nil, Bool.true_and, Bool.and_true, Bool.not_true, Bool.not_false, true_and, and_true, true_or, or_true, Option.bind_some, Option.map_some, decide_true, decide_false, beq_self_eq_true, true_implies, false_implies, implies_true, not_true_eq_false, not_false_eq_true, and_self, Bool.and_false, Bool.false_and, Nat.reduceLT, Nat.reduceLeDiff, List.reverse_cons, List.reverse_nil, Nat.zero_add, Nat.add_zero, Bool.false_eq_true, List.getElem?_cons_zero, Nat.reduceMul, Nat.mul_one, DeedG.row, idx_Deed, Z4k, Z46, lens_Deed, Z4s, idx_LA, rowLA_len, rowLA_get, idx_LI, rowLI_len, rowLI_get, cSt, F1, G1, F2, G2, F3, G3, F4, G4, G5, F6, G6, F7, G7, F8, G8, at_Deeds, at_deed_b, at_clone, at_sortI, sortIE_d, sortI_len, take_sortI, at_sameI, at_Of]
        refine ⟨fun d => ⟨⟨by omega, by omega⟩, ?_⟩, fun d => ?_⟩
        · have d' : t < order.length := by omega
          refine Loop.nilref 19 1 rfl (Nat.zero_le _) ?_
          refine Loop.fam [0, 8, 10, 12, 13, 17, 18, 19, 121, 122, 123, 128, 129, 130] (wSt l f D order og ps co t) (fun i => i ≤ D.length) (fun i => D.length - i) 0 [0, 1, 2, 3] (by simp) (by simp) (by simp only [List.length_cons, List.length_nil, List.cons_append, List.nil_append, State.can, AV.can, AV.canL, HO.can, Z25, idx, Z02, Z00, Heap.at, Nat.reduceBEq, ↓reduceIte, Nat.reduceEqDiff, Option.getD_some, Option.map_some, List.map_cons, List.map_nil, List.getD_cons_zero, List.getD_cons_succ, wSt]; rfl) (by omega) ?_
          intro i hi
          have hi : i ≤ D.length := hi
          have hwl := want_le D l.length t i
          simp (maxSteps := 3000000) only [↓Z19, ↓Z26, ↓Z1z, ↓Z05, ↓Z2m, ↓Z2l, Z4b, Z4g, ↓Z1l, ↓Z17, ↓Z0h, ↓Z20, ↓Z0k, ↓Z1k, ↓Z31, ↓Z30, ↓Z24, ↓Z1x, ↓Z2o, ↓Z2c, ↓Z1j, ↓Z3b, ↓Z4c, ↓Z3l, ↓Z3n, ↓Z3m, ↓Z3y, ↓Z3w, ↓Z48, ↓Z0i, ↓Z09, ↓Z18, ↓Z0g, ↓Z1o, Z49, Z07, Z1b, Z32, Z1a, Z35, evN, Z2g, Z1g, Z34, Z41, Z1f, Z15, Z1e, Z2v, Z2h, Z29, Z1h, Z2a, evT, Opd.ev, Z02, Z00, Z33, Z3z, Z3q, Z27, Z1n, Z28, Z2b, Z3j, Z1m, Z0l, Z3o, LOp.isNew, State.prune, Z3u, Z37, AV.leaf, Heap.at, Z0j, Z0a, Z1i, Z0e, Z03, idx_I, idx_W, rowW, Z2f, Z2w, Z21, Z1c, rowB, Z2y, Z2x, rowN, Z4i, Z3p, Z1d, Z16, w_or, w_and, Z2z, Z4d, w_shl, Z43, w_shr, Z4e, w_neg, w_add, w_bit, w_eq0, w_eq1, w_eq, Bool.decide_eq_true, Z3f, Z3e, Z3i, Z2p, Z1p, Z04, Z0b, Z0n, Z01, Z1y, rowI, RatG.row, LocG.row, ActG.row, StepG.row, StampG.row, ActG.av, ActG.eta, RatG.eta, LocG.eta, beq_true, beq_false, Z2k, Z2u, Z2n, Z2t, Z12, Z0q, Z10, Z11, Z0p, Z0o, Z0c, List.length_set, List.length_replicate, Z06, Int.reduceToNat, Z4t, Z2d, Z4a, Src.all, Src.len, Src.leaf, Src.leafN, Z3a, Z44, Z4p, Z0m, Z0r, Z0s, Z0t, Z0u, Z0v, Z0w, Z0x, Z4r, drows, evMk, List.length_map, Z1w, Z22, List.take_length, List.take_left, List.length_append, Nat.le_add_right, ite_self, List.take_of_length_le, Z3d, Z4n, Z42, Option.isSome_none, Option.isSome_some, Nat.sub_zero, Z4m, Z4v, Z4l, evUn, Z13, Z14, binT, binQ, chk, Z3v, List.contains_cons, List.contains_nil, Bool.or_false, Bool.false_or, Bool.and_self, resQ, resV, resT, Z4u, Z2e, Z47, Z3g, fnOf, Z3c, isD, HO.drow, Z4j, Z3x, evEq, eqV, eqK, eqC1, Z45, Z40, Z39, Z38, Z4f, Z3k, Z2s, Z1s, Z2r, Z1r, Z2q, Z1q, Z1t, Z0y, Z0z, Z0d, List.mem_cons, List.not_mem_nil, or_false, forall_eq, putRow, Z3r, Z23, RetS, RetF, RetD, AV.frz, AV.frzL, AV.freshP, AV.freshL, DV.less, Z2i, Z1u, Z2j, Z1v, Z0f, Z08, Option.some.injEq, AV.tup.injEq, AV.agg.injEq, List.cons.injEq, DV.list.injEq, List.isEmpty_nil, Nat.le_refl, AV.d.injEq, DV.int.injEq, DV.bool.injEq, ↓reduceIte, Nat.reduceEqDiff, Nat.reduceAdd, Nat.reduceBEq, List.length_cons, List.length_nil, List.replicate_succ, List.replicate_zero, List.nil_append, List.cons_append, List.append_nil, List.foldl_cons, List.foldl_nil, List.map_cons, List.map_nil, List.all_cons, List.all_nil, List.set_cons_zero, List.set_cons_succ, List.getD_cons_zero, List.getD_cons_succ, List.drop_zero, List.drop_succ_cons, List.take_succ_cons, List.take_zero, List.flatten_cons, List.flatten_nil, Bool.true_and, Bool.and_true, Bool.not_true, Bool.not_false, true_and, and_true, true_or, or_true, Option.bind_some, Option.map_some, decide_true, decide_false, beq_self_eq_true, true_implies, false_implies, implies_true, not_true_eq_false, not_false_eq_true, and_self, Bool.and_false, Bool.false_and, Nat.reduceLT, Nat.reduceLeDiff, List.reverse_cons, List.reverse_nil, Nat.zero_add, Nat.add_zero, Bool.false_eq_true, List.getElem?_cons_zero, Nat.reduceMul, Nat.mul_one, DeedG.row, idx_Deed, Z4k, Z46, lens_Deed, Z4s, idx_LA, rowLA_len, rowLA_get, idx_LI, rowLI_len, rowLI_get, wSt, F1, G1, F2, G2, F3, G3, F4, G4, G5, F6, G6, F7, G7, F8, G8, at_Deeds, at_deed_b, at_clone, at_sortI, sortIE_d, sortI_len, take_sortI, at_sameI, at_Of]
          have w1 : IntKind.i64.wrap ((i : Int) + 1) = ((i + 1 : Nat) : Int) := by rw [wrap_id (by omega) (by omega)]; omega
          rw [w1]
          refine ⟨fun e => ?_, fun e => ?_⟩
          · have e' : i < D.length := by omega
            have no : ∀ {S : State}, ¬ (l.length ≤ i ∧ (D.getD i default).act.isW = true ∧ (D.getD i default).act.loc = (t : Int)) → 4 ≤ S.heap.length → S.can [0, 1, 2, 3] [0, 8, 10, 12, 13, 17, 18, 19, 121, 122, 123, 128, 129, 130] =
                ⟨[(0, .d (.list (l.map LocG.row) f)), (8, .ptr 0 4 0 0), (10, .d (.list (D.map DeedG.row) false)), (12, .ref 1 2 0 ps.length true), (13, .ref 2 2 0 co.length true), (17, .d (.int .i64 t)), (18, .d (.list ((order.getD t default).1.map rowI) (order.getD t default).2)), (19, .ref 3 1 0 (wantTo D l.length t i).length true),
                   (121, .d (.list (order.map rowLI) og)), (122, .d (.int .i64 order.length)), (123, .d (.int .i64 t)), (128, .d (.list (D.map DeedG.row) false)), (129, .d (.int .i64 D.length)), (130, .d (.int .i64 (i + 1 : Nat)))],
                  [.vec 4 [[.d (.list [] true), .d (.list [] true), .d (.list [] true), .d (.list [] true)]], .dvec 2 (ps.map RatG.row), .dvec 2 (co.map RatG.row), .dvec 1 ((wantTo D l.length t i).map rowI)]⟩ →
                Z36 [0, 8, 10, 12, 13, 17, 18, 19, 121, 122, 123, 128, 129, 130] (wSt l f D order og ps co t) (fun i => i ≤ D.length) (fun i => D.length - i) (D.length - i) S := fun {S} hc hl hS =>
              Z36.mk [0, 1, 2, 3] (i + 1) (by simp) (by simp; omega) (by rw [hS]; unfold wSt; rw [show wantTo D l.length t (i + 1) = wantTo D l.length t i by rw [wantTo, if_neg hc]]) (by show i + 1 ≤ _; omega) (by show D.length - (i + 1) < D.length - i; omega)
            refine ⟨⟨by omega, by omega⟩, fun c1 => ⟨fun c2 => ⟨fun c3 => ⟨roomy_of (by omega) (by omega), ?_⟩, fun c3 => ?_⟩, fun c2 => ?_⟩, fun c1 => ?_⟩
            · have hw : wantTo D l.length t (i + 1) = wantTo D l.length t i ++ [(i : Int)] := by rw [wantTo, if_pos ⟨by omega, c2, c3⟩]
              exact Z36.mk [0, 1, 2, 6] (i + 1) (by simp) (by simp) (by unfold wSt; rw [hw]; simp only [State.can, AV.can, AV.canL, HO.can, Z25, idx, Z02, Z00, Heap.at, Nat.reduceBEq, ↓reduceIte, Nat.reduceEqDiff, Option.getD_some, Option.map_some, List.map_cons, List.map_nil, List.getD_cons_zero, List.getD_cons_succ, List.length_append, List.length_singleton]) (by show i + 1 ≤ _; omega) (by show D.length - (i + 1) < D.length - i; omega)
            · exact no (fun h => c3 h.2.2) (by simp) (by simp only [State.can, AV.can, AV.canL, HO.can, Z25, idx, Z02, Z00, Heap.at, Nat.reduceBEq, ↓reduceIte, Nat.reduceEqDiff, Option.getD_some, Option.map_some, List.map_cons, List.map_nil, List.getD_cons_zero, List.getD_cons_succ])
            · exact no (fun h => by rw [c2] at h; simp at h) (by simp) (by simp only [State.can, AV.can, AV.canL, HO.can, Z25, idx, Z02, Z00, Heap.at, Nat.reduceBEq, ↓reduceIte, Nat.reduceEqDiff, Option.getD_some, Option.map_some, List.map_cons, List.map_nil, List.getD_cons_zero, List.getD_cons_succ])
            · exact no (fun h => by omega) (by simp) (by simp only [State.can, AV.can, AV.canL, HO.can, Z25, idx, Z02, Z00, Heap.at, Nat.reduceBEq, ↓reduceIte, Nat.reduceEqDiff, Option.getD_some, Option.map_some, List.map_cons, List.map_nil, List.getD_cons_zero, List.getD_cons_succ])
          · have e' : i = D.length := by omega
            have hord : (order.getD t default).1.length ≤ 100 := by rw [getD_lt d']; exact h3 _ (List.getElem_mem _)
            have hno : sortI (order.getD t default).1 ≠ wantTo D l.length t D.length → buildG l acts fr order = (WG.none, 3) := fun h => by
              unfold buildG
              rw [if_neg (by rw [he]; simp), hD, i2]
              simp only
              rw [if_neg (by simp [hol]), co_none (i := t + 1) (by unfold coG; rw [j2]; simp only; rw [if_neg h]) (by omega)]
            rw [e']
            have hM : maxLen = 9223372036854775807 := rfl
            refine ⟨roomy_of (by omega) (by omega), by omega, by omega, fun hs => ⟨roomy_of (by omega) (by omega), ?_⟩, fun hs => by rw [hno hs]; exact ⟨rfl, rfl⟩⟩
            rw [Nat.add_comm 1]
            generalize ha : ((t : Int) :: (order.getD t default).1) = a
            have hal : a.length = (order.getD t default).1.length + 1 := by rw [← ha]; rfl
            have har : ([DV.int .i64 (t : Int)] :: List.map rowI (order.getD t default).1) = a.map rowI := by rw [← ha]; rfl
            rw [har, ← hal]
            refine Loop.fam [0, 8, 10, 12, 13, 23, 121, 122, 123, 169, 170] (aSt l f D order og ps t a) (aInv a co) (fun x => a.length - x.1) (0, co) [0, 1, 2, 6] (by simp) (by simp) (by simp only [State.can, AV.can, AV.canL, HO.can, Z25, idx, Z02, Z00, Heap.at, Nat.reduceBEq, ↓reduceIte, Nat.reduceEqDiff, Option.getD_some, Option.map_some, List.map_cons, List.map_nil, List.getD_cons_zero, List.getD_cons_succ, aSt, hal]; rfl) ⟨by omega, by simp [pairsTo]⟩ ?_
            rintro ⟨i2, co2⟩ ⟨q1, q2⟩
            have q1 : i2 ≤ a.length := q1
            have q2 : co2 = co ++ pairsTo a i2 := q2
            simp (maxSteps := 3000000) only [↓Z19, ↓Z26, ↓Z1z, ↓Z05, ↓Z2m, ↓Z2l, Z4b, Z4g, ↓Z1l, ↓Z17, ↓Z0h, ↓Z20, ↓Z0k, ↓Z1k, ↓Z31, ↓Z30, ↓Z24, ↓Z1x, ↓Z2o, ↓Z2c, ↓Z1j, ↓Z3b, ↓Z4c, ↓Z3l, ↓Z3n, ↓Z3m, ↓Z3y, ↓Z3w, ↓Z48, ↓Z0i, ↓Z09, ↓Z18, ↓Z0g, ↓Z1o, Z49, Z07, Z1b, Z32, Z1a, Z35, evN, Z2g, Z1g, Z34, Z41, Z1f, Z15, Z1e, Z2v, Z2h, Z29, Z1h, Z2a, evT, Opd.ev, Z02, Z00, Z33, Z3z, Z3q, Z27, Z1n, Z28, Z2b, Z3j, Z1m, Z0l, Z3o, LOp.isNew, State.prune, Z3u, Z37, AV.leaf, Heap.at, Z0j, Z0a, Z1i, Z0e, Z03, idx_I, idx_W, rowW, Z2f, Z2w, Z21, Z1c, rowB, Z2y, Z2x, rowN, Z4i, Z3p, Z1d, Z16, w_or, w_and, Z2z, Z4d, w_shl, Z43, w_shr, Z4e, w_neg, w_add, w_bit, w_eq0, w_eq1, w_eq, Bool.decide_eq_true, Z3f, Z3e, Z3i, Z2p, Z1p, Z04, Z0b, Z0n, Z01, Z1y, rowI, RatG.row, LocG.row, ActG.row, StepG.row, StampG.row, ActG.av, ActG.eta, RatG.eta, LocG.eta, beq_true, beq_false, Z2k, Z2u, Z2n, Z2t, Z12, Z0q, Z10, Z11, Z0p, Z0o, Z0c, List.length_set, List.length_replicate, Z06, Int.reduceToNat, Z4t, Z2d, Z4a, Src.all, Src.len, Src.leaf, Src.leafN, Z3a, Z44, Z4p, Z0m, Z0r, Z0s, Z0t, Z0u, Z0v, Z0w, Z0x, Z4r, drows, evMk, List.length_map, Z1w, Z22, List.take_length, List.take_left, List.length_append, Nat.le_add_right, ite_self, List.take_of_length_le, Z3d, Z4n, Z42, Option.isSome_none, Option.isSome_some, Nat.sub_zero, Z4m, Z4v, Z4l, evUn, Z13, Z14, binT, binQ, chk, Z3v, List.contains_cons, List.contains_nil, Bool.or_false, Bool.false_or, Bool.and_self, resQ, resV, resT, Z4u, Z2e, Z47, Z3g, fnOf, Z3c, isD, HO.drow, Z4j, Z3x, evEq, eqV, eqK, eqC1, Z45, Z40, Z39, Z38, Z4f, Z3k, Z2s, Z1s, Z2r, Z1r, Z2q, Z1q, Z1t, Z0y, Z0z, Z0d, List.mem_cons, List.not_mem_nil, or_false, forall_eq, putRow, Z3r, Z23, RetS, RetF, RetD, AV.frz, AV.frzL, AV.freshP, AV.freshL, DV.less, Z2i, Z1u, Z2j, Z1v, Z0f, Z08, Option.some.injEq, AV.tup.injEq, AV.agg.injEq, List.cons.injEq, DV.list.injEq, List.isEmpty_nil, Nat.le_refl, AV.d.injEq, DV.int.injEq, DV.bool.injEq, ↓reduceIte, Nat.reduceEqDiff, Nat.reduceAdd, Nat.reduceBEq, List.length_cons, List.length_nil, List.replicate_succ, List.replicate_zero, List.nil_append, List.cons_append, List.append_nil, List.foldl_cons, List.foldl_nil, List.map_cons, List.map_nil, List.all_cons, List.all_nil, List.set_cons_zero, List.set_cons_succ, List.getD_cons_zero, List.getD_cons_succ, List.drop_zero, List.drop_succ_cons, List.take_succ_cons, List.take_zero, List.flatten_cons, List.flatten_nil, Bool.true_and, Bool.and_true, Bool.not_true, Bool.not_false, true_and, and_true, true_or, or_true, Option.bind_some, Option.map_some, decide_true, decide_false, beq_self_eq_true, true_implies, false_implies, implies_true, not_true_eq_false, not_false_eq_true, and_self, Bool.and_false, Bool.false_and, Nat.reduceLT, Nat.reduceLeDiff, List.reverse_cons, List.reverse_nil, Nat.zero_add, Nat.add_zero, Bool.false_eq_true, List.getElem?_cons_zero, Nat.reduceMul, Nat.mul_one, DeedG.row, idx_Deed, Z4k, Z46, lens_Deed, Z4s, idx_LA, rowLA_len, rowLA_get, idx_LI, rowLI_len, rowLI_get, aSt, F1, G1, F2, G2, F3, G3, F4, G4, G5, F6, G6, F7, G7, F8, G8, at_Deeds, at_deed_b, at_clone, at_sortI, sortIE_d, sortI_len, take_sortI, at_sameI, at_Of]
            have hal2 : a.length ≤ 101 := by omega
            have hpt := pairsTo_le a i2
            have hco2 : co2.length ≤ 10201 * t + i2 * a.length := by rw [q2, List.length_append]; omega
            have hb2 : i2 * a.length ≤ 101 * 101 := Nat.mul_le_mul (by omega) hal2
            have w2 : IntKind.i64.wrap ((i2 : Int) + 1) = ((i2 + 1 : Nat) : Int) := by rw [wrap_id (by omega) (by omega)]; omega
            have w3 : IntKind.i64.wrap ((t : Int) + 1) = ((t + 1 : Nat) : Int) := by rw [wrap_id (by omega) (by omega)]; omega
            rw [w2, w3]
            simp only [Z06]
            refine ⟨fun e2 => ⟨⟨by omega, by omega, by omega⟩, ?_⟩, fun e2 => ?_⟩
            · have e2' : i2 < a.length := by omega
              refine Loop.fam [0, 8, 10, 12, 13, 23, 24, 121, 122, 123, 169, 170, 176, 177, 178] (pSt l f D order og ps t a i2) (pInv a co i2) (fun x => a.length - (i2 + 1) - x.1) (0, co2) [0, 1, 2, 3] (by simp) (by simp) (by simp only [State.can, AV.can, AV.canL, HO.can, Z25, idx, Z02, Z00, Heap.at, Nat.reduceBEq, ↓reduceIte, Nat.reduceEqDiff, Option.getD_some, Option.map_some, List.map_cons, List.map_nil, List.getD_cons_zero, List.getD_cons_succ, pSt]; rfl) ⟨by omega, by rw [q2]; simp [pairsAt]⟩ ?_
              rintro ⟨k, co3⟩ ⟨v1, v2⟩
              have v1 : k ≤ a.length - (i2 + 1) := v1
              have v2 : co3 = co ++ (pairsTo a i2 ++ pairsAt a i2 k) := v2
              have hpa := pairsAt_le a i2 k
              have hco3 : co3.length ≤ 10201 * t + i2 * a.length + a.length := by rw [v2, List.length_append, List.length_append]; omega
              simp (maxSteps := 3000000) only [↓Z19, ↓Z26, ↓Z1z, ↓Z05, ↓Z2m, ↓Z2l, Z4b, Z4g, ↓Z1l, ↓Z17, ↓Z0h, ↓Z20, ↓Z0k, ↓Z1k, ↓Z31, ↓Z30, ↓Z24, ↓Z1x, ↓Z2o, ↓Z2c, ↓Z1j, ↓Z3b, ↓Z4c, ↓Z3l, ↓Z3n, ↓Z3m, ↓Z3y, ↓Z3w, ↓Z48, ↓Z0i, ↓Z09, ↓Z18, ↓Z0g, ↓Z1o, Z49, Z07, Z1b, Z32, Z1a, Z35, evN, Z2g, Z1g, Z34, Z41, Z1f, Z15, Z1e, Z2v, Z2h, Z29, Z1h, Z2a, evT, Opd.ev, Z02, Z00, Z33, Z3z, Z3q, Z27, Z1n, Z28, Z2b, Z3j, Z1m, Z0l, Z3o, LOp.isNew, State.prune, Z3u, Z37, AV.leaf, Heap.at, Z0j, Z0a, Z1i, Z0e, Z03, idx_I, idx_W, rowW, Z2f, Z2w, Z21, Z1c, rowB, Z2y, Z2x, rowN, Z4i, Z3p, Z1d, Z16, w_or, w_and, Z2z, Z4d, w_shl, Z43, w_shr, Z4e, w_neg, w_add, w_bit, w_eq0, w_eq1, w_eq, Bool.decide_eq_true, Z3f, Z3e, Z3i, Z2p, Z1p, Z04, Z0b, Z0n, Z01, Z1y, rowI, RatG.row, LocG.row, ActG.row, StepG.row, StampG.row, ActG.av, ActG.eta, RatG.eta, LocG.eta, beq_true, beq_false, Z2k, Z2u, Z2n, Z2t, Z12, Z0q, Z10, Z11, Z0p, Z0o, Z0c, List.length_set, List.length_replicate, Z06, Int.reduceToNat, Z4t, Z2d, Z4a, Src.all, Src.len, Src.leaf, Src.leafN, Z3a, Z44, Z4p, Z0m, Z0r, Z0s, Z0t, Z0u, Z0v, Z0w, Z0x, Z4r, drows, evMk, List.length_map, Z1w, Z22, List.take_length, List.take_left, List.length_append, Nat.le_add_right, ite_self, List.take_of_length_le, Z3d, Z4n, Z42, Option.isSome_none, Option.isSome_some, Nat.sub_zero, Z4m, Z4v, Z4l, evUn, Z13, Z14, binT, binQ, chk, Z3v, List.contains_cons, List.contains_nil, Bool.or_false, Bool.false_or, Bool.and_self, resQ, resV, resT, Z4u, Z2e, Z47, Z3g, fnOf, Z3c, isD, HO.drow, Z4j, Z3x, evEq, eqV, eqK, eqC1, Z45, Z40, Z39, Z38, Z4f, Z3k, Z2s, Z1s, Z2r, Z1r, Z2q, Z1q, Z1t, Z0y, Z0z, Z0d, List.mem_cons, List.not_mem_nil, or_false, forall_eq, putRow, Z3r, Z23, RetS, RetF, RetD, AV.frz, AV.frzL, AV.freshP, AV.freshL, DV.less, Z2i, Z1u, Z2j, Z1v, Z0f, Z08, Option.some.injEq, AV.tup.injEq, AV.agg.injEq, List.cons.injEq, DV.list.injEq, List.isEmpty_nil, Nat.le_refl, AV.d.injEq, DV.int.injEq, DV.bool.injEq, ↓reduceIte, Nat.reduceEqDiff, Nat.reduceAdd, Nat.reduceBEq, List.length_cons, List.length_nil, List.replicate_succ, List.replicate_zero, List.nil_append, List.cons_append, List.append_nil, List.foldl_cons, List.foldl_nil, List.map_cons, List.map_nil, List.all_cons, List.all_nil, List.set_cons_zero, List.set_cons_succ, List.getD_cons_zero, List.getD_cons_succ, List.drop_zero, List.drop_succ_cons, List.take_succ_cons, List.take_zero, List.flatten_cons, List.flatten_nil, Bool.true_and, Bool.and_true, Bool.not_true, Bool.not_false, true_and, and_true, true_or, or_true, Option.bind_some, Option.map_some, decide_true, decide_false, beq_self_eq_true, true_implies, false_implies, implies_true, not_true_eq_false, not_false_eq_true, and_self, Bool.and_false, Bool.false_and, Nat.reduceLT, Nat.reduceLeDiff, List.reverse_cons, List.reverse_nil, Nat.zero_add, Nat.add_zero, Bool.false_eq_true, List.getElem?_cons_zero, Nat.reduceMul, Nat.mul_one, DeedG.row, idx_Deed, Z4k, Z46, lens_Deed, Z4s, idx_LA, rowLA_len, rowLA_get, idx_LI, rowLI_len, rowLI_get, pSt, F1, G1, F2, G2, F3, G3, F4, G4, G5, F6, G6, F7, G7, F8, G8, at_Deeds, at_deed_b, at_clone, at_sortI, sortIE_d, sortI_len, take_sortI, at_sameI, at_Of]
              have w4 : IntKind.i64.wrap ((k : Int) + 1) = ((k + 1 : Nat) : Int) := by rw [wrap_id (by omega) (by omega)]; omega
              rw [w4, w2]
              refine ⟨fun e3 => ⟨⟨by omega, by omega⟩, by omega, ⟨by omega, by omega⟩, by omega, roomy_of (by omega) (by omega), ?_⟩, fun e3 => ?_⟩
              · have e3' : i2 + 1 + k < a.length := by omega
                refine Z36.mk [0, 1, 5, 3] (k + 1, co3 ++ [⟨a.getD i2 default, a.getD (i2 + 1 + k) default⟩]) (by simp) (by simp) (by simp only [State.can, AV.can, AV.canL, HO.can, Z25, idx, Z02, Z00, Heap.at, Nat.reduceBEq, ↓reduceIte, Nat.reduceEqDiff, Option.getD_some, Option.map_some, List.map_cons, List.map_nil, List.getD_cons_zero, List.getD_cons_succ, pSt, List.length_append, List.length_singleton]) ⟨by show k + 1 ≤ _; omega, ?_⟩ (by show a.length - (i2 + 1) - (k + 1) < a.length - (i2 + 1) - k; omega)
                show co3 ++ [_] = co ++ (pairsTo a i2 ++ pairsAt a i2 (k + 1))
                rw [pairsAt_succ e3', v2]; simp only [List.append_assoc]
              · have e3' : k = a.length - (i2 + 1) := by omega
                refine Z36.mk [0, 1, 2, 3] (i2 + 1, co3) (by simp) (by simp) (by simp only [State.can, AV.can, AV.canL, HO.can, Z25, idx, Z02, Z00, Heap.at, Nat.reduceBEq, ↓reduceIte, Nat.reduceEqDiff, Option.getD_some, Option.map_some, List.map_cons, List.map_nil, List.getD_cons_zero, List.getD_cons_succ, aSt]) ⟨by show i2 + 1 ≤ _; omega, ?_⟩ (by show a.length - (i2 + 1) < a.length - i2; omega)
                show co3 = co ++ pairsTo a (i2 + 1)
                rw [v2, e3', pairsTo]
            · have e2' : i2 = a.length := by omega
              subst e2'
              have hnext : coG D l.length order (t + 1) = some co2 := by
                unfold coG
                rw [j2]
                simp only
                rw [if_pos hs, ha, ← hal, q2]
              refine Z36.mk [0, 1, 2] (t + 1, co2) (by simp) (by simp) (by simp only [State.can, AV.can, AV.canL, HO.can, Z25, idx, Z02, Z00, Heap.at, Nat.reduceBEq, ↓reduceIte, Nat.reduceEqDiff, Option.getD_some, Option.map_some, List.map_cons, List.map_nil, List.getD_cons_zero, List.getD_cons_succ, cSt]) ⟨by show t + 1 ≤ _; omega, hnext, by show co2.length ≤ 10201 * (t + 1); omega⟩ (by show order.length - (t + 1) < order.length - t; omega)
        · have e9 : t = order.length := by omega
          subst e9
          have hM : maxLen = 9223372036854775807 := rfl
          have hl16 : l.length ≤ 20 := hA.1
          have hB : buildG l acts fr order = (⟨l, false, D, false, ofG D.length ps, false, ofG D.length co, false⟩, 0) := by
            unfold buildG
            rw [if_neg (by rw [he]; simp), hD, i2]
            simp only
            rw [if_neg (by simp [hol]), ← hol, hol, ← hol, hol]
            rw [hol] at j2
            rw [j2]
          rw [hB]
          exact ⟨roomy_of (by omega) (by omega), by omega, by omega, rfl, rfl⟩
      · rw [hb3 (.inr (by omega))]; exact ⟨rfl, rfl⟩
  · unfold buildG
    rw [if_pos he]
    exact ⟨rfl, rfl⟩
end Go.Ago

/- Chapter 23: what a built world is. Conditions: none. -/
set_option maxRecDepth 100000
set_option linter.unusedSimpArgs false
set_option linter.unusedVariables false
set_option linter.unusedSectionVars false
namespace Go.Ago

/-! ### Deeds -/
theorem getD_of {α : Type} [Inhabited α] {l : List α} {i : Nat} (h : i < l.length) : l.getD i default = l[i] := by
  rw [List.getD_eq_getElem?_getD, List.getElem?_eq_getElem h]; rfl
def goodD (l : List LocG) (d : DeedG) : Prop := d.act.right l = true ∧ d.act.kind ≠ 6
theorem good_init (l : List LocG) {i : Nat} (hi : i < l.length) : goodD l (initD (l.getD i default) i) := by
  unfold goodD initD ActG.right ActG.isA ActG.isR ActG.isW
  cases h : (l.getD i default).atom
  · simp only [h, Bool.false_eq_true, if_false, Int.toNat_natCast]
    refine ⟨?_, by decide⟩
    rw [decide_eq_true (show (i : Int) < l.length by omega), decide_eq_true (show (0 : Int) ≤ i by omega)]; simp
  · simp only [h, if_true, Int.toNat_natCast]
    refine ⟨?_, by decide⟩
    rw [decide_eq_true (show (i : Int) < l.length by omega), decide_eq_true (show (0 : Int) ≤ i by omega)]; simp
theorem mem_kept {acts : List (List ActG × Bool)} {d : DeedG} : ∀ {t : Nat}, d ∈ keptTo acts t → ∃ i < t, d.th = i ∧ d.act ∈ (acts.getD i default).1 ∧ d.act.kind ≠ 6 := by
  intro t h
  unfold keptTo at h
  obtain ⟨x, hx, hd⟩ := List.mem_flatten.1 h
  obtain ⟨i, hi, rfl⟩ := List.mem_map.1 hx
  unfold keepD at hd
  obtain ⟨a, ha, rfl⟩ := List.mem_map.1 hd
  have := List.mem_filter.1 ha
  exact ⟨i, by simpa using hi, rfl, this.1, by simpa using this.2⟩
theorem deeds_get {l : List LocG} {acts : List (List ActG × Bool)} {i : Nat} (hi : i < l.length) : (deedsAll l acts).getD i default = initD (l.getD i default) i := by
  have h1 : i < (initL l l.length).length := by rw [initL_len]; exact hi
  unfold deedsAll
  rw [List.getD_eq_getElem?_getD, List.getElem?_append_left h1]
  unfold initL
  rw [List.getElem?_map, List.getElem?_range hi]; rfl
theorem deeds_kept {l : List LocG} {acts : List (List ActG × Bool)} {i : Nat} (hi : l.length ≤ i) (hl : i < (deedsAll l acts).length) : (deedsAll l acts).getD i default ∈ keptTo acts acts.length := by
  unfold deedsAll at hl ⊢
  rw [List.length_append, initL_len] at hl
  rw [List.getD_eq_getElem?_getD, List.getElem?_append_right (by rw [initL_len]; exact hi), initL_len, List.getElem?_eq_getElem (by omega)]
  exact List.getElem_mem _
theorem deeds_good {l : List LocG} {acts : List (List ActG × Bool)} (hr : rightA l acts = true) {i : Nat} (hl : i < (deedsAll l acts).length) : goodD l ((deedsAll l acts).getD i default) := by
  by_cases hi : i < l.length
  · rw [deeds_get hi]; exact good_init l hi
  · obtain ⟨t, ht, _, hm, hk⟩ := mem_kept (deeds_kept (by omega) hl)
    refine ⟨?_, hk⟩
    unfold rightA at hr
    have h1 := List.all_eq_true.1 hr (acts.getD t default) (by rw [getD_of ht]; exact List.getElem_mem _)
    exact List.all_eq_true.1 h1 _ hm
theorem deeds_th {l : List LocG} {acts : List (List ActG × Bool)} {i : Nat} (hi : l.length ≤ i) (hl : i < (deedsAll l acts).length) : 0 ≤ ((deedsAll l acts).getD i default).th := by
  obtain ⟨t, ht, h, _⟩ := mem_kept (deeds_kept hi hl)
  omega
theorem deeds_th0 {l : List LocG} {acts : List (List ActG × Bool)} {i : Nat} (hi : i < l.length) : ((deedsAll l acts).getD i default).th = -1 := by rw [deeds_get hi]; rfl
theorem deeds_loc0 {l : List LocG} {acts : List (List ActG × Bool)} {i : Nat} (hi : i < l.length) : ((deedsAll l acts).getD i default).act.loc = i := by rw [deeds_get hi]; rfl
theorem deeds_w0 {l : List LocG} {acts : List (List ActG × Bool)} {i : Nat} (hi : i < l.length) : ((deedsAll l acts).getD i default).act.isW = true := by
  rw [deeds_get hi]; unfold initD ActG.isW; cases (l.getD i default).atom <;> rfl
theorem deeds_ge (l : List LocG) (acts : List (List ActG × Bool)) : l.length ≤ (deedsAll l acts).length := by unfold deedsAll; rw [List.length_append, initL_len]; omega

/-! ### Who reads from whom -/
theorem rd_mem {D : List DeedG} {fr : List Int} : ∀ {i : Nat} {r : List Int} {ps : List RatG}, rdG D fr i = some (r, ps) → ∀ p ∈ ps, ∃ j, j < i ∧ p.den = j ∧ (D.getD j default).act.isR = true ∧ okR D p.num j = true := by
  intro i
  induction i with
  | zero => intro r ps h p hp; simp [rdG] at h; rw [h.2] at hp; cases hp
  | succ i ih =>
    intro r ps h p hp
    unfold rdG at h
    split at h
    · cases h
    · rename_i r0 ps0 h0
      split at h
      · rename_i hR
        split at h
        · cases h
        · rename_i w r1
          split at h
          · rename_i hk
            simp at h
            rw [← h.2, List.mem_append] at hp
            rcases hp with hp | hp
            · obtain ⟨j, h1, h2⟩ := ih h0 p hp
              exact ⟨j, by omega, h2⟩
            · simp at hp; subst hp
              exact ⟨i, by omega, rfl, hR, hk⟩
          · cases h
      · simp at h
        rw [← h.2] at hp
        obtain ⟨j, h1, h2⟩ := ih h0 p hp
        exact ⟨j, by omega, h2⟩
/-- No deed reads two. -/
theorem rd_one {D : List DeedG} {fr : List Int} : ∀ {i : Nat} {r : List Int} {ps : List RatG}, rdG D fr i = some (r, ps) → ∀ p ∈ ps, ∀ q ∈ ps, p.den = q.den → p.num = q.num := by
  intro i
  induction i with
  | zero => intro r ps h p hp; simp [rdG] at h; rw [h.2] at hp; cases hp
  | succ i ih =>
    intro r ps h p hp q hq e
    unfold rdG at h
    split at h
    · cases h
    · rename_i r0 ps0 h0
      split at h
      · split at h
        · cases h
        · split at h
          · simp at h
            rw [← h.2, List.mem_append] at hp hq
            rcases hp with hp | hp
            · rcases hq with hq | hq
              · exact ih h0 p hp q hq e
              · obtain ⟨j, h1, h2, _⟩ := rd_mem h0 p hp
                simp at hq; subst hq; simp at e; omega
            · rcases hq with hq | hq
              · obtain ⟨j, h1, h2, _⟩ := rd_mem h0 q hq
                simp at hp; subst hp; simp at e; omega
              · simp at hp hq; subst hp; subst hq; rfl
          · cases h
      · simp at h
        rw [← h.2] at hp hq
        exact ih h0 p hp q hq e
theorem okR_iff {D : List DeedG} {w : Int} {i : Nat} : okR D w i = true ↔ 0 ≤ w ∧ w < D.length ∧ w ≠ i ∧ (D.getD w.toNat default).act.isW = true ∧ (D.getD w.toNat default).act.loc = (D.getD i default).act.loc ∧ (D.getD w.toNat default).act.new = (D.getD i default).act.old := by
  unfold okR; simp only [Bool.and_eq_true, decide_eq_true_eq, Bool.not_eq_true', decide_eq_false_iff_not]
  constructor
  · rintro ⟨⟨⟨⟨⟨a, b⟩, c⟩, d⟩, e⟩, f⟩; exact ⟨a, b, c, d, e, f⟩
  · rintro ⟨a, b, c, d, e, f⟩; exact ⟨⟨⟨⟨⟨a, b⟩, c⟩, d⟩, e⟩, f⟩

/-! ### The order of a location's writes -/
def wL (D : List DeedG) (t : Nat) (j : Int) : Prop := 0 ≤ j ∧ j < D.length ∧ (D.getD j.toNat default).act.isW = true ∧ (D.getD j.toNat default).act.loc = t
theorem mem_want {D : List DeedG} {n loc : Nat} : ∀ {i : Nat} {j : Int}, j ∈ wantTo D n loc i ↔ ∃ k : Nat, j = k ∧ k < i ∧ n ≤ k ∧ (D.getD k default).act.isW = true ∧ (D.getD k default).act.loc = loc := by
  intro i
  induction i with
  | zero => intro j; simp [wantTo]
  | succ i ih =>
    intro j
    unfold wantTo
    split
    · rename_i h
      rw [List.mem_append, ih]
      constructor
      · rintro (⟨k, h1, h2, h3⟩ | h1)
        · exact ⟨k, h1, by omega, h3⟩
        · exact ⟨i, by simpa using h1, by omega, h.1, h.2.1, h.2.2⟩
      · rintro ⟨k, h1, h2, h3⟩
        by_cases e : k = i
        · exact .inr (by rw [h1, e]; simp)
        · exact .inl ⟨k, h1, by omega, h3⟩
    · rename_i h
      rw [ih]
      constructor
      · rintro ⟨k, h1, h2, h3⟩; exact ⟨k, h1, by omega, h3⟩
      · rintro ⟨k, h1, h2, h3, h4, h5⟩
        by_cases e : k = i
        · subst e; exact absurd ⟨h3, h4, h5⟩ h
        · exact ⟨k, h1, by omega, h3, h4, h5⟩
theorem want_nodup {D : List DeedG} {n loc : Nat} : ∀ {i : Nat}, (wantTo D n loc i).Nodup := by
  intro i
  induction i with
  | zero => exact List.nodup_nil
  | succ i ih =>
    unfold wantTo
    split
    · rw [List.nodup_append]
      refine ⟨ih, by simp, fun a ha b hb => ?_⟩
      obtain ⟨k, h1, h2, _⟩ := mem_want.1 ha
      simp at hb; omega
    · exact ih
theorem sort_perm23 (l : List Int) : (sortI l).Perm l := List.mergeSort_perm l _

theorem mem_pairsAt {a : List Int} {i : Nat} {p : RatG} : p ∈ pairsAt a i (a.length - (i + 1)) ↔ ∃ j, i < j ∧ j < a.length ∧ p = ⟨a.getD i default, a.getD j default⟩ := by
  unfold pairsAt
  rw [List.take_of_length_le (by rw [List.length_drop]; omega)]
  constructor
  · intro h
    obtain ⟨x, hx, rfl⟩ := List.mem_map.1 h
    obtain ⟨m, hm, rfl⟩ := List.mem_iff_getElem.1 hx
    rw [List.length_drop] at hm
    refine ⟨i + 1 + m, by omega, by omega, ?_⟩
    rw [List.getElem_drop, getD_of (show i + 1 + m < a.length by omega)]
  · rintro ⟨j, h1, h2, rfl⟩
    refine List.mem_map.2 ⟨a.getD j default, ?_, rfl⟩
    rw [getD_of h2]
    refine List.mem_iff_getElem.2 ⟨j - (i + 1), by rw [List.length_drop]; omega, ?_⟩
    rw [List.getElem_drop]
    congr 1; omega
theorem mem_pairsTo {a : List Int} {p : RatG} : ∀ {n : Nat}, p ∈ pairsTo a n ↔ ∃ i j, i < n ∧ i < j ∧ j < a.length ∧ p = ⟨a.getD i default, a.getD j default⟩ := by
  intro n
  induction n with
  | zero => simp [pairsTo]
  | succ n ih =>
    unfold pairsTo
    rw [List.mem_append, ih, mem_pairsAt]
    constructor
    · rintro (⟨i, j, h1, h2⟩ | ⟨j, h1⟩)
      · exact ⟨i, j, by omega, h2⟩
      · exact ⟨n, j, by omega, h1⟩
    · rintro ⟨i, j, h1, h2⟩
      by_cases e : i = n
      · subst e; exact .inr ⟨j, h2⟩
      · exact .inl ⟨i, j, by omega, h2⟩
/-- The writes of a location, in their order. -/
def lineG (order : List (List Int × Bool)) (t : Nat) : List Int := (t : Int) :: (order.getD t default).1
theorem co_mem {D : List DeedG} {n : Nat} {order : List (List Int × Bool)} : ∀ {m : Nat} {ps : List RatG}, coG D n order m = some ps →
    (∀ p : RatG, p ∈ ps ↔ ∃ t i j, t < m ∧ i < j ∧ j < (lineG order t).length ∧ p = ⟨(lineG order t).getD i default, (lineG order t).getD j default⟩) ∧
    ∀ t, t < m → sortI (order.getD t default).1 = wantTo D n t D.length := by
  intro m
  induction m with
  | zero => intro ps h; simp [coG] at h; subst h; simp
  | succ m ih =>
    intro ps h
    unfold coG at h
    split at h
    · cases h
    · rename_i ps0 h0
      split at h
      · rename_i hw
        obtain ⟨g1, g2⟩ := ih h0
        simp at h; subst h
        refine ⟨fun p => ?_, fun t ht => ?_⟩
        · rw [List.mem_append, g1]
          constructor
          · rintro (⟨t, i, j, h1, h2⟩ | h1)
            · exact ⟨t, i, j, by omega, h2⟩
            · obtain ⟨i, j, h1, h2⟩ := mem_pairsTo.1 h1
              exact ⟨m, i, j, by omega, h2⟩
          · rintro ⟨t, i, j, h1, h2, h3, h4⟩
            by_cases e : t = m
            · subst e
              exact .inr (mem_pairsTo.2 ⟨i, j, by unfold lineG at h3; simp at h3; omega, h2, h3, h4⟩)
            · exact .inl ⟨t, i, j, by omega, h2, h3, h4⟩
        · by_cases e : t = m
          · rw [e]; exact hw
          · exact g2 t (by omega)
      · cases h

/-! ### Built worlds -/
structure BuiltG (l : List LocG) (acts : List (List ActG × Bool)) (fr : List Int) (order : List (List Int × Bool)) (x : WG) : Prop where
  locs : x.locs = l
  deeds : x.deeds = deedsAll l acts
  right : rightA l acts = true
  le : x.deeds.length ≤ 64
  ol : order.length = l.length
  okx : ∃ ps, rdG x.deeds fr x.deeds.length = some ([], ps) ∧ x.rf = ofG x.deeds.length ps
  cox : ∃ ps, coG x.deeds l.length order l.length = some ps ∧ x.co = ofG x.deeds.length ps

theorem built_of {l : List LocG} {acts : List (List ActG × Bool)} {fr : List Int} {order : List (List Int × Bool)} (h : (buildG l acts fr order).2 = 0) :
    BuiltG l acts fr order (buildG l acts fr order).1 := by
  unfold buildG at h ⊢
  split at h
  · rename_i h1; exact absurd h h1
  · rename_i h0
    rw [if_neg h0]
    have hD : (deedsG l acts).1 = deedsAll l acts ∧ rightA l acts = true ∧ (deedsAll l acts).length ≤ 64 := by
      unfold deedsG at h0 ⊢
      split at h0
      · simp at h0
      · split at h0
        · simp at h0
        · split at h0
          · simp at h0
          · rename_i q1 q2 q3
            rw [if_neg q1, if_neg q2, if_neg q3]
            exact ⟨rfl, by simpa using q2, by omega⟩
    rw [hD.1] at h ⊢
    rcases hrd : rdG (deedsAll l acts) fr (deedsAll l acts).length with _ | ⟨rest, rf⟩
    · rw [hrd] at h; cases h
    · rw [hrd] at h
      simp only at h ⊢
      split at h
      · cases h
      · rename_i h2
        rw [if_neg h2]
        rcases hco : coG (deedsAll l acts) l.length order l.length with _ | co
        · rw [hco] at h; cases h
        · have h3 : rest = [] ∧ order.length = l.length := by
            constructor
            · apply Classical.byContradiction; intro e; exact h2 (.inl e)
            · apply Classical.byContradiction; intro e; exact h2 (.inr e)
          rw [h3.1] at hrd
          exact ⟨rfl, rfl, hD.2.1, hD.2.2, h3.2, ⟨rf, hrd, rfl⟩, ⟨co, hco, rfl⟩⟩
theorem hasN_of {n : Nat} (hn : n ≤ 64) {ps : List RatG} (h : ∀ p ∈ ps, 0 ≤ p.num ∧ p.num < n ∧ 0 ≤ p.den ∧ p.den < n) {i k : Nat} : hasN (ofG n ps) i k = true ↔ (⟨i, k⟩ : RatG) ∈ ps := by
  have he : ofErr n ps = 0 := by
    unfold ofErr
    rw [if_neg (by omega), if_neg]
    rw [Bool.not_eq_true, List.any_eq_false]
    intro p hp
    obtain ⟨a, b, c, d⟩ := h p hp
    unfold ofBad
    rw [decide_eq_false (show ¬ p.num < 0 by omega), decide_eq_false (show ¬ (n : Int) ≤ p.num by omega), decide_eq_false (show ¬ p.den < 0 by omega), decide_eq_false (show ¬ (n : Int) ≤ p.den by omega)]
    simp
  unfold ofG
  rw [if_pos he, Int.toNat_natCast, hasN_mk hn]
  unfold ofP
  simp only [Bool.and_eq_true, decide_eq_true_eq, List.any_eq_true]
  constructor
  · rintro ⟨_, p, hp, h1, h2⟩
    have : p = ⟨i, k⟩ := by cases p; simp only at h1 h2; rw [h1, h2]
    rw [← this]; exact hp
  · intro hp
    have := h _ hp
    simp only at this
    exact ⟨⟨by omega, by omega⟩, _, hp, rfl, rfl⟩
theorem sq_of {n : Nat} (hn : n ≤ 64) {ps : List RatG} (h : ∀ p ∈ ps, 0 ≤ p.num ∧ p.num < n ∧ 0 ≤ p.den ∧ p.den < n) : Sq n (ofG n ps) := by
  have he : ofErr n ps = 0 := by
    unfold ofErr
    rw [if_neg (by omega), if_neg]
    rw [Bool.not_eq_true, List.any_eq_false]
    intro p hp
    obtain ⟨a, b, c, d⟩ := h p hp
    unfold ofBad
    rw [decide_eq_false (show ¬ p.num < 0 by omega), decide_eq_false (show ¬ (n : Int) ≤ p.num by omega), decide_eq_false (show ¬ p.den < 0 by omega), decide_eq_false (show ¬ (n : Int) ≤ p.den by omega)]
    simp
  unfold ofG
  rw [if_pos he, Int.toNat_natCast]
  exact Sq.mk hn _

section
variable {l : List LocG} {acts : List (List ActG × Bool)} {fr : List Int} {order : List (List Int × Bool)} {x : WG} (B : BuiltG l acts fr order x)
include B
theorem BuiltG.ge : l.length ≤ x.deeds.length := by rw [B.deeds]; exact deeds_ge l acts
theorem BuiltG.good {i : Nat} (hi : i < x.deeds.length) : goodD l (x.deeds.getD i default) := by
  rw [B.deeds] at hi ⊢; exact deeds_good B.right hi
theorem BuiltG.rd_ok {ps : List RatG} (h : rdG x.deeds fr x.deeds.length = some ([], ps)) : ∀ p ∈ ps, 0 ≤ p.num ∧ p.num < x.deeds.length ∧ 0 ≤ p.den ∧ p.den < x.deeds.length := by
  intro p hp
  obtain ⟨j, h1, h2, h3, h4⟩ := rd_mem h p hp
  have := okR_iff.1 h4
  omega
theorem BuiltG.line_mem {t : Nat} (ht : t < l.length) {j : Int} : j ∈ lineG order t ↔ wL x.deeds t j := by
  obtain ⟨ps, h1, _⟩ := B.cox
  have hs := (co_mem h1).2 t ht
  unfold lineG wL
  rw [List.mem_cons, ← (sort_perm23 _).mem_iff, hs, mem_want]
  have hge := B.ge
  constructor
  · rintro (rfl | ⟨k, rfl, h2, h3, h4, h5⟩)
    · rw [Int.toNat_natCast, B.deeds, deeds_w0 ht, deeds_loc0 ht]
      exact ⟨by omega, by rw [← B.deeds]; omega, rfl, rfl⟩
    · exact ⟨by omega, by omega, by rw [Int.toNat_natCast]; exact h4, by rw [Int.toNat_natCast]; exact h5⟩
  · rintro ⟨h2, h3, h4, h5⟩
    by_cases hj : j.toNat < l.length
    · left
      rw [B.deeds, deeds_loc0 hj] at h5
      omega
    · exact .inr ⟨j.toNat, by omega, by omega, by omega, h4, h5⟩
theorem BuiltG.line_nodup {t : Nat} (ht : t < l.length) : (lineG order t).Nodup := by
  obtain ⟨ps, h1, _⟩ := B.cox
  have hs := (co_mem h1).2 t ht
  unfold lineG
  rw [List.nodup_cons]
  constructor
  · intro hm
    rw [← (sort_perm23 _).mem_iff, hs, mem_want] at hm
    obtain ⟨k, h2, h3, h4, _⟩ := hm
    omega
  · rw [← (sort_perm23 _).nodup_iff, hs]; exact want_nodup
theorem BuiltG.co_ok {ps : List RatG} (h : coG x.deeds l.length order l.length = some ps) : ∀ p ∈ ps, 0 ≤ p.num ∧ p.num < x.deeds.length ∧ 0 ≤ p.den ∧ p.den < x.deeds.length := by
  intro p hp
  obtain ⟨t, i, j, ht, h1, h2, rfl⟩ := ((co_mem h).1 p).1 hp
  have e1 : (lineG order t).getD i default ∈ lineG order t := by rw [getD_of (by omega)]; exact List.getElem_mem _
  have e2 : (lineG order t).getD j default ∈ lineG order t := by rw [getD_of h2]; exact List.getElem_mem _
  have q1 := (B.line_mem ht).1 e1
  have q2 := (B.line_mem ht).1 e2
  exact ⟨q1.1, q1.2.1, q2.1, q2.2.1⟩
theorem BuiltG.rf_iff {k i : Nat} : hasN x.rf k i = true ↔ ∃ ps, rdG x.deeds fr x.deeds.length = some ([], ps) ∧ (⟨k, i⟩ : RatG) ∈ ps := by
  obtain ⟨ps, h1, h2⟩ := B.okx
  rw [h2, hasN_of B.le (B.rd_ok h1)]
  constructor
  · exact fun h => ⟨ps, h1, h⟩
  · rintro ⟨ps', h3, h4⟩; rw [h1] at h3; cases h3; exact h4
theorem BuiltG.rf_one {k j i : Nat} (h : hasN x.rf k i = true) (h' : hasN x.rf j i = true) : k = j := by
  obtain ⟨ps, h1, h2⟩ := B.rf_iff.1 h
  obtain ⟨ps', h3, h4⟩ := B.rf_iff.1 h'
  rw [h1] at h3; cases h3
  have := rd_one h1 _ h2 _ h4 rfl
  simp only at this
  omega
theorem BuiltG.ok : x.Ok := by
  obtain ⟨ps, h1, h2⟩ := B.okx
  obtain ⟨qs, h3, h4⟩ := B.cox
  exact ⟨B.le, by rw [h2]; exact sq_of B.le (B.rd_ok h1), by rw [h4]; exact sq_of B.le (B.co_ok h3)⟩
/-- Where a deed is. -/
theorem BuiltG.at_ {i : Nat} (hi : i < x.deeds.length) : ∃ t : Nat, t < l.length ∧ (x.deeds.getD i default).act.loc = t := by
  obtain ⟨h1, h2⟩ := B.good hi
  unfold ActG.right at h1
  rw [if_neg h2] at h1
  simp only [Bool.and_eq_true, decide_eq_true_eq] at h1
  exact ⟨(x.deeds.getD i default).act.loc.toNat, by omega, by omega⟩
theorem BuiltG.atom {i : Nat} (hi : i < x.deeds.length) : x.atom i = (x.deeds.getD i default).act.isA := by
  obtain ⟨h1, h2⟩ := B.good hi
  unfold ActG.right at h1
  rw [if_neg h2] at h1
  simp only [Bool.and_eq_true, decide_eq_true_eq, beq_iff_eq] at h1
  unfold WG.atom WG.dl
  rw [B.locs, decide_eq_true (show 0 ≤ (x.deeds.getD i default).act.loc by omega), decide_eq_true (show (x.deeds.getD i default).act.loc < l.length by omega)]
  simp only [Bool.and_self, Bool.true_and]
  exact h1.1.1.2
end

/-! ### Judged -/
theorem any_nz {r : List W} {i k : Nat} (h : hasN r i k = true) : r.any nzW = true := by
  have h1 := hasN_lt h
  have h2 := szR_len r
  have hi : i < r.length := by omega
  unfold hasN at h
  simp only [Bool.and_eq_true, decide_eq_true_eq] at h
  rw [List.getD_eq_getElem?_getD, List.getElem?_eq_getElem hi] at h
  refine List.any_eq_true.2 ⟨r[i], List.getElem_mem hi, ?_⟩
  unfold nzW
  have : r[i] ≠ 0#64 := by
    intro e
    rw [e] at h
    have := h.2
    simp at this
  simpa using this
theorem hasN_back23 {A : List W} {i k : Nat} : hasN (backG A) i k = hasN A k i := by
  unfold backG
  rw [hasN_mk (szR_le A)]
  apply beq_of_iff
  simp only [Bool.and_eq_true, decide_eq_true_eq]
  exact ⟨fun h => h.2, fun h => ⟨by have := hasN_lt h; omega, h⟩⟩
theorem no_meet {a b : List W} (h : meetsG a b = false) {i k : Nat} (h1 : hasN a i k = true) (h2 : hasN b k i = true) : False := by
  have : meetsG a b = true := by
    unfold meetsG
    refine any_nz (i := i) (k := k) ?_
    rw [hasN_lay2 rfl, h1, hasN_back23, h2]; rfl
  rw [h] at this; cases this
theorem hasN_only {x : WG} {r : List W} {i k : Nat} (hr : r.length ≤ 64) : hasN (onlyG x r) i k = (x.atom i && hasN r i k) := by
  have hlen : (onlyG x r).length = r.length := by unfold onlyG mapW; simp
  have hsz : szR (onlyG x r) = szR r := by unfold szR; rw [hlen]
  unfold hasN
  rw [hsz]
  by_cases hi : i < szR r
  · have hi' : i < r.length := by have := szR_len r; omega
    have : (onlyG x r).getD i 0#64 = if x.atom i then r.getD i 0#64 else 0#64 := by
      unfold onlyG mapW
      rw [List.getD_eq_getElem?_getD, List.getElem?_map, List.getElem?_range hi']; rfl
    rw [this]
    cases x.atom i
    · simp
    · simp
  · simp [hi]
theorem sq_r {x : WG} (hx : x.Ok) : Sq x.deeds.length (lay2 qOr x.rf x.co) := Sq.lay2 hx.rf.len hx.co.len hx.n
section
variable {l : List LocG} {acts : List (List ActG × Bool)} {fr : List Int} {order : List (List Int × Bool)} {x : WG} (B : BuiltG l acts fr order x) (hc : chkW x = 0)
include B hc
end
end Go.Ago

/- The laws of layer 23: what is small, and a fixed answer. Conditions: none. -/
set_option maxRecDepth 100000
set_option linter.unusedSimpArgs false
set_option linter.unusedVariables false
namespace Go.Ago
attribute [local irreducible] vck
def smallF (l : List LocG) (acts : List (List ActG × Bool)) (fr : List Int) (order : List (List Int × Bool)) : Bool :=
  decide (l.length ≤ 20) && decide (acts.length ≤ 5) && decide (fr.length ≤ 100) && decide (order.length ≤ 20) && acts.all (fun x => decide (x.1.length ≤ 70)) && order.all (fun x => decide (x.1.length ≤ 100))
theorem smallF_iff {l : List LocG} {acts : List (List ActG × Bool)} {fr : List Int} {order : List (List Int × Bool)} : smallF l acts fr order = true ↔ smallB l acts fr order := by
  unfold smallF smallB smallA
  simp only [Bool.and_eq_true, decide_eq_true_eq, List.all_eq_true]
  exact ⟨fun ⟨⟨⟨⟨⟨a, b⟩, c⟩, d⟩, e⟩, f⟩ => ⟨⟨a, b, e⟩, c, d, f⟩, fun ⟨⟨a, b, e⟩, c, d, f⟩ => ⟨⟨⟨⟨⟨a, b⟩, c⟩, d⟩, e⟩, f⟩⟩
def sp_small : Sp := ⟨(List LocG × Bool × List (List ActG × Bool) × Bool) × (List Int × Bool × List (List Int × Bool) × Bool), fun x => [.d (.list (x.1.1.map LocG.row) x.1.2.1), .d (.list (x.1.2.2.1.map rowLA) x.1.2.2.2), .d (.list (x.2.1.map rowI) x.2.2.1), .d (.list (x.2.2.2.1.map rowLI) x.2.2.2.2)],
  fun x => .data (x.1.2.2.1.length ≤ maxLen ∧ x.2.2.2.1.length ≤ maxLen) (.d (.bool (smallF x.1.1 x.1.2.2.1 x.2.1 x.2.2.2.1))) true⟩
theorem at_small (l : List LocG) (f : Bool) (acts : List (List ActG × Bool)) (g : Bool) (fr : List Int) (ff : Bool) (order : List (List Int × Bool)) (og : Bool) : sp_small.at [.d (.list (l.map LocG.row) f), .d (.list (acts.map rowLA) g), .d (.list (fr.map rowI) ff), .d (.list (order.map rowLI) og)] =
    .data (acts.length ≤ maxLen ∧ order.length ≤ maxLen) (.d (.bool (smallF l acts fr order))) true :=
  Sp.at_enc (s := sp_small) (fun x y h => by
    obtain ⟨⟨a, b, c, d⟩, e, f, g, i⟩ := x; obtain ⟨⟨a', b', c', d'⟩, e', f', g', i'⟩ := y
    simp only [sp_small, List.cons.injEq, AV.d.injEq, DV.list.injEq, and_true] at h
    obtain ⟨⟨h1, h2⟩, ⟨h3, h4⟩, ⟨h5, h6⟩, h7, h8⟩ := h
    rw [Z3t LocG.row_inj h1, h2, Z3t rowLA_inj h3, h4, Z3t rowI_inj h5, h6, Z3t rowLI_inj h7, h8]) ((l, f, acts, g), fr, ff, order, og)
theorem all_at {α : Type} [Inhabited α] {l : List α} {p : α → Bool} {i : Nat} (hi : i < l.length) (h : p (l.getD i default) = false) : l.all p = false := by
  rw [Bool.eq_false_iff]
  intro hh
  rw [List.all_eq_true] at hh
  have := hh (l.getD i default) (by rw [getD_lt hi]; exact List.getElem_mem hi)
  rw [h] at this; cases this
theorem all_yes {α : Type} [Inhabited α] {l : List α} {p : α → Bool} (h : ∀ i, i < l.length → p (l.getD i default) = true) : l.all p = true := by
  rw [List.all_eq_true]
  intro x hx
  obtain ⟨i, hi, rfl⟩ := List.getElem_of_mem hx
  have := h i hi
  rwa [getD_lt hi] at this
theorem body_law23_small {T : Tab} : sp_small.Body T V_law23_small L_law23_small R_law23_small := by
  rintro ⟨⟨l, f, acts, g⟩, fr, ff, order, og⟩ ⟨h1, h2⟩
  have h1 : acts.length ≤ maxLen := h1
  have h2 : order.length ≤ maxLen := h2
  refine .inl ⟨rfl, ?_⟩
  unfold V_law23_small L_law23_small R_law23_small
  simp (maxSteps := 3000000) only [↓Z19, ↓Z26, ↓Z1z, ↓Z05, ↓Z2m, ↓Z2l, Z4b, Z4g, ↓Z1l, ↓Z17, ↓Z0h, ↓Z20, ↓Z0k, ↓Z1k, ↓Z31, ↓Z30, ↓Z24, ↓Z1x, ↓Z2o, ↓Z2c, ↓Z1j, ↓Z3b, ↓Z4c, ↓Z3l, ↓Z3n, ↓Z3m, ↓Z3y, ↓Z3w, ↓Z48, ↓Z0i, ↓Z09, ↓Z18, ↓Z0g, ↓Z1o, Z49, Z07, Z1b, Z32, Z1a, Z35, evN, Z2g, Z1g, Z34, Z41, Z1f, Z15, Z1e, Z2v, Z2h, Z29, Z1h, Z2a, evT, Opd.ev, Z02, Z00, Z33, Z3z, Z3q, Z27, Z1n, Z28, Z2b, Z3j, Z1m, Z0l, Z3o, LOp.isNew, State.prune, Z3u, Z37, AV.leaf, Heap.at, Z0j, Z0a, Z1i, Z0e, Z03, idx_I, idx_W, rowW, Z2f, Z2w, Z21, Z1c, rowB, Z2y, Z2x, rowN, Z4i, Z3p, Z1d, Z16, w_or, w_and, Z2z, Z4d, w_shl, Z43, w_shr, Z4e, w_neg, w_add, w_bit, w_eq0, w_eq1, w_eq, Bool.decide_eq_true, Z3f, Z3e, Z3i, Z2p, Z1p, Z04, Z0b, Z0n, Z01, Z1y, rowI, RatG.row, LocG.row, ActG.row, StepG.row, StampG.row, ActG.av, ActG.eta, RatG.eta, LocG.eta, beq_true, beq_false, Z2k, Z2u, Z2n, Z2t, Z12, Z0q, Z10, Z11, Z0p, Z0o, Z0c, List.length_set, List.length_replicate, Z06, Int.reduceToNat, Z4t, Z2d, Z4a, Src.all, Src.len, Src.leaf, Src.leafN, Z3a, Z44, Z4p, Z0m, Z0r, Z0s, Z0t, Z0u, Z0v, Z0w, Z0x, Z4r, drows, evMk, List.length_map, Z1w, Z22, List.take_length, List.take_left, List.length_append, Nat.le_add_right, ite_self, List.take_of_length_le, Z3d, Z4n, Z42, Option.isSome_none, Option.isSome_some, Nat.sub_zero, Z4m, Z4v, Z4l, evUn, Z13, Z14, binT, binQ, chk, Z3v, List.contains_cons, List.contains_nil, Bool.or_false, Bool.false_or, Bool.and_self, resQ, resV, resT, Z4u, Z2e, Z47, Z3g, fnOf, Z3c, isD, HO.drow, Z4j, Z3x, evEq, eqV, eqK, eqC1, Z45, Z40, Z39, Z38, Z4f, Z3k, Z2s, Z1s, Z2r, Z1r, Z2q, Z1q, Z1t, Z0y, Z0z, Z0d, List.mem_cons, List.not_mem_nil, or_false, forall_eq, putRow, Z3r, Z23, RetS, RetF, RetD, AV.frz, AV.frzL, AV.freshP, AV.freshL, DV.less, Z2i, Z1u, Z2j, Z1v, Z0f, Z08, Option.some.injEq, AV.tup.injEq, AV.agg.injEq, List.cons.injEq, DV.list.injEq, List.isEmpty_nil, Nat.le_refl, AV.d.injEq, DV.int.injEq, DV.bool.injEq, ↓reduceIte, Nat.reduceEqDiff, Nat.reduceAdd, Nat.reduceBEq, List.length_cons, List.length_nil, List.replicate_succ, List.replicate_zero, List.nil_append, List.cons_append, List.append_nil, List.foldl_cons, List.foldl_nil, List.map_cons, List.map_nil, List.all_cons, List.all_nil, List.set_cons_zero, List.set_cons_succ, List.getD_cons_zero, List.getD_cons_succ, List.drop_zero, List.drop_succ_cons, List.take_succ_cons, List.take_zero, List.flatten_cons, List.flatten_nil, Bool.true_and, Bool.and_true, Bool.not_true, Bool.not_false, true_and, and_true, true_or, or_true, Option.bind_some, Option.map_some, decide_true, decide_false, beq_self_eq_true, true_implies, false_implies, implies_true, not_true_eq_false, not_false_eq_true, and_self, Bool.and_false, Bool.false_and, Nat.reduceLT, Nat.reduceLeDiff, List.reverse_cons, List.reverse_nil, Nat.zero_add, Nat.add_zero, Bool.false_eq_true, List.getElem?_cons_zero, Nat.reduceMul, Nat.mul_one, DeedG.row, idx_Deed, Z4k, Z46, lens_Deed, Z4s, idx_LA, rowLA_len, rowLA_get, idx_LI, rowLI_len, rowLI_get, sp_small]
  refine ⟨fun c1 => by unfold smallF; rw [decide_eq_false (by omega)]; simp, fun c1 => ⟨fun c2 => by unfold smallF; rw [decide_eq_false (show ¬ acts.length ≤ 5 by omega)]; simp, fun c2 => ⟨fun c3 => by unfold smallF; rw [decide_eq_false (show ¬ fr.length ≤ 100 by omega)]; simp, fun c3 => ⟨fun c4 => by unfold smallF; rw [decide_eq_false (show ¬ order.length ≤ 20 by omega)]; simp, fun c4 => ?_⟩⟩⟩⟩
  refine Loop.fam [1, 3, 9] (fun i : Nat => ⟨[(1, .d (.list (acts.map rowLA) g)), (3, .d (.list (order.map rowLI) og)), (9, .d (.int .i64 i))], []⟩) (fun i => i ≤ acts.length ∧ ∀ j, j < i → (acts.getD j default).1.length ≤ 70) (fun i => acts.length - i) 0 [] (by simp) (by simp) (by simp only [State.can, AV.can, AV.canL, HO.can, Z25, idx, Z02, Z00, Heap.at, Nat.reduceBEq, ↓reduceIte, Nat.reduceEqDiff, Option.getD_some, Option.map_some, List.map_cons, List.map_nil, List.getD_cons_zero, List.getD_cons_succ]; rfl) ⟨by omega, by omega⟩ ?_
  rintro i ⟨hi, hj⟩
  simp (maxSteps := 3000000) only [↓Z19, ↓Z26, ↓Z1z, ↓Z05, ↓Z2m, ↓Z2l, Z4b, Z4g, ↓Z1l, ↓Z17, ↓Z0h, ↓Z20, ↓Z0k, ↓Z1k, ↓Z31, ↓Z30, ↓Z24, ↓Z1x, ↓Z2o, ↓Z2c, ↓Z1j, ↓Z3b, ↓Z4c, ↓Z3l, ↓Z3n, ↓Z3m, ↓Z3y, ↓Z3w, ↓Z48, ↓Z0i, ↓Z09, ↓Z18, ↓Z0g, ↓Z1o, Z49, Z07, Z1b, Z32, Z1a, Z35, evN, Z2g, Z1g, Z34, Z41, Z1f, Z15, Z1e, Z2v, Z2h, Z29, Z1h, Z2a, evT, Opd.ev, Z02, Z00, Z33, Z3z, Z3q, Z27, Z1n, Z28, Z2b, Z3j, Z1m, Z0l, Z3o, LOp.isNew, State.prune, Z3u, Z37, AV.leaf, Heap.at, Z0j, Z0a, Z1i, Z0e, Z03, idx_I, idx_W, rowW, Z2f, Z2w, Z21, Z1c, rowB, Z2y, Z2x, rowN, Z4i, Z3p, Z1d, Z16, w_or, w_and, Z2z, Z4d, w_shl, Z43, w_shr, Z4e, w_neg, w_add, w_bit, w_eq0, w_eq1, w_eq, Bool.decide_eq_true, Z3f, Z3e, Z3i, Z2p, Z1p, Z04, Z0b, Z0n, Z01, Z1y, rowI, RatG.row, LocG.row, ActG.row, StepG.row, StampG.row, ActG.av, ActG.eta, RatG.eta, LocG.eta, beq_true, beq_false, Z2k, Z2u, Z2n, Z2t, Z12, Z0q, Z10, Z11, Z0p, Z0o, Z0c, List.length_set, List.length_replicate, Z06, Int.reduceToNat, Z4t, Z2d, Z4a, Src.all, Src.len, Src.leaf, Src.leafN, Z3a, Z44, Z4p, Z0m, Z0r, Z0s, Z0t, Z0u, Z0v, Z0w, Z0x, Z4r, drows, evMk, List.length_map, Z1w, Z22, List.take_length, List.take_left, List.length_append, Nat.le_add_right, ite_self, List.take_of_length_le, Z3d, Z4n, Z42, Option.isSome_none, Option.isSome_some, Nat.sub_zero, Z4m, Z4v, Z4l, evUn, Z13, Z14, binT, binQ, chk, Z3v, List.contains_cons, List.contains_nil, Bool.or_false, Bool.false_or, Bool.and_self, resQ, resV, resT, Z4u, Z2e, Z47, Z3g, fnOf, Z3c, isD, HO.drow, Z4j, Z3x, evEq, eqV, eqK, eqC1, Z45, Z40, Z39, Z38, Z4f, Z3k, Z2s, Z1s, Z2r, Z1r, Z2q, Z1q, Z1t, Z0y, Z0z, Z0d, List.mem_cons, List.not_mem_nil, or_false, forall_eq, putRow, Z3r, Z23, RetS, RetF, RetD, AV.frz, AV.frzL, AV.freshP, AV.freshL, DV.less, Z2i, Z1u, Z2j, Z1v, Z0f, Z08, Option.some.injEq, AV.tup.injEq, AV.agg.injEq, List.cons.injEq, DV.list.injEq, List.isEmpty_nil, Nat.le_refl, AV.d.injEq, DV.int.injEq, DV.bool.injEq, ↓reduceIte, Nat.reduceEqDiff, Nat.reduceAdd, Nat.reduceBEq, List.length_cons, List.length_nil, List.replicate_succ, List.replicate_zero, List.nil_append, List.cons_append, List.append_nil, List.foldl_cons, List.foldl_nil, List.map_cons, List.map_nil, List.all_cons, List.all_nil, List.set_cons_zero, List.set_cons_succ, List.getD_cons_zero, List.getD_cons_succ, List.drop_zero, List.drop_succ_cons, List.take_succ_cons, List.take_zero, List.flatten_cons, List.flatten_nil, Bool.true_and, Bool.and_true, Bool.not_true, Bool.not_false, true_and, and_true, true_or, or_true, Option.bind_some, Option.map_some, decide_true, decide_false, beq_self_eq_true, true_implies, false_implies, implies_true, not_true_eq_false, not_false_eq_true, and_self, Bool.and_false, Bool.false_and, Nat.reduceLT, Nat.reduceLeDiff, List.reverse_cons, List.reverse_nil, Nat.zero_add, Nat.add_zero, Bool.false_eq_true, List.getElem?_cons_zero, Nat.reduceMul, Nat.mul_one, DeedG.row, idx_Deed, Z4k, Z46, lens_Deed, Z4s, idx_LA, rowLA_len, rowLA_get, idx_LI, rowLI_len, rowLI_get]
  refine ⟨fun e => ⟨⟨by omega, by omega⟩, fun e2 => ?_, fun e2 => ?_⟩, fun e => ?_⟩
  · unfold smallF
    rw [all_at (l := acts) (i := i) (by omega) (decide_eq_false (by omega))]; simp
  · rw [Z4h (n := acts.length) (by omega) h1]
    exact Z36.mk [] (i + 1) (by simp) (by simp) (by simp only [State.can, AV.can, AV.canL, HO.can, Z25, idx, Z02, Z00, Heap.at, Nat.reduceBEq, ↓reduceIte, Nat.reduceEqDiff, Option.getD_some, Option.map_some, List.map_cons, List.map_nil, List.getD_cons_zero, List.getD_cons_succ]) ⟨by omega, fun j hj' => by
      by_cases h : j = i
      · rw [h]; omega
      · exact hj j (by omega)⟩ (by omega)
  · have ei : i = acts.length := by omega
    refine Loop.fam [3, 10] (fun i : Nat => ⟨[(3, .d (.list (order.map rowLI) og)), (10, .d (.int .i64 i))], []⟩) (fun i => i ≤ order.length ∧ ∀ j, j < i → (order.getD j default).1.length ≤ 100) (fun i => order.length - i) 0 [] (by simp) (by simp) (by simp only [State.can, AV.can, AV.canL, HO.can, Z25, idx, Z02, Z00, Heap.at, Nat.reduceBEq, ↓reduceIte, Nat.reduceEqDiff, Option.getD_some, Option.map_some, List.map_cons, List.map_nil, List.getD_cons_zero, List.getD_cons_succ]; rfl) ⟨by omega, by omega⟩ ?_
    rintro k ⟨hk, hq⟩
    simp (maxSteps := 3000000) only [↓Z19, ↓Z26, ↓Z1z, ↓Z05, ↓Z2m, ↓Z2l, Z4b, Z4g, ↓Z1l, ↓Z17, ↓Z0h, ↓Z20, ↓Z0k, ↓Z1k, ↓Z31, ↓Z30, ↓Z24, ↓Z1x, ↓Z2o, ↓Z2c, ↓Z1j, ↓Z3b, ↓Z4c, ↓Z3l, ↓Z3n, ↓Z3m, ↓Z3y, ↓Z3w, ↓Z48, ↓Z0i, ↓Z09, ↓Z18, ↓Z0g, ↓Z1o, Z49, Z07, Z1b, Z32, Z1a, Z35, evN, Z2g, Z1g, Z34, Z41, Z1f, Z15, Z1e, Z2v, Z2h, Z29, Z1h, Z2a, evT, Opd.ev, Z02, Z00, Z33, Z3z, Z3q, Z27, Z1n, Z28, Z2b, Z3j, Z1m, Z0l, Z3o, LOp.isNew, State.prune, Z3u, Z37, AV.leaf, Heap.at, Z0j, Z0a, Z1i, Z0e, Z03, idx_I, idx_W, rowW, Z2f, Z2w, Z21, Z1c, rowB, Z2y, Z2x, rowN, Z4i, Z3p, Z1d, Z16, w_or, w_and, Z2z, Z4d, w_shl, Z43, w_shr, Z4e, w_neg, w_add, w_bit, w_eq0, w_eq1, w_eq, Bool.decide_eq_true, Z3f, Z3e, Z3i, Z2p, Z1p, Z04, Z0b, Z0n, Z01, Z1y, rowI, RatG.row, LocG.row, ActG.row, StepG.row, StampG.row, ActG.av, ActG.eta, RatG.eta, LocG.eta, beq_true, beq_false, Z2k, Z2u, Z2n, Z2t, Z12, Z0q, Z10, Z11, Z0p, Z0o, Z0c, List.length_set, List.length_replicate, Z06, Int.reduceToNat, Z4t, Z2d, Z4a, Src.all, Src.len, Src.leaf, Src.leafN, Z3a, Z44, Z4p, Z0m, Z0r, Z0s, Z0t, Z0u, Z0v, Z0w, Z0x, Z4r, drows, evMk, List.length_map, Z1w, Z22, List.take_length, List.take_left, List.length_append, Nat.le_add_right, ite_self, List.take_of_length_le, Z3d, Z4n, Z42, Option.isSome_none, Option.isSome_some, Nat.sub_zero, Z4m, Z4v, Z4l, evUn, Z13, Z14, binT, binQ, chk, Z3v, List.contains_cons, List.contains_nil, Bool.or_false, Bool.false_or, Bool.and_self, resQ, resV, resT, Z4u, Z2e, Z47, Z3g, fnOf, Z3c, isD, HO.drow, Z4j, Z3x, evEq, eqV, eqK, eqC1, Z45, Z40, Z39, Z38, Z4f, Z3k, Z2s, Z1s, Z2r, Z1r, Z2q, Z1q, Z1t, Z0y, Z0z, Z0d, List.mem_cons, List.not_mem_nil, or_false, forall_eq, putRow, Z3r, Z23, RetS, RetF, RetD, AV.frz, AV.frzL, AV.freshP, AV.freshL, DV.less, Z2i, Z1u, Z2j, Z1v, Z0f, Z08, Option.some.injEq, AV.tup.injEq, AV.agg.injEq, List.cons.injEq, DV.list.injEq, List.isEmpty_nil, Nat.le_refl, AV.d.injEq, DV.int.injEq, DV.bool.injEq, ↓reduceIte, Nat.reduceEqDiff, Nat.reduceAdd, Nat.reduceBEq, List.length_cons, List.length_nil, List.replicate_succ, List.replicate_zero, List.nil_append, List.cons_append, List.append_nil, List.foldl_cons, List.foldl_nil, List.map_cons, List.map_nil, List.all_cons, List.all_nil, List.set_cons_zero, List.set_cons_succ, List.getD_cons_zero, List.getD_cons_succ, List.drop_zero, List.drop_succ_cons, List.take_succ_cons, List.take_zero, List.flatten_cons, List.flatten_nil, Bool.true_and, Bool.and_true, Bool.not_true, Bool.not_false, true_and, and_true, true_or, or_true, Option.bind_some, Option.map_some, decide_true, decide_false, beq_self_eq_true, true_implies, false_implies, implies_true, not_true_eq_false, not_false_eq_true, and_self, Bool.and_false, Bool.false_and, Nat.reduceLT, Nat.reduceLeDiff, List.reverse_cons, List.reverse_nil, Nat.zero_add, Nat.add_zero, Bool.false_eq_true, List.getElem?_cons_zero, Nat.reduceMul, Nat.mul_one, DeedG.row, idx_Deed, Z4k, Z46, lens_Deed, Z4s, idx_LA, rowLA_len, rowLA_get, idx_LI, rowLI_len, rowLI_get]
    refine ⟨fun e => ⟨⟨by omega, by omega⟩, fun e2 => ?_, fun e2 => ?_⟩, fun e => ?_⟩
    · unfold smallF
      rw [all_at (l := order) (i := k) (by omega) (decide_eq_false (by omega))]; simp
    · rw [Z4h (n := order.length) (by omega) h2]
      exact Z36.mk [] (k + 1) (by simp) (by simp) (by simp only [State.can, AV.can, AV.canL, HO.can, Z25, idx, Z02, Z00, Heap.at, Nat.reduceBEq, ↓reduceIte, Nat.reduceEqDiff, Option.getD_some, Option.map_some, List.map_cons, List.map_nil, List.getD_cons_zero, List.getD_cons_succ]) ⟨by omega, fun j hj' => by
        by_cases h : j = k
        · rw [h]; omega
        · exact hq j (by omega)⟩ (by omega)
    · unfold smallF
      rw [all_yes (l := acts) (fun j hj' => decide_eq_true (hj j (by omega))), all_yes (l := order) (fun j hj' => decide_eq_true (hq j (by omega)))]
      rw [decide_eq_true (show l.length ≤ 20 by omega), decide_eq_true (show acts.length ≤ 5 by omega), decide_eq_true (show fr.length ≤ 100 by omega), decide_eq_true (show order.length ≤ 20 by omega)]; rfl
/-! ### awake -/
def awl : List LocG := [⟨false, 0⟩]
def awacts : List (List ActG × Bool) := [([⟨2, 0, 0, 1⟩], false), ([⟨1, 0, 1, 0⟩, ⟨1, 0, 0, 0⟩], false)]
def awfr : List Int := [1, 0]
def aword : List (List Int × Bool) := [([1], false)]
def awD : List DeedG := [⟨-1, ⟨2, 0, 0, 0⟩⟩, ⟨0, ⟨2, 0, 0, 1⟩⟩, ⟨1, ⟨1, 0, 1, 0⟩⟩, ⟨1, ⟨1, 0, 0, 0⟩⟩]
def awX : WG := ⟨awl, false, awD, false, [8#64, 4#64, 0#64, 0#64], false, [2#64, 0#64, 0#64, 0#64], false⟩
theorem aw_sort : sortI [1] = [1] := by unfold sortI; simp
theorem aw_deeds : deedsG awl awacts = (awD, 0) := by decide +kernel
theorem aw_rd : rdG awD awfr 4 = some ([], [⟨1, 2⟩, ⟨0, 3⟩]) := by decide +kernel
theorem aw_co : coG awD 1 aword 1 = some [⟨0, 1⟩] := by
  unfold coG
  have h : coG awD 1 aword 0 = some [] := rfl
  rw [h]
  have h2 : (aword.getD 0 default).1 = [1] := rfl
  simp only [h2, aw_sort]
  rw [if_pos (by decide +kernel)]
  decide +kernel
theorem aw_rf : ofG 4 [⟨1, 2⟩, ⟨0, 3⟩] = [8#64, 4#64, 0#64, 0#64] := by decide +kernel
theorem aw_co2 : ofG 4 [⟨0, 1⟩] = [2#64, 0#64, 0#64, 0#64] := by decide +kernel
theorem aw_build : buildG awl awacts awfr aword = (awX, 0) := by
  unfold buildG
  rw [aw_deeds]
  simp only [show awD.length = 4 from rfl, aw_rd, show awl.length = 1 from rfl, show aword.length = 1 from rfl, aw_co]
  simp only [ne_eq, not_true, if_false, or_self]
  rw [show ((4 : Nat) : Int) = 4 from rfl, aw_rf, aw_co2]; rfl
theorem aw_ok : awX.Ok := ⟨by decide, ⟨by decide +kernel⟩, ⟨by decide +kernel⟩⟩
theorem aw_chk : chkW awX = 0 := by decide +kernel
theorem aw_fr : hasI (frW awX) 3 1 = true := by decide +kernel
theorem aw_ord : hasI (ordW awX) 2 3 = true := by decide +kernel
theorem aw_small : smallB awl awacts awfr aword := by
  refine ⟨⟨by decide, by decide, by decide⟩, by decide, by decide, by decide⟩
theorem aw_at : sp_Build.at [.d (.list [[.bool false, .int .i64 0]] false), .d (.list [[.list [[.int .i64 2, .int .i64 0, .int .i64 0, .int .i64 1]] false], [.list [[.int .i64 1, .int .i64 0, .int .i64 1, .int .i64 0], [.int .i64 1, .int .i64 0, .int .i64 0, .int .i64 0]] false]] false),
    .d (.list [[.int .i64 1], [.int .i64 0]] false), .d (.list [[.list [[.int .i64 1]] false]] false)] =
    .data True (.tup [.agg [.d (.list (awX.locs.map LocG.row) awX.lf), .d (.list (awX.deeds.map DeedG.row) awX.df), .d (.list (awX.rf.map rowW) awX.rff), .d (.list (awX.co.map rowW) awX.cof)], .d (.int .i64 0)]) false := by
  have h := at_Build awl false awacts false awfr false aword false
  rw [aw_build, show smallB awl awacts awfr aword = True from eq_true aw_small] at h
  exact h
theorem at_chkWX (x : WG) : sp_chkW.at [.agg [.d (.list (x.locs.map LocG.row) x.lf), .d (.list (x.deeds.map DeedG.row) x.df), .d (.list (x.rf.map rowW) x.rff), .d (.list (x.co.map rowW) x.cof)]] = .data x.Ok (.d (.int .i64 (chkW x))) true := at_chkW x
theorem aw_dl : awX.deeds.length = 4 := rfl
theorem body_law23_awake {T : Tab} {n1 n2 n3 n4 n5 : Nat} (k1 : Knows T n1 sp_Build) (k2 : Knows T n2 sp_chkW) (k3 : Knows T n3 sp_orderW) (k4 : Knows T n4 sp_frW) (k5 : Knows T n5 sp_Has) : sp_true.Body T V_law23_awake (L_law23_awake n1 n2 n3 n4 n5) R_law23_awake := by
  have F1 := k1.F; have G1 := k1.G; have F2 := k2.F; have G2 := k2.G; have F3 := k3.F; have G3 := k3.G; have F4 := k4.F; have G4 := k4.G; have F5 := k5.F; have G5 := k5.G
  rintro x -
  refine .inl ⟨rfl, ?_⟩
  unfold V_law23_awake L_law23_awake R_law23_awake
  simp (maxSteps := 3000000) only [↓Z19, ↓Z26, ↓Z1z, ↓Z05, ↓Z2m, ↓Z2l, Z4b, Z4g, ↓Z1l, ↓Z17, ↓Z0h, ↓Z20, ↓Z0k, ↓Z1k, ↓Z31, ↓Z30, ↓Z24, ↓Z1x, ↓Z2o, ↓Z2c, ↓Z1j, ↓Z3b, ↓Z4c, ↓Z3l, ↓Z3n, ↓Z3m, ↓Z3y, ↓Z3w, ↓Z48, ↓Z0i, ↓Z09, ↓Z18, ↓Z0g, ↓Z1o, Z49, Z07, Z1b, Z32, Z1a, Z35, evN, Z2g, Z1g, Z34, Z41, Z1f, Z15, Z1e, Z2v, Z2h, Z29, Z1h, Z2a, evT, Opd.ev, Z02, Z00, Z33, Z3z, Z3q, Z27, Z1n, Z28, Z2b, Z3j, Z1m, Z0l, Z3o, LOp.isNew, State.prune, Z3u, Z37, AV.leaf, Heap.at, Z0j, Z0a, Z1i, Z0e, Z03, idx_I, idx_W, rowW, Z2f, Z2w, Z21, Z1c, rowB, Z2y, Z2x, rowN, Z4i, Z3p, Z1d, Z16, w_or, w_and, Z2z, Z4d, w_shl, Z43, w_shr, Z4e, w_neg, w_add, w_bit, w_eq0, w_eq1, w_eq, Bool.decide_eq_true, Z3f, Z3e, Z3i, Z2p, Z1p, Z04, Z0b, Z0n, Z01, Z1y, rowI, RatG.row, LocG.row, ActG.row, StepG.row, StampG.row, ActG.av, ActG.eta, RatG.eta, LocG.eta, beq_true, beq_false, Z2k, Z2u, Z2n, Z2t, Z12, Z0q, Z10, Z11, Z0p, Z0o, Z0c, List.length_set, List.length_replicate, Z06, Int.reduceToNat, Z4t, Z2d, Z4a, Src.all, Src.len, Src.leaf, Src.leafN, Z3a, Z44, Z4p, Z0m, Z0r, Z0s, Z0t, Z0u, Z0v, Z0w, Z0x, Z4r, drows, evMk, List.length_map, Z1w, Z22, List.take_length, List.take_left, List.length_append, Nat.le_add_right, ite_self, List.take_of_length_le, Z3d, Z4n, Z42, Option.isSome_none, Option.isSome_some, Nat.sub_zero, Z4m, Z4v, Z4l, evUn, Z13, Z14, binT, binQ, chk, Z3v, List.contains_cons, List.contains_nil, Bool.or_false, Bool.false_or, Bool.and_self, resQ, resV, resT, Z4u, Z2e, Z47, Z3g, fnOf, Z3c, isD, HO.drow, Z4j, Z3x, evEq, eqV, eqK, eqC1, Z45, Z40, Z39, Z38, Z4f, Z3k, Z2s, Z1s, Z2r, Z1r, Z2q, Z1q, Z1t, Z0y, Z0z, Z0d, List.mem_cons, List.not_mem_nil, or_false, forall_eq, putRow, Z3r, Z23, RetS, RetF, RetD, AV.frz, AV.frzL, AV.freshP, AV.freshL, DV.less, Z2i, Z1u, Z2j, Z1v, Z0f, Z08, Option.some.injEq, AV.tup.injEq, AV.agg.injEq, List.cons.injEq, DV.list.injEq, List.isEmpty_nil, Nat.le_refl, AV.d.injEq, DV.int.injEq, DV.bool.injEq, ↓reduceIte, Nat.reduceEqDiff, Nat.reduceAdd, Nat.reduceBEq, List.length_cons, List.length_nil, List.replicate_succ, List.replicate_zero, List.nil_append, List.cons_append, List.append_nil, List.foldl_cons, List.foldl_nil, List.map_cons, List.map_nil, List.all_cons, List.all_nil, List.set_cons_zero, List.set_cons_succ, List.getD_cons_zero, List.getD_cons_succ, List.drop_zero, List.drop_succ_cons, List.take_succ_cons, List.take_zero, List.flatten_cons, List.flatten_nil, Bool.true_and, Bool.and_true, Bool.not_true, Bool.not_false, true_and, and_true, true_or, or_true, Option.bind_some, Option.map_some, decide_true, decide_false, beq_self_eq_true, true_implies, false_implies, implies_true, not_true_eq_false, not_false_eq_true, and_self, Bool.and_false, Bool.false_and, Nat.reduceLT, Nat.reduceLeDiff, List.reverse_cons, List.reverse_nil, Nat.zero_add, Nat.add_zero, Bool.false_eq_true, List.getElem?_cons_zero, Nat.reduceMul, Nat.mul_one, DeedG.row, idx_Deed, Z4k, Z46, lens_Deed, Z4s, idx_LA, rowLA_len, rowLA_get, idx_LI, rowLI_len, rowLI_get, Option.bind_none, Option.bind_some, vrowsT, vcellsT, vcellT, List.take_succ_cons, List.take_zero, List.drop_zero, aw_at, at_chkWX, at_orderWX, at_frWX, at_Has, aw_ok, aw_chk, aw_fr, aw_ord, aw_dl, sp_true, F1, G1, F2, G2, F3, G3, F4, G4, F5, G5]
  have e1 : (frW awX).length = 4 := by unfold frW; rw [Z4o]; rfl
  have e2 : (ordW awX).length = 4 := by unfold ordW plusG; rw [Z4o]; rfl
  exact ⟨⟨by omega, by omega, roomy_of (by omega) (by omega)⟩, fun _ => ⟨by rw [e1]; decide, by rw [e2]; decide⟩, fun h => h rfl⟩
end Go.Ago

/- The law AxiomTurns. Conditions: none. -/
set_option maxRecDepth 100000
set_option linter.unusedSimpArgs false
set_option linter.unusedVariables false
namespace Go.Ago
attribute [local irreducible] vck
abbrev shLA : Sh := .sl shAct
abbrev shLI : Sh := .sl (.int .i64)
theorem has_LA {r : List DV} (h : shLA.has r) : ∃ x : List ActG × Bool, r = rowLA x ∧ (x.1.length ≤ maxLen ∧ ∀ a ∈ x.1, a.inn) := by
  obtain ⟨l, f, rfl, h1, hl⟩ := has_list (f := ActG.row) (ok := ActG.inn) (fun _ h => has_act h) h
  exact ⟨(l, f), rfl, hl, h1⟩
theorem has_LI {r : List DV} (h : shLI.has r) : ∃ x : List Int × Bool, r = rowLI x ∧ (x.1.length ≤ maxLen ∧ ∀ a ∈ x.1, inI a) := by
  obtain ⟨l, f, rfl, h1, hl⟩ := has_list (f := rowI) (ok := inI) (fun _ h => has_i64 h) h
  exact ⟨(l, f), rfl, hl, h1⟩
end Go.Ago

/- The reference of layer 23: the deeds. Conditions: none. -/
set_option maxRecDepth 100000
set_option linter.unusedSimpArgs false
set_option linter.unusedVariables false
namespace Go.Ago
attribute [local irreducible] vck
end Go.Ago

/- Contracts of the reference of layer 2: its small functions, Put, Of, Lay, Then, Back. Conditions: none. -/
set_option maxRecDepth 100000
set_option linter.unusedSimpArgs false
set_option linter.unusedVariables false
namespace Go.Ago

theorem body_ref02_Size {T : Tab} : sp_size.Body T V_ref02_Size L_ref02_Size R_ref02_Size := by
  rintro ⟨l, f⟩ h
  refine .inl ⟨rfl, ?_⟩
  unfold V_ref02_Size L_ref02_Size R_ref02_Size
  simp only [↓Z19, ↓Z26, ↓Z05, ↓Z1l, ↓Z17, ↓Z0k, ↓Z1k, ↓Z30, ↓Z1j, ↓Z3b, ↓Z0g, Z49, Z07, Z32, Z35, evN, Z1g, Z34, Z1f, Z1e, Z2a, evT, Opd.ev, Z02, Z00, Z33, Z28, Z2b, Z1m, Z0l, Z3o, LOp.isNew, State.prune, Z4t, List.length_map, Z4l, binT, binQ, resQ, resV, resT, Z23, RetS, AV.d.injEq, DV.int.injEq, ↓reduceIte, Nat.reduceBEq, List.length_nil, List.replicate_zero, List.append_nil, List.map_cons, List.map_nil, true_and, Nat.add_zero, Bool.false_eq_true, sp_size]
  unfold szR
  refine ⟨fun h => by omega, fun h => by omega⟩

theorem one_shl_nat {k : Nat} (h : k < 64) : (1#64 <<< k).toNat = 2 ^ k := by
  rw [BitVec.toNat_shiftLeft, Nat.shiftLeft_eq]
  have : 2 ^ k < 2 ^ 64 := Nat.pow_lt_pow_right (by omega) h
  have e1 : (1#64).toNat = 1 := rfl
  rw [e1, Nat.one_mul]; exact Nat.mod_eq_of_lt this
theorem one_shl_ne {k : Nat} (h : k < 64) : ¬ (1#64 <<< k = 0#64) := fun e => by
  have := congrArg BitVec.toNat e
  rw [one_shl_nat h] at this
  have h2 : 0 < 2 ^ k := Nat.pow_pos (by omega)
  have h3 : (0#64).toNat = 0 := rfl
  omega
theorem has_quo {x : W} {k : Nat} (h : k < 64) : (Int.tmod (IntKind.u64.wrap (Int.tdiv (x.toNat : Int) ((1#64 <<< k).toNat : Int))) 2 = 1) = (x.getLsbD k = true) := by
  rw [one_shl_nat h, ← Int.ofNat_tdiv, wrapU (Nat.lt_of_le_of_lt (Nat.div_le_self _ _) (wlt x))]
  have e2 : Int.tmod ((x.toNat / 2 ^ k : Nat) : Int) 2 = ((x.toNat / 2 ^ k % 2 : Nat) : Int) := by
    generalize x.toNat / 2 ^ k = m
    rw [Int.tmod_eq_emod_of_nonneg (by omega)]; omega
  rw [e2]
  apply propext
  rw [show x.getLsbD k = x.toNat.testBit k from rfl, Nat.testBit_eq_decide_div_mod_eq, decide_eq_true_eq]
  omega
theorem body_ref02_Has {T : Tab} {n1 : Nat} (k1 : Knows T n1 sp_size) : sp_Has.Body T V_ref02_Has (L_ref02_Has n1) R_ref02_Has := by
  have F1 := k1.F; have G1 := k1.G
  rintro ⟨l, f, i, k⟩ h2
  have h2 : l.length ≤ maxLen := h2
  have := szR_le l
  have := szR_len l
  refine .inl ⟨rfl, ?_⟩
  unfold V_ref02_Has L_ref02_Has R_ref02_Has
  simp only [↓Z19, ↓Z26, ↓Z05, ↓Z1l, ↓Z17, ↓Z0k, ↓Z1k, ↓Z30, ↓Z1j, ↓Z3b, ↓Z0i, ↓Z09, ↓Z0g, Z49, Z07, Z32, Z1a, Z35, evN, Z2g, Z1g, Z34, Z1f, Z15, Z1e, Z29, Z2a, evT, Opd.ev, Z02, Z00, Z33, Z27, Z28, Z2b, Z1m, Z0l, Z3o, LOp.isNew, State.prune, Z0a, idx_W, rowW, Z16, Z43, Z1y, Z4m, Z4l, binT, binQ, resQ, resV, resT, Z4u, Z2e, Z3g, fnOf, Z3c, Z4j, Z23, RetS, AV.d.injEq, DV.bool.injEq, ↓reduceIte, Nat.reduceAdd, Nat.reduceBEq, List.length_cons, List.length_nil, List.replicate_zero, List.append_nil, List.map_cons, List.map_nil, List.getD_cons_zero, List.flatten_cons, List.flatten_nil, true_and, Nat.reduceLT, Nat.zero_add, Nat.add_zero, Bool.false_eq_true, sp_Has, F1, G1, at_size]
  refine ⟨h2, fun c1 => ?_, fun c1 => ⟨fun c2 => ?_, fun c2 => ⟨fun c3 => ?_, fun c3 => ⟨fun c4 => ?_, fun c4 => ?_⟩⟩⟩⟩
  · rw [hasI_no (by omega)]
  · rw [hasI_no (by omega)]
  · rw [hasI_no (by omega)]
  · rw [hasI_no (by omega)]
  · obtain ⟨i, rfl⟩ := Int.eq_ofNat_of_zero_le (by omega : 0 ≤ i)
    obtain ⟨k, rfl⟩ := Int.eq_ofNat_of_zero_le (by omega : 0 ≤ k)
    rw [wrapU (k := k) (by omega)]
    have hk : k < 64 := by omega
    have hq : ∀ x : W, _ := fun x => has_quo (x := x) hk
    simp only [Z06, Z43, hq, w_eq0, Bool.decide_eq_true]
    refine ⟨by omega, by omega, fun e => one_shl_ne hk (by rw [← w_eq0]; exact e), by decide, ?_⟩
    rw [hasI_nat]
    unfold hasN
    rw [decide_eq_true (by omega : i < szR l), decide_eq_true (by omega : k < szR l)]
    simp

/-! ### Put -/
def putR (R : List W) (i k : Nat) : List W := R.set i (R.getD i 0#64 ||| 1#64 <<< k)
def ef_Put : Ef where
  A := List W × Nat × Bool × Int × Int
  args := fun x id => [.ref id 1 0 x.2.1 x.2.2.1, .d (.int .i64 x.2.2.2.1), .d (.int .i64 x.2.2.2.2)]
  sz := 1
  rows := fun x => x.1.map rowW
  ok := fun x => (x.2.1 = x.1.length ∧ x.1.length ≤ 64) ∧ (0 ≤ x.2.2.2.1 ∧ x.2.2.2.1 < szR x.1) ∧ (0 ≤ x.2.2.2.2 ∧ x.2.2.2.2 < szR x.1)
  val := fun _ => .tup []
  rows' := fun x => (putR x.1 x.2.2.2.1.toNat x.2.2.2.2.toNat).map rowW
open Classical in
noncomputable def putE (o : HO) (id n : Nat) (i k : Int) : Option Eff := if h : ∃ R, o = .dvec 1 (R.map rowW) then some ⟨(n = h.choose.length ∧ h.choose.length ≤ 64) ∧ (0 ≤ i ∧ i < szR h.choose) ∧ (0 ≤ k ∧ k < szR h.choose), .tup [], [(id, .dvec 1 ((putR h.choose i.toNat k.toNat).map rowW))], [], none⟩ else none
theorem putE_d {R : List W} {id n : Nat} {i k : Int} : putE (.dvec 1 (R.map rowW)) id n i k = some ⟨(n = R.length ∧ R.length ≤ 64) ∧ (0 ≤ i ∧ i < szR R) ∧ (0 ≤ k ∧ k < szR R), .tup [], [(id, .dvec 1 ((putR R i.toNat k.toNat).map rowW))], [], none⟩ := by
  have h : ∃ R' : List W, HO.dvec 1 (R.map rowW) = .dvec 1 (R'.map rowW) := ⟨R, rfl⟩
  unfold putE
  rw [dif_pos h]
  have e : R = h.choose := by
    have h1 := h.choose_spec
    injection h1 with _ h2
    exact Z3t rowW_inj h2
  rw [← e]
theorem at_Put {id n : Nat} {room : Bool} {i k : Int} {H : Heap} : ef_Put.at [.ref id 1 0 n room, .d (.int .i64 i), .d (.int .i64 k)] H = putE (H.at id) id n i k := by
  by_cases h : ∃ R : List W, H.at id = .dvec 1 (R.map rowW)
  · obtain ⟨R, hR⟩ := h
    rw [hR, putE_d]
    refine (Ef.at_fits (e := ef_Put) (p := ((R, n, room, i, k), id)) ?_ ⟨rfl, hR⟩).trans rfl
    · rintro ⟨⟨a, b, c, d, e⟩, p⟩ ⟨⟨a', b', c', d', e'⟩, p'⟩ args H ⟨h1, h2⟩ ⟨h3, h4⟩
      simp only [ef_Put] at h1 h2 h3 h4
      rw [← h1] at h3
      simp only [List.cons.injEq, AV.ref.injEq, AV.d.injEq, DV.int.injEq, and_true, true_and] at h3
      obtain ⟨⟨e1, e2, e3⟩, e4, e5⟩ := h3
      subst e1
      rw [h2] at h4
      simp only [HO.dvec.injEq, true_and] at h4
      rw [Z3t rowW_inj h4, e2, e3, e4, e5]
  · have h1 : putE (H.at id) id n i k = none := by unfold putE; rw [dif_neg h]
    rw [h1]
    unfold Ef.at
    rw [dif_neg]
    rintro ⟨⟨⟨a, b, c, d, e⟩, p⟩, h2, h3⟩
    simp only [ef_Put, List.cons.injEq, AV.ref.injEq] at h2 h3
    obtain ⟨⟨rfl, -⟩, -⟩ := h2
    exact h ⟨a, h3⟩

theorem add_or {x : W} {k : Nat} (h : x.getLsbD k = false) (hk : k < 64) : x + 1#64 <<< k = x ||| 1#64 <<< k := by
  apply BitVec.add_eq_or_of_and_eq_zero
  apply W.ext
  intro j hj
  rw [BitVec.getLsbD_and, one_shl hk]
  by_cases e : k = j
  · subst e; simp [h]
  · simp [e]
theorem or_same {x : W} {k : Nat} (h : x.getLsbD k = true) (hk : k < 64) : x ||| 1#64 <<< k = x := by
  apply W.ext
  intro j hj
  rw [BitVec.getLsbD_or, one_shl hk]
  by_cases e : k = j
  · subst e; simp [h]
  · simp [e]
theorem eff_ref02_Put {T : Tab} {n1 : Nat} (k1 : Knows T n1 sp_Has) : ef_Put.Body T V_ref02_Put (L_ref02_Put n1) R_ref02_Put := by
  have F1 := k1.F; have G1 := k1.G
  refine ⟨fun x ρ => rfl, fun x ρ => rfl, ?_⟩
  rintro ⟨R, n, room, i, k⟩ ⟨⟨h1, h4⟩, h2, h3⟩
  have h1 : n = R.length := h1
  have h4 : R.length ≤ 64 := h4
  have h2 : 0 ≤ i ∧ i < szR R := h2
  have h3 : 0 ≤ k ∧ k < szR R := h3
  subst h1
  have := szR_le R
  have := szR_len R
  obtain ⟨i, rfl⟩ := Int.eq_ofNat_of_zero_le h2.1
  obtain ⟨k, rfl⟩ := Int.eq_ofNat_of_zero_le h3.1
  unfold V_ref02_Put L_ref02_Put R_ref02_Put
  simp only [↓Z19, ↓Z05, ↓Z1l, ↓Z17, ↓Z0k, ↓Z1k, ↓Z1j, ↓Z4c, ↓Z18, Z49, Z07, Z32, Z35, evN, Z2g, Z1g, Z34, Z1f, Z15, Z1e, Z2a, evT, Opd.ev, Z02, Z00, Z33, Z3z, Z3q, Z28, Z2b, Z1m, Z0l, Z3o, LOp.isNew, State.prune, Heap.at, Z0j, Z03, rowW, Z2f, Z16, Z43, w_add, Z04, Z0b, Z01, Z1y, Z06, List.length_map, List.take_of_length_le, Z4m, Z4l, evUn, binT, binQ, resQ, resV, Z2e, Z3g, fnOf, Z3c, Z4j, putRow, Nat.le_refl, ↓reduceIte, Nat.reduceAdd, Nat.reduceBEq, List.length_cons, List.length_nil, List.replicate_zero, List.nil_append, List.append_nil, List.map_cons, List.map_nil, List.set_cons_zero, List.getD_cons_zero, List.drop_zero, List.drop_succ_cons, List.take_zero, List.flatten_cons, List.flatten_nil, true_and, and_true, and_self, Nat.reduceLT, Nat.zero_add, Nat.add_zero, Bool.false_eq_true, ef_Put, F1, G1, at_Has]
  have hk : k < 64 := by omega
  have hi : hasI R i k = (R.getD i 0#64).getLsbD k := by
    rw [hasI_nat]
    unfold hasN
    rw [decide_eq_true (by omega : i < szR R), decide_eq_true (by omega : k < szR R)]
    simp
  rw [hi, wrapU (k := k) (by omega)]
  refine ⟨by unfold maxLen; omega, fun hb => ?_, fun hb => ⟨by omega, by omega, by omega, by omega, by omega, ?_⟩⟩
  · have e : putR R i k = R := by
      unfold putR
      rw [or_same hb hk]
      have : R.getD i 0#64 = R[i] := getD_lt (by omega)
      rw [this]; exact List.set_getElem_self (by omega)
    rw [e]
    exact RetG.mk [0] (by simp) (by simp) (fun i hi => by have : i = 0 := by omega
                                                          subst this; rfl) (by simp [AV.can, AV.canL]) (by simp [HO.can, Heap.at])
  · simp only [Z06]
    rw [add_or hb hk]
    exact RetG.mk [0] (by simp) (by simp) (fun i hi => by have : i = 0 := by omega
                                                          subst this; rfl) (by simp [AV.can, AV.canL]) (by simp [HO.can, Heap.at, putR])
end Go.Ago

/- Contracts of the reference of layer 2: most, Copy, Same, Of, Lay, Then, Back. Conditions: none. -/
set_option maxRecDepth 100000
set_option linter.unusedSimpArgs false
set_option linter.unusedVariables false
namespace Go.Ago

theorem szR_mk' {n : Nat} {p : Nat → Nat → Bool} (h : n ≤ 64) : szR (mkR n p) = n := by rw [szR_mk]; omega
theorem mkR_take {n : Nat} {p : Nat → Nat → Bool} : (mkR n p).take n = mkR n p := List.take_of_length_le (by rw [Z4o]; omega)
theorem putR_mk {n : Nat} {p : Nat → Nat → Bool} {i k : Nat} (hn : n ≤ 64) (hi : i < n) (hk : k < n) : putR (mkR n p) i k = mkR n fun a b => p a b || (decide (a = i) && decide (b = k)) := by
  unfold putR
  rw [mkR_set (q := fun a b => p a b || (decide (a = i) && decide (b = k))) hi]
  · intro j hj
    rw [BitVec.getLsbD_or, mkR_get hi, one_shl (by omega)]
    by_cases hjn : j < n
    · by_cases e : k = j
      · subst e; simp [hj, hjn]
      · have : ¬ j = k := fun h => e h.symm
        simp [hj, hjn, e, this]
    · have : ¬ k = j := by omega
      simp [hjn, this]
  · intro a j ha hj hne
    simp [hne]

def sp_most : Sp := ⟨List W × Bool × List W × Bool, fun x => [.d (.list (x.1.map rowW) x.2.1), .d (.list (x.2.2.1.map rowW) x.2.2.2)], fun x => .data (x.1.length ≤ maxLen ∧ x.2.2.1.length ≤ maxLen) (.d (.int .i64 (mxR x.1 x.2.2.1))) true⟩
theorem at_most' (A B : List W) (e f : Bool) : sp_most.at [.d (.list (A.map rowW) e), .d (.list (B.map rowW) f)] = .data (A.length ≤ maxLen ∧ B.length ≤ maxLen) (.d (.int .i64 (mxR A B))) true :=
  Sp.at_enc (s := sp_most) (fun x y h => by
    obtain ⟨a, b, c, d⟩ := x; obtain ⟨a', b', c', d'⟩ := y
    simp only [sp_most, List.cons.injEq, AV.d.injEq, DV.list.injEq, and_true] at h
    rw [Z3t rowW_inj h.1.1, h.1.2, Z3t rowW_inj h.2.1, h.2.2]) (A, e, B, f)
theorem body_ref02_most {T : Tab} {n1 : Nat} (k1 : Knows T n1 sp_size) : sp_most.Body T V_ref02_most (L_ref02_most n1) R_ref02_most := by
  have F1 := k1.F; have G1 := k1.G
  rintro ⟨A, e, B, f⟩ ⟨h1, h2⟩
  refine .inl ⟨rfl, ?_⟩
  unfold V_ref02_most L_ref02_most R_ref02_most
  simp only [↓Z19, ↓Z26, ↓Z05, ↓Z1l, ↓Z17, ↓Z0k, ↓Z1k, ↓Z30, ↓Z1j, ↓Z3b, ↓Z0g, Z49, Z07, Z32, Z35, evN, Z2g, Z1g, Z34, Z1f, Z15, Z1e, Z2a, evT, Opd.ev, Z02, Z00, Z33, Z28, Z2b, Z1m, Z0l, Z3o, LOp.isNew, State.prune, Z4l, binT, binQ, resQ, resV, resT, Z2e, Z3g, fnOf, Z3c, Z4j, Z23, RetS, AV.d.injEq, DV.int.injEq, ↓reduceIte, Nat.reduceBEq, List.length_nil, List.replicate_zero, List.append_nil, List.map_cons, List.map_nil, List.flatten_cons, List.flatten_nil, true_and, Nat.zero_add, Nat.add_zero, Bool.false_eq_true, sp_most, F1, G1, at_size]
  unfold mxR
  refine ⟨h1, h2, fun c => ⟨h1, by omega⟩, fun c => ⟨h2, by omega⟩⟩

def sp_sameW : Sp := sp_same rowW
theorem at_sameW (a b : List W) (f g : Bool) : sp_sameW.at [.d (.list (a.map rowW) f), .d (.list (b.map rowW) g)] = .data (a.length ≤ maxLen) (.d (.bool (decide (a = b)))) true := at_same rowW_inj a b f g
theorem body_ref02_Same {T : Tab} : sp_sameW.Body T V_ref02_Same L_ref02_Same R_ref02_Same := by
  rintro ⟨a, f, b, g⟩ hlen
  refine .inl ⟨rfl, ?_⟩
  unfold V_ref02_Same L_ref02_Same R_ref02_Same
  simp only [↓Z19, ↓Z26, ↓Z05, ↓Z1l, ↓Z17, ↓Z0h, ↓Z20, ↓Z0k, ↓Z1k, ↓Z30, ↓Z1j, ↓Z3b, ↓Z18, ↓Z0g, Z49, Z07, Z32, Z35, evN, Z1g, Z34, Z1f, Z1e, Z2a, evT, Opd.ev, Z02, Z00, Z33, Z28, Z2b, Z1m, Z0l, Z3o, LOp.isNew, State.prune, Z4t, List.length_map, Z4l, binT, binQ, resQ, resV, resT, Z23, RetS, AV.d.injEq, DV.bool.injEq, ↓reduceIte, Nat.reduceBEq, List.length_nil, List.replicate_zero, List.append_nil, List.map_cons, List.map_nil, true_and, Nat.zero_add, Nat.add_zero, Bool.false_eq_true, sp_sameW, sp_same]
  have hm : maxLen = 9223372036854775807 := rfl
  have hlen : a.length ≤ maxLen := hlen
  refine ⟨fun h => ?_, fun h => ?_⟩
  · have hab : a.length = b.length := by omega
    refine Loop.fam [0, 1, 5] (fun i : Nat => ⟨[(0, .d (.list (a.map rowW) f)), (1, .d (.list (b.map rowW) g)), (5, .d (.int .i64 (i : Nat)))], []⟩) (fun i => i ≤ a.length ∧ a.take i = b.take i) (fun i => a.length - i) 0 [] (by simp) (by simp)
      (by simp only [State.can, AV.can, HO.can, Z02, Z00, Heap.at, Nat.reduceBEq, Option.getD_some, List.map_cons, List.map_nil]; rfl) ⟨by omega, by simp⟩ ?_
    rintro i ⟨h1, h2⟩
    simp only [↓Z19, ↓Z26, ↓Z1z, ↓Z05, ↓Z1l, ↓Z17, ↓Z0h, ↓Z0k, ↓Z1k, ↓Z31, ↓Z30, ↓Z24, ↓Z1x, ↓Z2c, ↓Z1j, ↓Z3b, ↓Z3y, ↓Z3w, ↓Z48, ↓Z18, ↓Z0g, Z49, Z07, Z1b, Z32, Z35, evN, Z1g, Z34, Z41, Z1f, Z1e, Z2a, evT, Opd.ev, Z02, Z00, Z33, Z28, Z2b, Z0l, Z3o, LOp.isNew, State.prune, Z0a, idx_W, rowW, Z16, w_eq, Z1y, Z06, Z4t, List.length_map, Z4m, Z4l, binT, binQ, chk, Z3v, resQ, resV, resT, Z23, RetS, AV.d.injEq, DV.bool.injEq, ↓reduceIte, Nat.reduceBEq, List.length_cons, List.length_nil, List.replicate_zero, List.nil_append, List.cons_append, List.append_nil, List.map_cons, List.map_nil, List.all_nil, List.getD_cons_zero, true_and, Nat.reduceLT, List.reverse_cons, List.reverse_nil, Nat.zero_add, Nat.add_zero, Bool.false_eq_true]
    refine ⟨fun h3 => ?_, fun h3 => ?_⟩
    · have h3 : i < a.length := by omega
      rw [Z4h h3 hlen]
      refine ⟨by omega, by omega, fun h4 => ?_, fun h4 => ?_⟩
      · exact Z36.mk [] (i + 1) (by simp) (by simp) (by simp only [State.can, AV.can, HO.can, Z02, Z00, Heap.at, Nat.reduceBEq, Option.getD_some, List.map_cons, List.map_nil]) ⟨by omega, take_next (d := 0#64) h2 h3 (by omega) h4⟩ (by omega)
      · simp only [Bool.false_eq, decide_eq_false_iff_not]
        intro e; subst e; exact h4 rfl
    · have : i = a.length := by omega
      subst this
      exact (decide_eq_true (take_all h2 hab)).symm
  · simp only [Bool.false_eq, decide_eq_false_iff_not]
    intro e; subst e; exact h rfl
end Go.Ago

/- Contracts of the reference of layer 2: Lay, Then, Back. Conditions: none. -/
set_option maxRecDepth 100000
set_option linter.unusedSimpArgs false
set_option linter.unusedVariables false
namespace Go.Ago

/-! Row by row, place by place: what lies ahead of (i, k). -/
def dn (i k a b : Nat) : Bool := decide (a < i) || decide (a = i) && decide (b < k)
theorem dn_step {i k a b : Nat} : dn i (k + 1) a b = (dn i k a b || (decide (a = i) && decide (b = k))) := by
  unfold dn
  by_cases h1 : a < i <;> by_cases h2 : a = i <;> by_cases h3 : b < k <;> by_cases h4 : b = k <;> simp [h1, h2, h3, h4] <;> omega
theorem dn_next {i n a b : Nat} (hb : b < n) : dn i n a b = dn (i + 1) 0 a b := by
  unfold dn
  by_cases h1 : a < i
  · have : a < i + 1 := by omega
    simp [h1, this]
  · by_cases h2 : a = i
    · subst h2; simp [hb]
    · have : ¬ a < i + 1 := by omega
      simp [h1, h2, this]
theorem dn_start {a b : Nat} : dn 0 0 a b = false := by unfold dn; simp
theorem dn_end {n a b : Nat} (ha : a < n) : dn n 0 a b = true := by unfold dn; simp [ha]
theorem dn_put {q : Nat → Nat → Bool} {i k : Nat} (h : q i k = true) (a b : Nat) : (dn i (k + 1) a b && q a b) = ((dn i k a b && q a b) || (decide (a = i) && decide (b = k))) := by
  rw [dn_step]
  by_cases h1 : a = i
  · by_cases h2 : b = k
    · subst h1; subst h2; simp [h]
    · simp [h1, h2]
  · simp [h1]
theorem dn_no {q : Nat → Nat → Bool} {i k : Nat} (h : q i k = false) (a b : Nat) : (dn i (k + 1) a b && q a b) = (dn i k a b && q a b) := by
  rw [dn_step]
  by_cases h1 : a = i
  · by_cases h2 : b = k
    · subst h1; subst h2; simp [h]
    · simp [h1, h2]
  · simp [h1]

/-! ### Lay -/
def layQ (how : Int) (x y : Bool) : Bool := decide (how = 0) && (x || y) || decide (how = 1) && x && y || decide (how = 2) && x && !y
def sp_layR : Sp := ⟨List W × Bool × List W × Bool × Int, fun x => [.d (.list (x.1.map rowW) x.2.1), .d (.list (x.2.2.1.map rowW) x.2.2.2.1), .d (.int .i64 x.2.2.2.2)], fun x => .rows (x.1.length ≤ maxLen ∧ x.2.2.1.length ≤ maxLen) 1 ((lay2 (layQ x.2.2.2.2) x.1 x.2.2.1).map rowW)⟩
theorem at_layR (A B : List W) (e f : Bool) (how : Int) : sp_layR.at [.d (.list (A.map rowW) e), .d (.list (B.map rowW) f), .d (.int .i64 how)] = .rows (A.length ≤ maxLen ∧ B.length ≤ maxLen) 1 ((lay2 (layQ how) A B).map rowW) :=
  Sp.at_enc (s := sp_layR) (fun x y h => by
    obtain ⟨a, b, c, d, e⟩ := x; obtain ⟨a', b', c', d', e'⟩ := y
    simp only [sp_layR, List.cons.injEq, AV.d.injEq, DV.list.injEq, DV.int.injEq, and_true, true_and] at h
    rw [Z3t rowW_inj h.1.1, h.1.2, Z3t rowW_inj h.2.1.1, h.2.1.2, h.2.2]) (A, e, B, f, how)
theorem body_ref02_Lay {T : Tab} {n1 n2 n3 : Nat} (k1 : Knows T n1 sp_Has) (k2 : KnowsG T n2 ef_Put.at) (k3 : Knows T n3 sp_most) : sp_layR.Body T V_ref02_Lay (L_ref02_Lay n1 n2 n3) R_ref02_Lay := by
  have F1 := k1.F; have G1 := k1.G; have G2 := k2.G; have F3 := k3.F; have G3 := k3.G
  rintro ⟨A, e, B, f, how⟩ ⟨h1, h2⟩
  have h1 : A.length ≤ maxLen := h1
  have h2 : B.length ≤ maxLen := h2
  refine ⟨rows_len (f := rowW) (fun _ => rfl) _, ?_⟩
  unfold V_ref02_Lay L_ref02_Lay R_ref02_Lay
  simp only [↓Z05, ↓Z1l, ↓Z0h, ↓Z20, ↓Z0k, ↓Z1k, ↓Z1j, Z49, Z07, Z32, Z35, evN, Z2g, Z1g, Z34, Z1f, Z15, Z1e, evT, Opd.ev, Z02, Z00, Z33, Z3q, Z1m, Z0l, Z3o, LOp.isNew, State.prune, Z1c, Z06, Z0m, Z4r, evMk, Z2e, Z3g, fnOf, Z3c, Z4j, Z23, ↓reduceIte, Nat.reduceAdd, Nat.reduceBEq, List.length_cons, List.length_nil, List.replicate_succ, List.replicate_zero, List.nil_append, List.append_nil, List.map_cons, List.map_nil, List.set_cons_zero, List.flatten_cons, List.flatten_nil, true_and, Nat.zero_add, Nat.add_zero, Bool.false_eq_true, sp_layR, F3, G3, at_most']
  have hle := mxR_le A B
  obtain ⟨q, hq⟩ : ∃ q : Nat → Nat → Bool, ∀ a b, q a b = layQ how (hasN A a b) (hasN B a b) := ⟨_, fun _ _ => rfl⟩
  have hfin : lay2 (layQ how) A B = mkR (mxR A B) q := Z3s fun a b _ _ => (hq a b).symm
  rw [hfin]
  generalize mxR A B = n at *
  refine ⟨⟨h1, h2⟩, ⟨by omega, by omega, roomy_of (by omega) (by omega)⟩, ?_⟩
  refine Loop.fam [0, 1, 2, 7, 8, 9] (fun i : Nat => ⟨[(0, .d (.list (A.map rowW) e)), (1, .d (.list (B.map rowW) f)), (2, .d (.int .i64 how)), (7, .d (.int .i64 n)), (8, .ref 0 1 0 n true), (9, .d (.int .i64 i))],
      [.dvec 1 ((mkR n (fun a b => dn i 0 a b && q a b)).map rowW)]⟩) (fun i => i ≤ n) (fun i => n - i) 0 [0] (by simp) (by simp) (by
        simp only [State.can, AV.can, HO.can, idx, Z02, Z00, Heap.at, Nat.reduceBEq, ↓reduceIte, Option.getD_some, Option.map_some, List.map_cons, List.map_nil, List.getD_cons_zero]
        rw [mkR_zero (p := fun a b => dn 0 0 a b && q a b) (fun a b _ _ => by simp [dn_start])]; rfl) (by omega) ?_
  intro i hi
  simp only [↓Z19, ↓Z26, ↓Z1z, ↓Z05, ↓Z1l, ↓Z17, ↓Z0h, ↓Z20, ↓Z0k, ↓Z1k, ↓Z31, ↓Z1x, ↓Z1j, ↓Z3b, ↓Z3w, ↓Z0g, Z49, Z07, Z32, Z35, evN, Z1g, Z34, Z1f, Z1e, Z2a, evT, Opd.ev, Z02, Z00, Z33, Z28, Z2b, Z0l, Z3o, LOp.isNew, State.prune, Z4l, binT, binQ, resQ, resV, resT, Z23, ↓reduceIte, Nat.reduceBEq, List.length_cons, List.length_nil, List.replicate_zero, List.append_nil, List.map_cons, List.map_nil, true_and, Nat.zero_add, Nat.add_zero, Bool.false_eq_true]
  refine ⟨fun c => ?_, fun c => ?_⟩
  · have c' : i < n := by omega
    refine Loop.fam [0, 1, 2, 7, 8, 9, 10] (fun k : Nat => ⟨[(0, .d (.list (A.map rowW) e)), (1, .d (.list (B.map rowW) f)), (2, .d (.int .i64 how)), (7, .d (.int .i64 n)), (8, .ref 0 1 0 n true), (9, .d (.int .i64 i)), (10, .d (.int .i64 k))],
      [.dvec 1 ((mkR n (fun a b => dn i k a b && q a b)).map rowW)]⟩) (fun k => k ≤ n) (fun k => n - k) 0 [0] (by simp) (by simp) (by simp only [State.can, AV.can, HO.can, idx, Z02, Z00, Heap.at, Nat.reduceBEq, ↓reduceIte, Option.getD_some, Option.map_some, List.map_cons, List.map_nil, List.getD_cons_zero]; rfl) (by omega) ?_
    intro k hk
    have hx : hasI A i k = hasN A i k := hasI_nat
    have hy : hasI B i k = hasN B i k := hasI_nat
    have hqik := hq i k
    simp only [↓Z19, ↓Z1z, ↓Z05, ↓Z1l, ↓Z17, ↓Z0h, ↓Z0k, ↓Z1k, ↓Z31, ↓Z24, ↓Z1x, ↓Z1j, ↓Z3y, ↓Z3w, ↓Z0i, ↓Z09, ↓Z18, ↓Z0g, Z49, Z07, Z32, Z1a, Z35, evN, Z2g, Z1g, Z34, Z1f, Z15, Z1e, Z2h, Z29, Z1h, Z2a, evT, Opd.ev, Z02, Z00, Z33, Z3q, Z27, Z28, Z2b, Z0l, Z3o, LOp.isNew, State.prune, Heap.at, Z06, Z4l, evUn, binT, binQ, Z4u, Z2e, Z3g, fnOf, Z3c, Z4j, Z23, ↓reduceIte, Nat.reduceBEq, List.length_cons, List.length_nil, List.replicate_zero, List.append_nil, List.map_cons, List.map_nil, List.set_cons_zero, List.getD_cons_zero, List.flatten_cons, List.flatten_nil, true_and, Nat.zero_add, Nat.add_zero, Bool.false_eq_true, F1, G1, G2, at_Has, at_Put, putE_d, Z4o, szR_mk' hle, hx, hy]
    refine ⟨fun g => ?_, fun g => ?_⟩
    · have g' : k < n := by omega
      simp only [Z4h g' (by unfold maxLen; omega)]
      rw [putR_mk hle c' g']
      have eput : q i k = true → mkR n (fun a b => dn i (k + 1) a b && q a b) = mkR n (fun a b => (dn i k a b && q a b) || (decide (a = i) && decide (b = k))) := fun h => Z3s fun a b _ _ => dn_put h a b
      have eno : q i k = false → mkR n (fun a b => dn i (k + 1) a b && q a b) = mkR n (fun a b => dn i k a b && q a b) := fun h => Z3s fun a b _ _ => dn_no h a b
      refine ⟨h1, h2, ?_⟩
      cases hxv : hasN A i k <;> cases hyv : hasN B i k <;> simp only [↓Z0i, ↓Z09]
      all_goals (repeat' (first | intro _ | apply And.intro))
      all_goals first
        | omega
        | (refine Z36.mk [0] (k + 1) (by simp) (by simp) ?_ (by show k + 1 ≤ n; omega) (by show n - (k + 1) < n - k; omega)
           simp only [State.can, AV.can, HO.can, idx, Z02, Z00, Heap.at, Nat.reduceBEq, ↓reduceIte, Option.getD_some, Option.map_some, List.map_cons, List.map_nil, List.getD_cons_zero]
           rw [eno]
           rw [hqik]
           simp [layQ, *]
           done)
        | (refine Z36.mk [0] (k + 1) (by simp) (by simp) ?_ (by show k + 1 ≤ n; omega) (by show n - (k + 1) < n - k; omega)
           simp only [State.can, AV.can, HO.can, idx, Z02, Z00, Heap.at, Nat.reduceBEq, ↓reduceIte, Option.getD_some, Option.map_some, List.map_cons, List.map_nil, List.getD_cons_zero]
           rw [eput]
           rw [hqik]
           simp [layQ, *]
           done)
    · have : k = n := by omega
      subst this
      simp only [Z4h c' (by unfold maxLen; omega)]
      refine Z36.mk [0] (i + 1) (by simp) (by simp) ?_ (by show i + 1 ≤ k; omega) (by show k - (i + 1) < k - i; omega)
      rw [show mkR k (fun a b => dn i k a b && q a b) = mkR k (fun a b => dn (i + 1) 0 a b && q a b) from Z3s fun a b _ hb => by rw [dn_next hb]]
      simp only [State.can, AV.can, HO.can, idx, Z02, Z00, Heap.at, Nat.reduceBEq, ↓reduceIte, Option.getD_some, Option.map_some, List.map_cons, List.map_nil, List.getD_cons_zero]
  · have : i = n := by omega
    subst this
    rw [show mkR i (fun a b => dn i 0 a b && q a b) = mkR i q from Z3s fun a b ha _ => by rw [dn_end ha]; rfl]
    exact .inl ⟨0, true, by simp [Z4o], rfl⟩

/-! ### Back -/
/-! ### Then -/
end Go.Ago

/- The document's answer for layer 23: what is atomic, who is read, the order. Conditions: none. -/
set_option maxRecDepth 100000
set_option linter.unusedSimpArgs false
set_option linter.unusedVariables false
namespace Go.Ago
attribute [local irreducible] vck
/-- The first number below m of which it is true; -1: none. -/
def firstN (m : Nat) (p : Nat → Bool) : Int := match (List.range m).find? p with
  | some i => i
  | none => -1
theorem first_at {m i : Nat} {p : Nat → Bool} (hi : i < m) (h : p i = true) (hno : ∀ j, j < i → p j = false) : firstN m p = i := by
  have : (List.range m).find? p = some i := List.find?_range_eq_some.2 ⟨h, by simpa using hi, fun j hj => by rw [hno j hj]; rfl⟩
  unfold firstN; rw [this]
theorem first_no {m : Nat} {p : Nat → Bool} (hno : ∀ j, j < m → p j = false) : firstN m p = -1 := by
  have : (List.range m).find? p = none := List.find?_range_eq_none.2 fun j hj => by rw [hno j hj]; rfl
  unfold firstN; rw [this]
theorem first_cases (m : Nat) (p : Nat → Bool) : (∃ i, i < m ∧ p i = true ∧ (∀ j, j < i → p j = false) ∧ firstN m p = i) ∨ (∀ j, j < m → p j = false) ∧ firstN m p = -1 := by
  rcases h : (List.range m).find? p with _ | i
  · refine .inr ⟨fun j hj => ?_, by unfold firstN; rw [h]⟩
    have := List.find?_range_eq_none.1 h j hj
    simpa using this
  · obtain ⟨h1, h2, h3⟩ := List.find?_range_eq_some.1 h
    exact .inl ⟨i, by simpa using h2, h1, fun j hj => by have := h3 j hj; simpa using this, by unfold firstN; rw [h]⟩
def placeG (l : List Int) (n : Int) : Int := firstN l.length fun i => decide (l.getD i default = n)
/-! ### What is atomic, who is read -/
def WG.atR (x : WG) (i : Nat) : Bool := decide (3 ≤ (x.deeds.getD i default).act.kind)
def sp_AtomR : Sp := ⟨WG × Nat, fun x => [x.1.av, .d (.int .i64 x.2)], fun x => .data (x.2 < x.1.deeds.length) (.d (.bool (x.1.atR x.2))) true⟩
theorem at_AtomR (x : WG) (i : Nat) : sp_AtomR.at [.agg [.d (.list (x.locs.map LocG.row) x.lf), .d (.list (x.deeds.map DeedG.row) x.df), .d (.list (x.rf.map rowW) x.rff), .d (.list (x.co.map rowW) x.cof)], .d (.int .i64 i)] = .data (i < x.deeds.length) (.d (.bool (x.atR i))) true :=
  Sp.at_enc (s := sp_AtomR) (fun (x y : WG × Nat) h => by
    simp only [sp_AtomR, List.cons.injEq, AV.d.injEq, DV.int.injEq, and_true, true_and] at h
    exact Prod.ext (WG.av_inj _ _ h.1) (by have := h.2; omega)) (x, i)
theorem body_ref23_Atomic {T : Tab} : sp_AtomR.Body T V_ref23_Atomic L_ref23_Atomic R_ref23_Atomic := by
  rintro ⟨x, i⟩ h
  have h : i < x.deeds.length := h
  refine .inl ⟨rfl, ?_⟩
  unfold V_ref23_Atomic L_ref23_Atomic R_ref23_Atomic
  simp (maxSteps := 3000000) only [↓Z19, ↓Z26, ↓Z1z, ↓Z05, ↓Z2m, ↓Z2l, Z4b, Z4g, ↓Z1l, ↓Z17, ↓Z0h, ↓Z20, ↓Z0k, ↓Z1k, ↓Z31, ↓Z30, ↓Z24, ↓Z1x, ↓Z2o, ↓Z2c, ↓Z1j, ↓Z3b, ↓Z4c, ↓Z3l, ↓Z3n, ↓Z3m, ↓Z3y, ↓Z3w, ↓Z48, ↓Z0i, ↓Z09, ↓Z18, ↓Z0g, ↓Z1o, Z49, Z07, Z1b, Z32, Z1a, Z35, evN, Z2g, Z1g, Z34, Z41, Z1f, Z15, Z1e, Z2v, Z2h, Z29, Z1h, Z2a, evT, Opd.ev, Z02, Z00, Z33, Z3z, Z3q, Z27, Z1n, Z28, Z2b, Z3j, Z1m, Z0l, Z3o, LOp.isNew, State.prune, Z3u, Z37, AV.leaf, Heap.at, Z0j, Z0a, Z1i, Z0e, Z03, idx_I, idx_W, rowW, Z2f, Z2w, Z21, Z1c, rowB, Z2y, Z2x, rowN, Z4i, Z3p, Z1d, Z16, w_or, w_and, Z2z, Z4d, w_shl, Z43, w_shr, Z4e, w_neg, w_add, w_bit, w_eq0, w_eq1, w_eq, Bool.decide_eq_true, Z3f, Z3e, Z3i, Z2p, Z1p, Z04, Z0b, Z0n, Z01, Z1y, rowI, RatG.row, LocG.row, ActG.row, StepG.row, StampG.row, ActG.av, ActG.eta, RatG.eta, LocG.eta, beq_true, beq_false, Z2k, Z2u, Z2n, Z2t, Z12, Z0q, Z10, Z11, Z0p, Z0o, Z0c, List.length_set, List.length_replicate, Z06, Int.reduceToNat, Z4t, Z2d, Z4a, Src.all, Src.len, Src.leaf, Src.leafN, Z3a, Z44, Z4p, Z0m, Z0r, Z0s, Z0t, Z0u, Z0v, Z0w, Z0x, Z4r, drows, evMk, List.length_map, Z1w, Z22, List.take_length, List.take_left, List.length_append, Nat.le_add_right, ite_self, List.take_of_length_le, Z3d, Z4n, Z42, Option.isSome_none, Option.isSome_some, Nat.sub_zero, Z4m, Z4v, Z4l, evUn, Z13, Z14, binT, binQ, chk, Z3v, List.contains_cons, List.contains_nil, Bool.or_false, Bool.false_or, Bool.and_self, resQ, resV, resT, Z4u, Z2e, Z47, Z3g, fnOf, Z3c, isD, HO.drow, Z4j, Z3x, evEq, eqV, eqK, eqC1, Z45, Z40, Z39, Z38, Z4f, Z3k, Z2s, Z1s, Z2r, Z1r, Z2q, Z1q, Z1t, Z0y, Z0z, Z0d, List.mem_cons, List.not_mem_nil, or_false, forall_eq, putRow, Z3r, Z23, RetS, RetF, RetD, AV.frz, AV.frzL, AV.freshP, AV.freshL, DV.less, Z2i, Z1u, Z2j, Z1v, Z0f, Z08, Option.some.injEq, AV.tup.injEq, AV.agg.injEq, List.cons.injEq, DV.list.injEq, List.isEmpty_nil, Nat.le_refl, AV.d.injEq, DV.int.injEq, DV.bool.injEq, ↓reduceIte, Nat.reduceEqDiff, Nat.reduceAdd, Nat.reduceBEq, List.length_cons, List.length_nil, List.replicate_succ, List.replicate_zero, List.nil_append, List.cons_append, List.append_nil, List.foldl_cons, List.foldl_nil, List.map_cons, List.map_nil, List.all_cons, List.all_nil, List.set_cons_zero, List.set_cons_succ, List.getD_cons_zero, List.getD_cons_succ, List.drop_zero, List.drop_succ_cons, List.take_succ_cons, List.take_zero, List.flatten_cons, List.flatten_nil, Bool.true_and, Bool.and_true, Bool.not_true, Bool.not_false, true_and, and_true, true_or, or_true, Option.bind_some, Option.map_some, decide_true, decide_false, beq_self_eq_true, true_implies, false_implies, implies_true, not_true_eq_false, not_false_eq_true, and_self, Bool.and_false, Bool.false_and, Nat.reduceLT, Nat.reduceLeDiff, List.reverse_cons, List.reverse_nil, Nat.zero_add, Nat.add_zero, Bool.false_eq_true, List.getElem?_cons_zero, Nat.reduceMul, Nat.mul_one, DeedG.row, idx_Deed, sp_AtomR, WG.av, WG.atR]
  exact ⟨by omega, by omega⟩
def WG.srcR (x : WG) (i : Nat) : Int := firstN x.deeds.length fun k => hasN x.rf k i
def sp_srcR : Sp := ⟨WG × Nat, fun x => [x.1.av, .d (.int .i64 x.2)], fun x => .data (x.1.Ok ∧ x.2 < x.1.deeds.length) (.d (.int .i64 (x.1.srcR x.2))) true⟩
theorem at_srcR (x : WG) (i : Nat) : sp_srcR.at [.agg [.d (.list (x.locs.map LocG.row) x.lf), .d (.list (x.deeds.map DeedG.row) x.df), .d (.list (x.rf.map rowW) x.rff), .d (.list (x.co.map rowW) x.cof)], .d (.int .i64 i)] = .data (x.Ok ∧ i < x.deeds.length) (.d (.int .i64 (x.srcR i))) true :=
  Sp.at_enc (s := sp_srcR) (fun (x y : WG × Nat) h => by
    simp only [sp_srcR, List.cons.injEq, AV.d.injEq, DV.int.injEq, and_true, true_and] at h
    exact Prod.ext (WG.av_inj _ _ h.1) (by have := h.2; omega)) (x, i)
theorem body_ref23_source {T : Tab} {n1 : Nat} (k1 : Knows T n1 sp_Has) : sp_srcR.Body T V_ref23_source (L_ref23_source n1) R_ref23_source := by
  have F1 := k1.F; have G1 := k1.G
  rintro ⟨x, i⟩ ⟨hx, h⟩
  have hx : x.Ok := hx
  have h : i < x.deeds.length := h
  have hn := hx.n
  refine .inl ⟨rfl, ?_⟩
  unfold V_ref23_source L_ref23_source R_ref23_source
  simp (maxSteps := 3000000) only [↓Z19, ↓Z26, ↓Z1z, ↓Z05, ↓Z2m, ↓Z2l, Z4b, Z4g, ↓Z1l, ↓Z17, ↓Z0h, ↓Z20, ↓Z0k, ↓Z1k, ↓Z31, ↓Z30, ↓Z24, ↓Z1x, ↓Z2o, ↓Z2c, ↓Z1j, ↓Z3b, ↓Z4c, ↓Z3l, ↓Z3n, ↓Z3m, ↓Z3y, ↓Z3w, ↓Z48, ↓Z0i, ↓Z09, ↓Z18, ↓Z0g, ↓Z1o, Z49, Z07, Z1b, Z32, Z1a, Z35, evN, Z2g, Z1g, Z34, Z41, Z1f, Z15, Z1e, Z2v, Z2h, Z29, Z1h, Z2a, evT, Opd.ev, Z02, Z00, Z33, Z3z, Z3q, Z27, Z1n, Z28, Z2b, Z3j, Z1m, Z0l, Z3o, LOp.isNew, State.prune, Z3u, Z37, AV.leaf, Heap.at, Z0j, Z0a, Z1i, Z0e, Z03, idx_I, idx_W, rowW, Z2f, Z2w, Z21, Z1c, rowB, Z2y, Z2x, rowN, Z4i, Z3p, Z1d, Z16, w_or, w_and, Z2z, Z4d, w_shl, Z43, w_shr, Z4e, w_neg, w_add, w_bit, w_eq0, w_eq1, w_eq, Bool.decide_eq_true, Z3f, Z3e, Z3i, Z2p, Z1p, Z04, Z0b, Z0n, Z01, Z1y, rowI, RatG.row, LocG.row, ActG.row, StepG.row, StampG.row, ActG.av, ActG.eta, RatG.eta, LocG.eta, beq_true, beq_false, Z2k, Z2u, Z2n, Z2t, Z12, Z0q, Z10, Z11, Z0p, Z0o, Z0c, List.length_set, List.length_replicate, Z06, Int.reduceToNat, Z4t, Z2d, Z4a, Src.all, Src.len, Src.leaf, Src.leafN, Z3a, Z44, Z4p, Z0m, Z0r, Z0s, Z0t, Z0u, Z0v, Z0w, Z0x, Z4r, drows, evMk, List.length_map, Z1w, Z22, List.take_length, List.take_left, List.length_append, Nat.le_add_right, ite_self, List.take_of_length_le, Z3d, Z4n, Z42, Option.isSome_none, Option.isSome_some, Nat.sub_zero, Z4m, Z4v, Z4l, evUn, Z13, Z14, binT, binQ, chk, Z3v, List.contains_cons, List.contains_nil, Bool.or_false, Bool.false_or, Bool.and_self, resQ, resV, resT, Z4u, Z2e, Z47, Z3g, fnOf, Z3c, isD, HO.drow, Z4j, Z3x, evEq, eqV, eqK, eqC1, Z45, Z40, Z39, Z38, Z4f, Z3k, Z2s, Z1s, Z2r, Z1r, Z2q, Z1q, Z1t, Z0y, Z0z, Z0d, List.mem_cons, List.not_mem_nil, or_false, forall_eq, putRow, Z3r, Z23, RetS, RetF, RetD, AV.frz, AV.frzL, AV.freshP, AV.freshL, DV.less, Z2i, Z1u, Z2j, Z1v, Z0f, Z08, Option.some.injEq, AV.tup.injEq, AV.agg.injEq, List.cons.injEq, DV.list.injEq, List.isEmpty_nil, Nat.le_refl, AV.d.injEq, DV.int.injEq, DV.bool.injEq, ↓reduceIte, Nat.reduceEqDiff, Nat.reduceAdd, Nat.reduceBEq, List.length_cons, List.length_nil, List.replicate_succ, List.replicate_zero, List.nil_append, List.cons_append, List.append_nil, List.foldl_cons, List.foldl_nil, List.map_cons, List.map_nil, List.all_cons, List.all_nil, List.set_cons_zero, List.set_cons_succ, List.getD_cons_zero, List.getD_cons_succ, List.drop_zero, List.drop_succ_cons, List.take_succ_cons, List.take_zero, List.flatten_cons, List.flatten_nil, Bool.true_and, Bool.and_true, Bool.not_true, Bool.not_false, true_and, and_true, true_or, or_true, Option.bind_some, Option.map_some, decide_true, decide_false, beq_self_eq_true, true_implies, false_implies, implies_true, not_true_eq_false, not_false_eq_true, and_self, Bool.and_false, Bool.false_and, Nat.reduceLT, Nat.reduceLeDiff, List.reverse_cons, List.reverse_nil, Nat.zero_add, Nat.add_zero, Bool.false_eq_true, List.getElem?_cons_zero, Nat.reduceMul, Nat.mul_one, sp_srcR, WG.av, F1, G1]
  refine Loop.fam [1, 2, 5] (fun k : Nat => ⟨[(1, .d (.int .i64 i)), (2, .ptr 0 4 0 0), (5, .d (.int .i64 k))], [x.hv]⟩) (fun k => k ≤ x.deeds.length ∧ ∀ j, j < k → hasN x.rf j i = false) (fun k => x.deeds.length - k) 0 [0] (by simp) (by simp) (by simp only [State.can, AV.can, AV.canL, HO.can, Z25, idx, Z02, Z00, Heap.at, Nat.reduceBEq, ↓reduceIte, Nat.reduceEqDiff, Option.getD_some, Option.map_some, List.map_cons, List.map_nil, List.getD_cons_zero, List.getD_cons_succ, WG.hv]; rfl) ⟨by omega, by omega⟩ ?_
  rintro k ⟨hk, hj⟩
  simp (maxSteps := 3000000) only [↓Z19, ↓Z26, ↓Z1z, ↓Z05, ↓Z2m, ↓Z2l, Z4b, Z4g, ↓Z1l, ↓Z17, ↓Z0h, ↓Z20, ↓Z0k, ↓Z1k, ↓Z31, ↓Z30, ↓Z24, ↓Z1x, ↓Z2o, ↓Z2c, ↓Z1j, ↓Z3b, ↓Z4c, ↓Z3l, ↓Z3n, ↓Z3m, ↓Z3y, ↓Z3w, ↓Z48, ↓Z0i, ↓Z09, ↓Z18, ↓Z0g, ↓Z1o, Z49, Z07, Z1b, Z32, Z1a, Z35, evN, Z2g, Z1g, Z34, Z41, Z1f, Z15, Z1e, Z2v, Z2h, Z29, Z1h, Z2a, evT, Opd.ev, Z02, Z00, Z33, Z3z, Z3q, Z27, Z1n, Z28, Z2b, Z3j, Z1m, Z0l, Z3o, LOp.isNew, State.prune, Z3u, Z37, AV.leaf, Heap.at, Z0j, Z0a, Z1i, Z0e, Z03, idx_I, idx_W, rowW, Z2f, Z2w, Z21, Z1c, rowB, Z2y, Z2x, rowN, Z4i, Z3p, Z1d, Z16, w_or, w_and, Z2z, Z4d, w_shl, Z43, w_shr, Z4e, w_neg, w_add, w_bit, w_eq0, w_eq1, w_eq, Bool.decide_eq_true, Z3f, Z3e, Z3i, Z2p, Z1p, Z04, Z0b, Z0n, Z01, Z1y, rowI, RatG.row, LocG.row, ActG.row, StepG.row, StampG.row, ActG.av, ActG.eta, RatG.eta, LocG.eta, beq_true, beq_false, Z2k, Z2u, Z2n, Z2t, Z12, Z0q, Z10, Z11, Z0p, Z0o, Z0c, List.length_set, List.length_replicate, Z06, Int.reduceToNat, Z4t, Z2d, Z4a, Src.all, Src.len, Src.leaf, Src.leafN, Z3a, Z44, Z4p, Z0m, Z0r, Z0s, Z0t, Z0u, Z0v, Z0w, Z0x, Z4r, drows, evMk, List.length_map, Z1w, Z22, List.take_length, List.take_left, List.length_append, Nat.le_add_right, ite_self, List.take_of_length_le, Z3d, Z4n, Z42, Option.isSome_none, Option.isSome_some, Nat.sub_zero, Z4m, Z4v, Z4l, evUn, Z13, Z14, binT, binQ, chk, Z3v, List.contains_cons, List.contains_nil, Bool.or_false, Bool.false_or, Bool.and_self, resQ, resV, resT, Z4u, Z2e, Z47, Z3g, fnOf, Z3c, isD, HO.drow, Z4j, Z3x, evEq, eqV, eqK, eqC1, Z45, Z40, Z39, Z38, Z4f, Z3k, Z2s, Z1s, Z2r, Z1r, Z2q, Z1q, Z1t, Z0y, Z0z, Z0d, List.mem_cons, List.not_mem_nil, or_false, forall_eq, putRow, Z3r, Z23, RetS, RetF, RetD, AV.frz, AV.frzL, AV.freshP, AV.freshL, DV.less, Z2i, Z1u, Z2j, Z1v, Z0f, Z08, Option.some.injEq, AV.tup.injEq, AV.agg.injEq, List.cons.injEq, DV.list.injEq, List.isEmpty_nil, Nat.le_refl, AV.d.injEq, DV.int.injEq, DV.bool.injEq, ↓reduceIte, Nat.reduceEqDiff, Nat.reduceAdd, Nat.reduceBEq, List.length_cons, List.length_nil, List.replicate_succ, List.replicate_zero, List.nil_append, List.cons_append, List.append_nil, List.foldl_cons, List.foldl_nil, List.map_cons, List.map_nil, List.all_cons, List.all_nil, List.set_cons_zero, List.set_cons_succ, List.getD_cons_zero, List.getD_cons_succ, List.drop_zero, List.drop_succ_cons, List.take_succ_cons, List.take_zero, List.flatten_cons, List.flatten_nil, Bool.true_and, Bool.and_true, Bool.not_true, Bool.not_false, true_and, and_true, true_or, or_true, Option.bind_some, Option.map_some, decide_true, decide_false, beq_self_eq_true, true_implies, false_implies, implies_true, not_true_eq_false, not_false_eq_true, and_self, Bool.and_false, Bool.false_and, Nat.reduceLT, Nat.reduceLeDiff, List.reverse_cons, List.reverse_nil, Nat.zero_add, Nat.add_zero, Bool.false_eq_true, List.getElem?_cons_zero, Nat.reduceMul, Nat.mul_one, WG.hv, F1, G1, at_Has, hasI_nat]
  refine ⟨fun e => ⟨by rw [hx.rf.len]; unfold maxLen; omega, fun e2 => ?_, fun e2 => ?_⟩, fun e => ?_⟩
  · unfold WG.srcR; rw [first_at (i := k) (by omega) e2 hj]
  · rw [Z4h (n := x.deeds.length) (by omega) (by unfold maxLen; omega)]
    exact Z36.mk [0] (k + 1) (by simp) (by simp) (by simp only [State.can, AV.can, AV.canL, HO.can, Z25, idx, Z02, Z00, Heap.at, Nat.reduceBEq, ↓reduceIte, Nat.reduceEqDiff, Option.getD_some, Option.map_some, List.map_cons, List.map_nil, List.getD_cons_zero, List.getD_cons_succ, WG.hv]) ⟨by omega, fun j hj' => by
      by_cases h : j = k
      · rw [h]; exact e2
      · exact hj j (by omega)⟩ (by omega)
  · unfold WG.srcR; rw [first_no fun j hj' => hj j (by omega)]
/-! ### Order -/
def befR (a b : DeedG) (i k : Nat) : Bool := decide (a.th = -1) && !decide (b.th = -1) || !decide (a.th = -1) && decide (a.th = b.th) && decide ((i : Int) < k)
def WG.stepR (x : WG) (i k : Nat) : Bool := befR (x.deeds.getD i default) (x.deeds.getD k default) i k || x.atR i && (hasN x.rf i k || hasN x.co i k)
def ordR (x : WG) : List W := plusG (mkR x.deeds.length x.stepR)
def sp_orderR : Sp := ⟨WG, fun x => [x.av], fun x => .data x.Ok (.d (.list ((ordR x).map rowW) false)) false⟩
theorem at_orderR (x : WG) : sp_orderR.at [.agg [.d (.list (x.locs.map LocG.row) x.lf), .d (.list (x.deeds.map DeedG.row) x.df), .d (.list (x.rf.map rowW) x.rff), .d (.list (x.co.map rowW) x.cof)]] = .data x.Ok (.d (.list ((ordR x).map rowW) false)) false :=
  Sp.at_enc (s := sp_orderR) (fun (x y : WG) h => by
    simp only [sp_orderR, List.cons.injEq, and_true] at h
    exact WG.av_inj _ _ h) x
def oRst1 (x : WG) (i : Nat) : State :=
  ⟨[(1, .ptr 0 4 0 0), (3, .d (.int .i64 x.deeds.length)), (4, .ref 1 1 0 x.deeds.length true), (5, .d (.int .i64 i))], [x.hv, .dvec 1 ((mkR x.deeds.length fun a b => dn i 0 a b && x.stepR a b).map rowW)]⟩
def oRst2 (x : WG) (i k : Nat) : State :=
  ⟨[(1, .ptr 0 4 0 0), (3, .d (.int .i64 x.deeds.length)), (4, .ref 1 1 0 x.deeds.length true), (5, .d (.int .i64 i)), (6, .d (.int .i64 k))], [x.hv, .dvec 1 ((mkR x.deeds.length fun a b => dn i k a b && x.stepR a b).map rowW)]⟩
theorem body_ref23_Order {T : Tab} {n1 n2 n3 n4 : Nat} (k1 : KnowsG T n1 ef_Put.at) (k2 : Knows T n2 sp_AtomR) (k3 : Knows T n3 sp_Has) (k4 : Knows T n4 sp_Plus) : sp_orderR.Body T V_ref23_Order (L_ref23_Order n1 n2 n3 n4) R_ref23_Order := by
  have G1 := k1.G; have F2 := k2.F; have G2 := k2.G; have F3 := k3.F; have G3 := k3.G; have F4 := k4.F; have G4 := k4.G
  rintro (x : WG) hx
  have hx : x.Ok := hx
  have hn := hx.n
  refine ⟨rfl, ?_⟩
  unfold V_ref23_Order L_ref23_Order R_ref23_Order
  simp (maxSteps := 3000000) only [↓Z19, ↓Z26, ↓Z1z, ↓Z05, ↓Z2m, ↓Z2l, Z4b, Z4g, ↓Z1l, ↓Z17, ↓Z0h, ↓Z20, ↓Z0k, ↓Z1k, ↓Z31, ↓Z30, ↓Z24, ↓Z1x, ↓Z2o, ↓Z2c, ↓Z1j, ↓Z3b, ↓Z4c, ↓Z3l, ↓Z3n, ↓Z3m, ↓Z3y, ↓Z3w, ↓Z48, ↓Z0i, ↓Z09, ↓Z18, ↓Z0g, ↓Z1o, Z49, Z07, Z1b, Z32, Z1a, Z35, evN, Z2g, Z1g, Z34, Z41, Z1f, Z15, Z1e, Z2v, Z2h, Z29, Z1h, Z2a, evT, Opd.ev, Z02, Z00, Z33, Z3z, Z3q, Z27, Z1n, Z28, Z2b, Z3j, Z1m, Z0l, Z3o, LOp.isNew, State.prune, Z3u, Z37, AV.leaf, Heap.at, Z0j, Z0a, Z1i, Z0e, Z03, idx_I, idx_W, rowW, Z2f, Z2w, Z21, Z1c, rowB, Z2y, Z2x, rowN, Z4i, Z3p, Z1d, Z16, w_or, w_and, Z2z, Z4d, w_shl, Z43, w_shr, Z4e, w_neg, w_add, w_bit, w_eq0, w_eq1, w_eq, Bool.decide_eq_true, Z3f, Z3e, Z3i, Z2p, Z1p, Z04, Z0b, Z0n, Z01, Z1y, rowI, RatG.row, LocG.row, ActG.row, StepG.row, StampG.row, ActG.av, ActG.eta, RatG.eta, LocG.eta, beq_true, beq_false, Z2k, Z2u, Z2n, Z2t, Z12, Z0q, Z10, Z11, Z0p, Z0o, Z0c, List.length_set, List.length_replicate, Z06, Int.reduceToNat, Z4t, Z2d, Z4a, Src.all, Src.len, Src.leaf, Src.leafN, Z3a, Z44, Z4p, Z0m, Z0r, Z0s, Z0t, Z0u, Z0v, Z0w, Z0x, Z4r, drows, evMk, List.length_map, Z1w, Z22, List.take_length, List.take_left, List.length_append, Nat.le_add_right, ite_self, List.take_of_length_le, Z3d, Z4n, Z42, Option.isSome_none, Option.isSome_some, Nat.sub_zero, Z4m, Z4v, Z4l, evUn, Z13, Z14, binT, binQ, chk, Z3v, List.contains_cons, List.contains_nil, Bool.or_false, Bool.false_or, Bool.and_self, resQ, resV, resT, Z4u, Z2e, Z47, Z3g, fnOf, Z3c, isD, HO.drow, Z4j, Z3x, evEq, eqV, eqK, eqC1, Z45, Z40, Z39, Z38, Z4f, Z3k, Z2s, Z1s, Z2r, Z1r, Z2q, Z1q, Z1t, Z0y, Z0z, Z0d, List.mem_cons, List.not_mem_nil, or_false, forall_eq, putRow, Z3r, Z23, RetS, RetF, RetD, AV.frz, AV.frzL, AV.freshP, AV.freshL, DV.less, Z2i, Z1u, Z2j, Z1v, Z0f, Z08, Option.some.injEq, AV.tup.injEq, AV.agg.injEq, List.cons.injEq, DV.list.injEq, List.isEmpty_nil, Nat.le_refl, AV.d.injEq, DV.int.injEq, DV.bool.injEq, ↓reduceIte, Nat.reduceEqDiff, Nat.reduceAdd, Nat.reduceBEq, List.length_cons, List.length_nil, List.replicate_succ, List.replicate_zero, List.nil_append, List.cons_append, List.append_nil, List.foldl_cons, List.foldl_nil, List.map_cons, List.map_nil, List.all_cons, List.all_nil, List.set_cons_zero, List.set_cons_succ, List.getD_cons_zero, List.getD_cons_succ, List.drop_zero, List.drop_succ_cons, List.take_succ_cons, List.take_zero, List.flatten_cons, List.flatten_nil, Bool.true_and, Bool.and_true, Bool.not_true, Bool.not_false, true_and, and_true, true_or, or_true, Option.bind_some, Option.map_some, decide_true, decide_false, beq_self_eq_true, true_implies, false_implies, implies_true, not_true_eq_false, not_false_eq_true, and_self, Bool.and_false, Bool.false_and, Nat.reduceLT, Nat.reduceLeDiff, List.reverse_cons, List.reverse_nil, Nat.zero_add, Nat.add_zero, Bool.false_eq_true, List.getElem?_cons_zero, Nat.reduceMul, Nat.mul_one, DeedG.row, idx_Deed, sp_orderR, WG.av, at_AtomR, at_Has, at_Put, at_Plus, G1, F2, G2, F3, G3, F4, G4]
  refine ⟨⟨by omega, by omega, roomy_of (by omega) (by omega)⟩, ?_⟩
  refine Loop.fam [1, 3, 4, 5] (oRst1 x) (fun i => i ≤ x.deeds.length) (fun i => x.deeds.length - i) 0 [0, 1] (by simp) (by simp) (by
    simp only [State.can, AV.can, AV.canL, HO.can, Z25, idx, Z02, Z00, Heap.at, Nat.reduceBEq, ↓reduceIte, Nat.reduceEqDiff, Option.getD_some, Option.map_some, List.map_cons, List.map_nil, List.getD_cons_zero, List.getD_cons_succ, oRst1, WG.hv]
    rw [mkR_zero (p := fun a b => dn 0 0 a b && x.stepR a b) (fun a b _ _ => by simp [dn_start])]; rfl) (by omega) ?_
  intro i hi
  have hi : i ≤ x.deeds.length := hi
  simp (maxSteps := 3000000) only [↓Z19, ↓Z26, ↓Z1z, ↓Z05, ↓Z2m, ↓Z2l, Z4b, Z4g, ↓Z1l, ↓Z17, ↓Z0h, ↓Z20, ↓Z0k, ↓Z1k, ↓Z31, ↓Z30, ↓Z24, ↓Z1x, ↓Z2o, ↓Z2c, ↓Z1j, ↓Z3b, ↓Z4c, ↓Z3l, ↓Z3n, ↓Z3m, ↓Z3y, ↓Z3w, ↓Z48, ↓Z0i, ↓Z09, ↓Z18, ↓Z0g, ↓Z1o, Z49, Z07, Z1b, Z32, Z1a, Z35, evN, Z2g, Z1g, Z34, Z41, Z1f, Z15, Z1e, Z2v, Z2h, Z29, Z1h, Z2a, evT, Opd.ev, Z02, Z00, Z33, Z3z, Z3q, Z27, Z1n, Z28, Z2b, Z3j, Z1m, Z0l, Z3o, LOp.isNew, State.prune, Z3u, Z37, AV.leaf, Heap.at, Z0j, Z0a, Z1i, Z0e, Z03, idx_I, idx_W, rowW, Z2f, Z2w, Z21, Z1c, rowB, Z2y, Z2x, rowN, Z4i, Z3p, Z1d, Z16, w_or, w_and, Z2z, Z4d, w_shl, Z43, w_shr, Z4e, w_neg, w_add, w_bit, w_eq0, w_eq1, w_eq, Bool.decide_eq_true, Z3f, Z3e, Z3i, Z2p, Z1p, Z04, Z0b, Z0n, Z01, Z1y, rowI, RatG.row, LocG.row, ActG.row, StepG.row, StampG.row, ActG.av, ActG.eta, RatG.eta, LocG.eta, beq_true, beq_false, Z2k, Z2u, Z2n, Z2t, Z12, Z0q, Z10, Z11, Z0p, Z0o, Z0c, List.length_set, List.length_replicate, Z06, Int.reduceToNat, Z4t, Z2d, Z4a, Src.all, Src.len, Src.leaf, Src.leafN, Z3a, Z44, Z4p, Z0m, Z0r, Z0s, Z0t, Z0u, Z0v, Z0w, Z0x, Z4r, drows, evMk, List.length_map, Z1w, Z22, List.take_length, List.take_left, List.length_append, Nat.le_add_right, ite_self, List.take_of_length_le, Z3d, Z4n, Z42, Option.isSome_none, Option.isSome_some, Nat.sub_zero, Z4m, Z4v, Z4l, evUn, Z13, Z14, binT, binQ, chk, Z3v, List.contains_cons, List.contains_nil, Bool.or_false, Bool.false_or, Bool.and_self, resQ, resV, resT, Z4u, Z2e, Z47, Z3g, fnOf, Z3c, isD, HO.drow, Z4j, Z3x, evEq, eqV, eqK, eqC1, Z45, Z40, Z39, Z38, Z4f, Z3k, Z2s, Z1s, Z2r, Z1r, Z2q, Z1q, Z1t, Z0y, Z0z, Z0d, List.mem_cons, List.not_mem_nil, or_false, forall_eq, putRow, Z3r, Z23, RetS, RetF, RetD, AV.frz, AV.frzL, AV.freshP, AV.freshL, DV.less, Z2i, Z1u, Z2j, Z1v, Z0f, Z08, Option.some.injEq, AV.tup.injEq, AV.agg.injEq, List.cons.injEq, DV.list.injEq, List.isEmpty_nil, Nat.le_refl, AV.d.injEq, DV.int.injEq, DV.bool.injEq, ↓reduceIte, Nat.reduceEqDiff, Nat.reduceAdd, Nat.reduceBEq, List.length_cons, List.length_nil, List.replicate_succ, List.replicate_zero, List.nil_append, List.cons_append, List.append_nil, List.foldl_cons, List.foldl_nil, List.map_cons, List.map_nil, List.all_cons, List.all_nil, List.set_cons_zero, List.set_cons_succ, List.getD_cons_zero, List.getD_cons_succ, List.drop_zero, List.drop_succ_cons, List.take_succ_cons, List.take_zero, List.flatten_cons, List.flatten_nil, Bool.true_and, Bool.and_true, Bool.not_true, Bool.not_false, true_and, and_true, true_or, or_true, Option.bind_some, Option.map_some, decide_true, decide_false, beq_self_eq_true, true_implies, false_implies, implies_true, not_true_eq_false, not_false_eq_true, and_self, Bool.and_false, Bool.false_and, Nat.reduceLT, Nat.reduceLeDiff, List.reverse_cons, List.reverse_nil, Nat.zero_add, Nat.add_zero, Bool.false_eq_true, List.getElem?_cons_zero, Nat.reduceMul, Nat.mul_one, DeedG.row, idx_Deed, oRst1, WG.hv, at_AtomR, at_Has, at_Put, at_Plus, G1, F2, G2, F3, G3, F4, G4]
  refine ⟨fun c => ?_, fun c => ?_⟩
  · refine Loop.fam [1, 3, 4, 5, 6] (oRst2 x i) (fun k => k ≤ x.deeds.length) (fun k => x.deeds.length - k) 0 [0, 1] (by simp) (by simp) (by simp only [State.can, AV.can, AV.canL, HO.can, Z25, idx, Z02, Z00, Heap.at, Nat.reduceBEq, ↓reduceIte, Nat.reduceEqDiff, Option.getD_some, Option.map_some, List.map_cons, List.map_nil, List.getD_cons_zero, List.getD_cons_succ, oRst2, WG.hv]; rfl) (by omega) ?_
    intro k hk
    have hk : k ≤ x.deeds.length := hk
    simp (maxSteps := 3000000) only [↓Z19, ↓Z26, ↓Z1z, ↓Z05, ↓Z2m, ↓Z2l, Z4b, Z4g, ↓Z1l, ↓Z17, ↓Z0h, ↓Z20, ↓Z0k, ↓Z1k, ↓Z31, ↓Z30, ↓Z24, ↓Z1x, ↓Z2o, ↓Z2c, ↓Z1j, ↓Z3b, ↓Z4c, ↓Z3l, ↓Z3n, ↓Z3m, ↓Z3y, ↓Z3w, ↓Z48, ↓Z0i, ↓Z09, ↓Z18, ↓Z0g, ↓Z1o, Z49, Z07, Z1b, Z32, Z1a, Z35, evN, Z2g, Z1g, Z34, Z41, Z1f, Z15, Z1e, Z2v, Z2h, Z29, Z1h, Z2a, evT, Opd.ev, Z02, Z00, Z33, Z3z, Z3q, Z27, Z1n, Z28, Z2b, Z3j, Z1m, Z0l, Z3o, LOp.isNew, State.prune, Z3u, Z37, AV.leaf, Heap.at, Z0j, Z0a, Z1i, Z0e, Z03, idx_I, idx_W, rowW, Z2f, Z2w, Z21, Z1c, rowB, Z2y, Z2x, rowN, Z4i, Z3p, Z1d, Z16, w_or, w_and, Z2z, Z4d, w_shl, Z43, w_shr, Z4e, w_neg, w_add, w_bit, w_eq0, w_eq1, w_eq, Bool.decide_eq_true, Z3f, Z3e, Z3i, Z2p, Z1p, Z04, Z0b, Z0n, Z01, Z1y, rowI, RatG.row, LocG.row, ActG.row, StepG.row, StampG.row, ActG.av, ActG.eta, RatG.eta, LocG.eta, beq_true, beq_false, Z2k, Z2u, Z2n, Z2t, Z12, Z0q, Z10, Z11, Z0p, Z0o, Z0c, List.length_set, List.length_replicate, Z06, Int.reduceToNat, Z4t, Z2d, Z4a, Src.all, Src.len, Src.leaf, Src.leafN, Z3a, Z44, Z4p, Z0m, Z0r, Z0s, Z0t, Z0u, Z0v, Z0w, Z0x, Z4r, drows, evMk, List.length_map, Z1w, Z22, List.take_length, List.take_left, List.length_append, Nat.le_add_right, ite_self, List.take_of_length_le, Z3d, Z4n, Z42, Option.isSome_none, Option.isSome_some, Nat.sub_zero, Z4m, Z4v, Z4l, evUn, Z13, Z14, binT, binQ, chk, Z3v, List.contains_cons, List.contains_nil, Bool.or_false, Bool.false_or, Bool.and_self, resQ, resV, resT, Z4u, Z2e, Z47, Z3g, fnOf, Z3c, isD, HO.drow, Z4j, Z3x, evEq, eqV, eqK, eqC1, Z45, Z40, Z39, Z38, Z4f, Z3k, Z2s, Z1s, Z2r, Z1r, Z2q, Z1q, Z1t, Z0y, Z0z, Z0d, List.mem_cons, List.not_mem_nil, or_false, forall_eq, putRow, Z3r, Z23, RetS, RetF, RetD, AV.frz, AV.frzL, AV.freshP, AV.freshL, DV.less, Z2i, Z1u, Z2j, Z1v, Z0f, Z08, Option.some.injEq, AV.tup.injEq, AV.agg.injEq, List.cons.injEq, DV.list.injEq, List.isEmpty_nil, Nat.le_refl, AV.d.injEq, DV.int.injEq, DV.bool.injEq, ↓reduceIte, Nat.reduceEqDiff, Nat.reduceAdd, Nat.reduceBEq, List.length_cons, List.length_nil, List.replicate_succ, List.replicate_zero, List.nil_append, List.cons_append, List.append_nil, List.foldl_cons, List.foldl_nil, List.map_cons, List.map_nil, List.all_cons, List.all_nil, List.set_cons_zero, List.set_cons_succ, List.getD_cons_zero, List.getD_cons_succ, List.drop_zero, List.drop_succ_cons, List.take_succ_cons, List.take_zero, List.flatten_cons, List.flatten_nil, Bool.true_and, Bool.and_true, Bool.not_true, Bool.not_false, true_and, and_true, true_or, or_true, Option.bind_some, Option.map_some, decide_true, decide_false, beq_self_eq_true, true_implies, false_implies, implies_true, not_true_eq_false, not_false_eq_true, and_self, Bool.and_false, Bool.false_and, Nat.reduceLT, Nat.reduceLeDiff, List.reverse_cons, List.reverse_nil, Nat.zero_add, Nat.add_zero, Bool.false_eq_true, List.getElem?_cons_zero, Nat.reduceMul, Nat.mul_one, DeedG.row, idx_Deed, oRst2, WG.hv, at_AtomR, at_Has, at_Put, at_Plus, G1, F2, G2, F3, G3, F4, G4, hasI_nat, putE_d, Z06, Z4o, szR_mk' hn]
    have i' : i < x.deeds.length := by omega
    refine ⟨fun d => ?_, fun d => ?_⟩
    · have k' : k < x.deeds.length := by omega
      have w1 : IntKind.i64.wrap ((k : Int) + 1) = ((k + 1 : Nat) : Int) := Z4h (n := x.deeds.length) k' (by unfold maxLen; omega)
      have hrl : x.rf.length ≤ maxLen := by rw [hx.rf.len]; unfold maxLen; omega
      have hcl : x.co.length ≤ maxLen := by rw [hx.co.len]; unfold maxLen; omega
      have hyes : x.stepR i k = true → putR (mkR x.deeds.length fun a b => dn i k a b && x.stepR a b) i k = mkR x.deeds.length fun a b => dn i (k + 1) a b && x.stepR a b := fun h => by
        rw [putR_mk hn i' k']
        exact Z3s fun a b _ _ => (dn_put h a b).symm
      have hno : x.stepR i k = false → (mkR x.deeds.length fun a b => dn i k a b && x.stepR a b) = mkR x.deeds.length fun a b => dn i (k + 1) a b && x.stepR a b := fun h => Z3s fun a b _ _ => (dn_no h a b).symm
      rw [w1]
      clear w1 F2 G2 F3 G3 F4 G4 G1 k1 k2 k3 k4
      (repeat' (first | intro _ | apply And.intro))
      all_goals first
        | omega
        | assumption
        | (rw [hyes (by simp only [WG.stepR, befR, *, decide_true, decide_false, Bool.not_true, Bool.not_false, Bool.and_true, Bool.and_false, Bool.true_and, Bool.false_and, Bool.or_true, Bool.true_or, Bool.or_false, Bool.false_or] <;> simp_all)]; exact Z36.mk [0, 1] (k + 1) (by simp) (by simp) (by simp only [State.can, AV.can, AV.canL, HO.can, Z25, idx, Z02, Z00, Heap.at, Nat.reduceBEq, ↓reduceIte, Nat.reduceEqDiff, Option.getD_some, Option.map_some, List.map_cons, List.map_nil, List.getD_cons_zero, List.getD_cons_succ, oRst2, WG.hv]) (by omega) (by omega))
        | (rw [hno (by simp only [WG.stepR, befR, *, decide_true, decide_false, Bool.not_true, Bool.not_false, Bool.and_true, Bool.and_false, Bool.true_and, Bool.false_and, Bool.or_true, Bool.true_or, Bool.or_false, Bool.false_or] <;> simp_all)]; exact Z36.mk [0, 1] (k + 1) (by simp) (by simp) (by simp only [State.can, AV.can, AV.canL, HO.can, Z25, idx, Z02, Z00, Heap.at, Nat.reduceBEq, ↓reduceIte, Nat.reduceEqDiff, Option.getD_some, Option.map_some, List.map_cons, List.map_nil, List.getD_cons_zero, List.getD_cons_succ, oRst2, WG.hv]) (by omega) (by omega))
    · have e : k = x.deeds.length := by omega
      subst e
      rw [Z4h (n := x.deeds.length) i' (by unfold maxLen; omega)]
      refine Z36.mk [0, 1] (i + 1) (by simp) (by simp) ?_ (by omega) (by omega)
      simp only [State.can, AV.can, AV.canL, HO.can, Z25, idx, Z02, Z00, Heap.at, Nat.reduceBEq, ↓reduceIte, Nat.reduceEqDiff, Option.getD_some, Option.map_some, List.map_cons, List.map_nil, List.getD_cons_zero, List.getD_cons_succ, oRst1, WG.hv]
      rw [Z3s (q := fun a b => dn (i + 1) 0 a b && x.stepR a b) fun a b _ hb => by rw [dn_next hb]]
  · have e : i = x.deeds.length := by omega
    subst e
    rw [Z3s (q := x.stepR) fun a b ha _ => by rw [dn_end ha, Bool.true_and]]
    simp (maxSteps := 3000000) only [↓Z19, ↓Z26, ↓Z1z, ↓Z05, ↓Z2m, ↓Z2l, Z4b, Z4g, ↓Z1l, ↓Z17, ↓Z0h, ↓Z20, ↓Z0k, ↓Z1k, ↓Z31, ↓Z30, ↓Z24, ↓Z1x, ↓Z2o, ↓Z2c, ↓Z1j, ↓Z3b, ↓Z4c, ↓Z3l, ↓Z3n, ↓Z3m, ↓Z3y, ↓Z3w, ↓Z48, ↓Z0i, ↓Z09, ↓Z18, ↓Z0g, ↓Z1o, Z49, Z07, Z1b, Z32, Z1a, Z35, evN, Z2g, Z1g, Z34, Z41, Z1f, Z15, Z1e, Z2v, Z2h, Z29, Z1h, Z2a, evT, Opd.ev, Z02, Z00, Z33, Z3z, Z3q, Z27, Z1n, Z28, Z2b, Z3j, Z1m, Z0l, Z3o, LOp.isNew, State.prune, Z3u, Z37, AV.leaf, Heap.at, Z0j, Z0a, Z1i, Z0e, Z03, idx_I, idx_W, rowW, Z2f, Z2w, Z21, Z1c, rowB, Z2y, Z2x, rowN, Z4i, Z3p, Z1d, Z16, w_or, w_and, Z2z, Z4d, w_shl, Z43, w_shr, Z4e, w_neg, w_add, w_bit, w_eq0, w_eq1, w_eq, Bool.decide_eq_true, Z3f, Z3e, Z3i, Z2p, Z1p, Z04, Z0b, Z0n, Z01, Z1y, rowI, RatG.row, LocG.row, ActG.row, StepG.row, StampG.row, ActG.av, ActG.eta, RatG.eta, LocG.eta, beq_true, beq_false, Z2k, Z2u, Z2n, Z2t, Z12, Z0q, Z10, Z11, Z0p, Z0o, Z0c, List.length_set, List.length_replicate, Z06, Int.reduceToNat, Z4t, Z2d, Z4a, Src.all, Src.len, Src.leaf, Src.leafN, Z3a, Z44, Z4p, Z0m, Z0r, Z0s, Z0t, Z0u, Z0v, Z0w, Z0x, Z4r, drows, evMk, List.length_map, Z1w, Z22, List.take_length, List.take_left, List.length_append, Nat.le_add_right, ite_self, List.take_of_length_le, Z3d, Z4n, Z42, Option.isSome_none, Option.isSome_some, Nat.sub_zero, Z4m, Z4v, Z4l, evUn, Z13, Z14, binT, binQ, chk, Z3v, List.contains_cons, List.contains_nil, Bool.or_false, Bool.false_or, Bool.and_self, resQ, resV, resT, Z4u, Z2e, Z47, Z3g, fnOf, Z3c, isD, HO.drow, Z4j, Z3x, evEq, eqV, eqK, eqC1, Z45, Z40, Z39, Z38, Z4f, Z3k, Z2s, Z1s, Z2r, Z1r, Z2q, Z1q, Z1t, Z0y, Z0z, Z0d, List.mem_cons, List.not_mem_nil, or_false, forall_eq, putRow, Z3r, Z23, RetS, RetF, RetD, AV.frz, AV.frzL, AV.freshP, AV.freshL, DV.less, Z2i, Z1u, Z2j, Z1v, Z0f, Z08, Option.some.injEq, AV.tup.injEq, AV.agg.injEq, List.cons.injEq, DV.list.injEq, List.isEmpty_nil, Nat.le_refl, AV.d.injEq, DV.int.injEq, DV.bool.injEq, ↓reduceIte, Nat.reduceEqDiff, Nat.reduceAdd, Nat.reduceBEq, List.length_cons, List.length_nil, List.replicate_succ, List.replicate_zero, List.nil_append, List.cons_append, List.append_nil, List.foldl_cons, List.foldl_nil, List.map_cons, List.map_nil, List.all_cons, List.all_nil, List.set_cons_zero, List.set_cons_succ, List.getD_cons_zero, List.getD_cons_succ, List.drop_zero, List.drop_succ_cons, List.take_succ_cons, List.take_zero, List.flatten_cons, List.flatten_nil, Bool.true_and, Bool.and_true, Bool.not_true, Bool.not_false, true_and, and_true, true_or, or_true, Option.bind_some, Option.map_some, decide_true, decide_false, beq_self_eq_true, true_implies, false_implies, implies_true, not_true_eq_false, not_false_eq_true, and_self, Bool.and_false, Bool.false_and, Nat.reduceLT, Nat.reduceLeDiff, List.reverse_cons, List.reverse_nil, Nat.zero_add, Nat.add_zero, Bool.false_eq_true, List.getElem?_cons_zero, Nat.reduceMul, Nat.mul_one, Z4o, mkR_take, Nat.le_refl, at_Plus, F4, G4]
    exact ⟨by unfold maxLen; omega, rfl⟩
/-! ### Fr -/
def WG.frQ (x : WG) (i k : Nat) : Bool := decide (0 ≤ x.srcR i) && !decide ((k : Int) = i) && hasI x.co (x.srcR i) k
def frR (x : WG) : List W := mkR x.deeds.length x.frQ
def sp_frR : Sp := ⟨WG, fun x => [x.av], fun x => .data x.Ok (.d (.list ((frR x).map rowW) false)) false⟩
theorem at_frR (x : WG) : sp_frR.at [.agg [.d (.list (x.locs.map LocG.row) x.lf), .d (.list (x.deeds.map DeedG.row) x.df), .d (.list (x.rf.map rowW) x.rff), .d (.list (x.co.map rowW) x.cof)]] = .data x.Ok (.d (.list ((frR x).map rowW) false)) false :=
  Sp.at_enc (s := sp_frR) (fun (x y : WG) h => by
    simp only [sp_frR, List.cons.injEq, and_true] at h
    exact WG.av_inj _ _ h) x
def fRst1 (x : WG) (i : Nat) : State :=
  ⟨[(1, .ptr 0 4 0 0), (3, .d (.int .i64 x.deeds.length)), (4, .ref 1 1 0 x.deeds.length true), (5, .d (.int .i64 i))], [x.hv, .dvec 1 ((mkR x.deeds.length fun a b => dn i 0 a b && x.frQ a b).map rowW)]⟩
def fRst2 (x : WG) (i k : Nat) : State :=
  ⟨[(1, .ptr 0 4 0 0), (3, .d (.int .i64 x.deeds.length)), (4, .ref 1 1 0 x.deeds.length true), (5, .d (.int .i64 i)), (6, .d (.int .i64 (x.srcR i))), (7, .d (.int .i64 k))], [x.hv, .dvec 1 ((mkR x.deeds.length fun a b => dn i k a b && x.frQ a b).map rowW)]⟩
theorem body_ref23_Fr {T : Tab} {n1 n2 n3 : Nat} (k1 : KnowsG T n1 ef_Put.at) (k2 : Knows T n2 sp_Has) (k3 : Knows T n3 sp_srcR) : sp_frR.Body T V_ref23_Fr (L_ref23_Fr n1 n2 n3) R_ref23_Fr := by
  have G1 := k1.G; have F2 := k2.F; have G2 := k2.G; have F3 := k3.F; have G3 := k3.G
  rintro (x : WG) hx
  have hx : x.Ok := hx
  have hn := hx.n
  refine ⟨rfl, ?_⟩
  unfold V_ref23_Fr L_ref23_Fr R_ref23_Fr
  simp (maxSteps := 3000000) only [↓Z19, ↓Z26, ↓Z1z, ↓Z05, ↓Z2m, ↓Z2l, Z4b, Z4g, ↓Z1l, ↓Z17, ↓Z0h, ↓Z20, ↓Z0k, ↓Z1k, ↓Z31, ↓Z30, ↓Z24, ↓Z1x, ↓Z2o, ↓Z2c, ↓Z1j, ↓Z3b, ↓Z4c, ↓Z3l, ↓Z3n, ↓Z3m, ↓Z3y, ↓Z3w, ↓Z48, ↓Z0i, ↓Z09, ↓Z18, ↓Z0g, ↓Z1o, Z49, Z07, Z1b, Z32, Z1a, Z35, evN, Z2g, Z1g, Z34, Z41, Z1f, Z15, Z1e, Z2v, Z2h, Z29, Z1h, Z2a, evT, Opd.ev, Z02, Z00, Z33, Z3z, Z3q, Z27, Z1n, Z28, Z2b, Z3j, Z1m, Z0l, Z3o, LOp.isNew, State.prune, Z3u, Z37, AV.leaf, Heap.at, Z0j, Z0a, Z1i, Z0e, Z03, idx_I, idx_W, rowW, Z2f, Z2w, Z21, Z1c, rowB, Z2y, Z2x, rowN, Z4i, Z3p, Z1d, Z16, w_or, w_and, Z2z, Z4d, w_shl, Z43, w_shr, Z4e, w_neg, w_add, w_bit, w_eq0, w_eq1, w_eq, Bool.decide_eq_true, Z3f, Z3e, Z3i, Z2p, Z1p, Z04, Z0b, Z0n, Z01, Z1y, rowI, RatG.row, LocG.row, ActG.row, StepG.row, StampG.row, ActG.av, ActG.eta, RatG.eta, LocG.eta, beq_true, beq_false, Z2k, Z2u, Z2n, Z2t, Z12, Z0q, Z10, Z11, Z0p, Z0o, Z0c, List.length_set, List.length_replicate, Z06, Int.reduceToNat, Z4t, Z2d, Z4a, Src.all, Src.len, Src.leaf, Src.leafN, Z3a, Z44, Z4p, Z0m, Z0r, Z0s, Z0t, Z0u, Z0v, Z0w, Z0x, Z4r, drows, evMk, List.length_map, Z1w, Z22, List.take_length, List.take_left, List.length_append, Nat.le_add_right, ite_self, List.take_of_length_le, Z3d, Z4n, Z42, Option.isSome_none, Option.isSome_some, Nat.sub_zero, Z4m, Z4v, Z4l, evUn, Z13, Z14, binT, binQ, chk, Z3v, List.contains_cons, List.contains_nil, Bool.or_false, Bool.false_or, Bool.and_self, resQ, resV, resT, Z4u, Z2e, Z47, Z3g, fnOf, Z3c, isD, HO.drow, Z4j, Z3x, evEq, eqV, eqK, eqC1, Z45, Z40, Z39, Z38, Z4f, Z3k, Z2s, Z1s, Z2r, Z1r, Z2q, Z1q, Z1t, Z0y, Z0z, Z0d, List.mem_cons, List.not_mem_nil, or_false, forall_eq, putRow, Z3r, Z23, RetS, RetF, RetD, AV.frz, AV.frzL, AV.freshP, AV.freshL, DV.less, Z2i, Z1u, Z2j, Z1v, Z0f, Z08, Option.some.injEq, AV.tup.injEq, AV.agg.injEq, List.cons.injEq, DV.list.injEq, List.isEmpty_nil, Nat.le_refl, AV.d.injEq, DV.int.injEq, DV.bool.injEq, ↓reduceIte, Nat.reduceEqDiff, Nat.reduceAdd, Nat.reduceBEq, List.length_cons, List.length_nil, List.replicate_succ, List.replicate_zero, List.nil_append, List.cons_append, List.append_nil, List.foldl_cons, List.foldl_nil, List.map_cons, List.map_nil, List.all_cons, List.all_nil, List.set_cons_zero, List.set_cons_succ, List.getD_cons_zero, List.getD_cons_succ, List.drop_zero, List.drop_succ_cons, List.take_succ_cons, List.take_zero, List.flatten_cons, List.flatten_nil, Bool.true_and, Bool.and_true, Bool.not_true, Bool.not_false, true_and, and_true, true_or, or_true, Option.bind_some, Option.map_some, decide_true, decide_false, beq_self_eq_true, true_implies, false_implies, implies_true, not_true_eq_false, not_false_eq_true, and_self, Bool.and_false, Bool.false_and, Nat.reduceLT, Nat.reduceLeDiff, List.reverse_cons, List.reverse_nil, Nat.zero_add, Nat.add_zero, Bool.false_eq_true, List.getElem?_cons_zero, Nat.reduceMul, Nat.mul_one, sp_frR, WG.av, at_srcR, at_Has, at_Put, G1, F2, G2, F3, G3]
  refine ⟨⟨by omega, by omega, roomy_of (by omega) (by omega)⟩, ?_⟩
  refine Loop.fam [1, 3, 4, 5] (fRst1 x) (fun i => i ≤ x.deeds.length) (fun i => x.deeds.length - i) 0 [0, 1] (by simp) (by simp) (by
    simp only [State.can, AV.can, AV.canL, HO.can, Z25, idx, Z02, Z00, Heap.at, Nat.reduceBEq, ↓reduceIte, Nat.reduceEqDiff, Option.getD_some, Option.map_some, List.map_cons, List.map_nil, List.getD_cons_zero, List.getD_cons_succ, fRst1, WG.hv]
    rw [mkR_zero (p := fun a b => dn 0 0 a b && x.frQ a b) (fun a b _ _ => by simp [dn_start])]; rfl) (by omega) ?_
  intro i hi
  have hi : i ≤ x.deeds.length := hi
  simp (maxSteps := 3000000) only [↓Z19, ↓Z26, ↓Z1z, ↓Z05, ↓Z2m, ↓Z2l, Z4b, Z4g, ↓Z1l, ↓Z17, ↓Z0h, ↓Z20, ↓Z0k, ↓Z1k, ↓Z31, ↓Z30, ↓Z24, ↓Z1x, ↓Z2o, ↓Z2c, ↓Z1j, ↓Z3b, ↓Z4c, ↓Z3l, ↓Z3n, ↓Z3m, ↓Z3y, ↓Z3w, ↓Z48, ↓Z0i, ↓Z09, ↓Z18, ↓Z0g, ↓Z1o, Z49, Z07, Z1b, Z32, Z1a, Z35, evN, Z2g, Z1g, Z34, Z41, Z1f, Z15, Z1e, Z2v, Z2h, Z29, Z1h, Z2a, evT, Opd.ev, Z02, Z00, Z33, Z3z, Z3q, Z27, Z1n, Z28, Z2b, Z3j, Z1m, Z0l, Z3o, LOp.isNew, State.prune, Z3u, Z37, AV.leaf, Heap.at, Z0j, Z0a, Z1i, Z0e, Z03, idx_I, idx_W, rowW, Z2f, Z2w, Z21, Z1c, rowB, Z2y, Z2x, rowN, Z4i, Z3p, Z1d, Z16, w_or, w_and, Z2z, Z4d, w_shl, Z43, w_shr, Z4e, w_neg, w_add, w_bit, w_eq0, w_eq1, w_eq, Bool.decide_eq_true, Z3f, Z3e, Z3i, Z2p, Z1p, Z04, Z0b, Z0n, Z01, Z1y, rowI, RatG.row, LocG.row, ActG.row, StepG.row, StampG.row, ActG.av, ActG.eta, RatG.eta, LocG.eta, beq_true, beq_false, Z2k, Z2u, Z2n, Z2t, Z12, Z0q, Z10, Z11, Z0p, Z0o, Z0c, List.length_set, List.length_replicate, Z06, Int.reduceToNat, Z4t, Z2d, Z4a, Src.all, Src.len, Src.leaf, Src.leafN, Z3a, Z44, Z4p, Z0m, Z0r, Z0s, Z0t, Z0u, Z0v, Z0w, Z0x, Z4r, drows, evMk, List.length_map, Z1w, Z22, List.take_length, List.take_left, List.length_append, Nat.le_add_right, ite_self, List.take_of_length_le, Z3d, Z4n, Z42, Option.isSome_none, Option.isSome_some, Nat.sub_zero, Z4m, Z4v, Z4l, evUn, Z13, Z14, binT, binQ, chk, Z3v, List.contains_cons, List.contains_nil, Bool.or_false, Bool.false_or, Bool.and_self, resQ, resV, resT, Z4u, Z2e, Z47, Z3g, fnOf, Z3c, isD, HO.drow, Z4j, Z3x, evEq, eqV, eqK, eqC1, Z45, Z40, Z39, Z38, Z4f, Z3k, Z2s, Z1s, Z2r, Z1r, Z2q, Z1q, Z1t, Z0y, Z0z, Z0d, List.mem_cons, List.not_mem_nil, or_false, forall_eq, putRow, Z3r, Z23, RetS, RetF, RetD, AV.frz, AV.frzL, AV.freshP, AV.freshL, DV.less, Z2i, Z1u, Z2j, Z1v, Z0f, Z08, Option.some.injEq, AV.tup.injEq, AV.agg.injEq, List.cons.injEq, DV.list.injEq, List.isEmpty_nil, Nat.le_refl, AV.d.injEq, DV.int.injEq, DV.bool.injEq, ↓reduceIte, Nat.reduceEqDiff, Nat.reduceAdd, Nat.reduceBEq, List.length_cons, List.length_nil, List.replicate_succ, List.replicate_zero, List.nil_append, List.cons_append, List.append_nil, List.foldl_cons, List.foldl_nil, List.map_cons, List.map_nil, List.all_cons, List.all_nil, List.set_cons_zero, List.set_cons_succ, List.getD_cons_zero, List.getD_cons_succ, List.drop_zero, List.drop_succ_cons, List.take_succ_cons, List.take_zero, List.flatten_cons, List.flatten_nil, Bool.true_and, Bool.and_true, Bool.not_true, Bool.not_false, true_and, and_true, true_or, or_true, Option.bind_some, Option.map_some, decide_true, decide_false, beq_self_eq_true, true_implies, false_implies, implies_true, not_true_eq_false, not_false_eq_true, and_self, Bool.and_false, Bool.false_and, Nat.reduceLT, Nat.reduceLeDiff, List.reverse_cons, List.reverse_nil, Nat.zero_add, Nat.add_zero, Bool.false_eq_true, List.getElem?_cons_zero, Nat.reduceMul, Nat.mul_one, fRst1, WG.hv, at_srcR, at_Has, at_Put, G1, F2, G2, F3, G3]
  refine ⟨fun c => ⟨⟨hx, by omega⟩, ?_⟩, fun c => ?_⟩
  · refine Loop.fam [1, 3, 4, 5, 6, 7] (fRst2 x i) (fun k => k ≤ x.deeds.length) (fun k => x.deeds.length - k) 0 [0, 1] (by simp) (by simp) (by simp only [State.can, AV.can, AV.canL, HO.can, Z25, idx, Z02, Z00, Heap.at, Nat.reduceBEq, ↓reduceIte, Nat.reduceEqDiff, Option.getD_some, Option.map_some, List.map_cons, List.map_nil, List.getD_cons_zero, List.getD_cons_succ, fRst2, WG.hv]; rfl) (by omega) ?_
    intro k hk
    have hk : k ≤ x.deeds.length := hk
    have i' : i < x.deeds.length := by omega
    have hcl : x.co.length ≤ maxLen := by rw [hx.co.len]; unfold maxLen; omega
    simp (maxSteps := 3000000) only [↓Z19, ↓Z26, ↓Z1z, ↓Z05, ↓Z2m, ↓Z2l, Z4b, Z4g, ↓Z1l, ↓Z17, ↓Z0h, ↓Z20, ↓Z0k, ↓Z1k, ↓Z31, ↓Z30, ↓Z24, ↓Z1x, ↓Z2o, ↓Z2c, ↓Z1j, ↓Z3b, ↓Z4c, ↓Z3l, ↓Z3n, ↓Z3m, ↓Z3y, ↓Z3w, ↓Z48, ↓Z0i, ↓Z09, ↓Z18, ↓Z0g, ↓Z1o, Z49, Z07, Z1b, Z32, Z1a, Z35, evN, Z2g, Z1g, Z34, Z41, Z1f, Z15, Z1e, Z2v, Z2h, Z29, Z1h, Z2a, evT, Opd.ev, Z02, Z00, Z33, Z3z, Z3q, Z27, Z1n, Z28, Z2b, Z3j, Z1m, Z0l, Z3o, LOp.isNew, State.prune, Z3u, Z37, AV.leaf, Heap.at, Z0j, Z0a, Z1i, Z0e, Z03, idx_I, idx_W, rowW, Z2f, Z2w, Z21, Z1c, rowB, Z2y, Z2x, rowN, Z4i, Z3p, Z1d, Z16, w_or, w_and, Z2z, Z4d, w_shl, Z43, w_shr, Z4e, w_neg, w_add, w_bit, w_eq0, w_eq1, w_eq, Bool.decide_eq_true, Z3f, Z3e, Z3i, Z2p, Z1p, Z04, Z0b, Z0n, Z01, Z1y, rowI, RatG.row, LocG.row, ActG.row, StepG.row, StampG.row, ActG.av, ActG.eta, RatG.eta, LocG.eta, beq_true, beq_false, Z2k, Z2u, Z2n, Z2t, Z12, Z0q, Z10, Z11, Z0p, Z0o, Z0c, List.length_set, List.length_replicate, Z06, Int.reduceToNat, Z4t, Z2d, Z4a, Src.all, Src.len, Src.leaf, Src.leafN, Z3a, Z44, Z4p, Z0m, Z0r, Z0s, Z0t, Z0u, Z0v, Z0w, Z0x, Z4r, drows, evMk, List.length_map, Z1w, Z22, List.take_length, List.take_left, List.length_append, Nat.le_add_right, ite_self, List.take_of_length_le, Z3d, Z4n, Z42, Option.isSome_none, Option.isSome_some, Nat.sub_zero, Z4m, Z4v, Z4l, evUn, Z13, Z14, binT, binQ, chk, Z3v, List.contains_cons, List.contains_nil, Bool.or_false, Bool.false_or, Bool.and_self, resQ, resV, resT, Z4u, Z2e, Z47, Z3g, fnOf, Z3c, isD, HO.drow, Z4j, Z3x, evEq, eqV, eqK, eqC1, Z45, Z40, Z39, Z38, Z4f, Z3k, Z2s, Z1s, Z2r, Z1r, Z2q, Z1q, Z1t, Z0y, Z0z, Z0d, List.mem_cons, List.not_mem_nil, or_false, forall_eq, putRow, Z3r, Z23, RetS, RetF, RetD, AV.frz, AV.frzL, AV.freshP, AV.freshL, DV.less, Z2i, Z1u, Z2j, Z1v, Z0f, Z08, Option.some.injEq, AV.tup.injEq, AV.agg.injEq, List.cons.injEq, DV.list.injEq, List.isEmpty_nil, Nat.le_refl, AV.d.injEq, DV.int.injEq, DV.bool.injEq, ↓reduceIte, Nat.reduceEqDiff, Nat.reduceAdd, Nat.reduceBEq, List.length_cons, List.length_nil, List.replicate_succ, List.replicate_zero, List.nil_append, List.cons_append, List.append_nil, List.foldl_cons, List.foldl_nil, List.map_cons, List.map_nil, List.all_cons, List.all_nil, List.set_cons_zero, List.set_cons_succ, List.getD_cons_zero, List.getD_cons_succ, List.drop_zero, List.drop_succ_cons, List.take_succ_cons, List.take_zero, List.flatten_cons, List.flatten_nil, Bool.true_and, Bool.and_true, Bool.not_true, Bool.not_false, true_and, and_true, true_or, or_true, Option.bind_some, Option.map_some, decide_true, decide_false, beq_self_eq_true, true_implies, false_implies, implies_true, not_true_eq_false, not_false_eq_true, and_self, Bool.and_false, Bool.false_and, Nat.reduceLT, Nat.reduceLeDiff, List.reverse_cons, List.reverse_nil, Nat.zero_add, Nat.add_zero, Bool.false_eq_true, List.getElem?_cons_zero, Nat.reduceMul, Nat.mul_one, fRst2, WG.hv, at_srcR, at_Has, at_Put, G1, F2, G2, F3, G3, putE_d, Z06, Z4o, szR_mk' hn]
    refine ⟨fun d => ?_, fun d => ?_⟩
    · have k' : k < x.deeds.length := by omega
      have w1 : IntKind.i64.wrap ((k : Int) + 1) = ((k + 1 : Nat) : Int) := Z4h (n := x.deeds.length) k' (by unfold maxLen; omega)
      have hyes : x.frQ i k = true → putR (mkR x.deeds.length fun a b => dn i k a b && x.frQ a b) i k = mkR x.deeds.length fun a b => dn i (k + 1) a b && x.frQ a b := fun h => by
        rw [putR_mk hn i' k']
        exact Z3s fun a b _ _ => (dn_put h a b).symm
      have hno : x.frQ i k = false → (mkR x.deeds.length fun a b => dn i k a b && x.frQ a b) = mkR x.deeds.length fun a b => dn i (k + 1) a b && x.frQ a b := fun h => Z3s fun a b _ _ => (dn_no h a b).symm
      rw [w1]
      clear w1 F2 G2 F3 G3 G1 k1 k2 k3
      (repeat' (first | intro _ | apply And.intro))
      all_goals first
        | omega
        | assumption
        | (rw [hyes (by simp only [WG.frQ, *, decide_true, decide_false, Bool.not_true, Bool.not_false, Bool.and_true, Bool.and_false, Bool.true_and, Bool.false_and] <;> simp_all)]; exact Z36.mk [0, 1] (k + 1) (by simp) (by simp) (by simp only [State.can, AV.can, AV.canL, HO.can, Z25, idx, Z02, Z00, Heap.at, Nat.reduceBEq, ↓reduceIte, Nat.reduceEqDiff, Option.getD_some, Option.map_some, List.map_cons, List.map_nil, List.getD_cons_zero, List.getD_cons_succ, fRst2, WG.hv]) (by omega) (by omega))
        | (rw [hno (by simp only [WG.frQ, *, decide_true, decide_false, Bool.not_true, Bool.not_false, Bool.and_true, Bool.and_false, Bool.true_and, Bool.false_and] <;> simp_all)]; exact Z36.mk [0, 1] (k + 1) (by simp) (by simp) (by simp only [State.can, AV.can, AV.canL, HO.can, Z25, idx, Z02, Z00, Heap.at, Nat.reduceBEq, ↓reduceIte, Nat.reduceEqDiff, Option.getD_some, Option.map_some, List.map_cons, List.map_nil, List.getD_cons_zero, List.getD_cons_succ, fRst2, WG.hv]) (by omega) (by omega))
    · have e : k = x.deeds.length := by omega
      subst e
      rw [Z4h (n := x.deeds.length) i' (by unfold maxLen; omega)]
      refine Z36.mk [0, 1] (i + 1) (by simp) (by simp) ?_ (by omega) (by omega)
      simp only [State.can, AV.can, AV.canL, HO.can, Z25, idx, Z02, Z00, Heap.at, Nat.reduceBEq, ↓reduceIte, Nat.reduceEqDiff, Option.getD_some, Option.map_some, List.map_cons, List.map_nil, List.getD_cons_zero, List.getD_cons_succ, fRst1, WG.hv]
      rw [Z3s (q := fun a b => dn (i + 1) 0 a b && x.frQ a b) fun a b _ hb => by rw [dn_next hb]]
  · have e : i = x.deeds.length := by omega
    subst e
    rw [Z3s (q := x.frQ) fun a b ha _ => by rw [dn_end ha, Bool.true_and]]
    simp (maxSteps := 3000000) only [↓Z19, ↓Z26, ↓Z1z, ↓Z05, ↓Z2m, ↓Z2l, Z4b, Z4g, ↓Z1l, ↓Z17, ↓Z0h, ↓Z20, ↓Z0k, ↓Z1k, ↓Z31, ↓Z30, ↓Z24, ↓Z1x, ↓Z2o, ↓Z2c, ↓Z1j, ↓Z3b, ↓Z4c, ↓Z3l, ↓Z3n, ↓Z3m, ↓Z3y, ↓Z3w, ↓Z48, ↓Z0i, ↓Z09, ↓Z18, ↓Z0g, ↓Z1o, Z49, Z07, Z1b, Z32, Z1a, Z35, evN, Z2g, Z1g, Z34, Z41, Z1f, Z15, Z1e, Z2v, Z2h, Z29, Z1h, Z2a, evT, Opd.ev, Z02, Z00, Z33, Z3z, Z3q, Z27, Z1n, Z28, Z2b, Z3j, Z1m, Z0l, Z3o, LOp.isNew, State.prune, Z3u, Z37, AV.leaf, Heap.at, Z0j, Z0a, Z1i, Z0e, Z03, idx_I, idx_W, rowW, Z2f, Z2w, Z21, Z1c, rowB, Z2y, Z2x, rowN, Z4i, Z3p, Z1d, Z16, w_or, w_and, Z2z, Z4d, w_shl, Z43, w_shr, Z4e, w_neg, w_add, w_bit, w_eq0, w_eq1, w_eq, Bool.decide_eq_true, Z3f, Z3e, Z3i, Z2p, Z1p, Z04, Z0b, Z0n, Z01, Z1y, rowI, RatG.row, LocG.row, ActG.row, StepG.row, StampG.row, ActG.av, ActG.eta, RatG.eta, LocG.eta, beq_true, beq_false, Z2k, Z2u, Z2n, Z2t, Z12, Z0q, Z10, Z11, Z0p, Z0o, Z0c, List.length_set, List.length_replicate, Z06, Int.reduceToNat, Z4t, Z2d, Z4a, Src.all, Src.len, Src.leaf, Src.leafN, Z3a, Z44, Z4p, Z0m, Z0r, Z0s, Z0t, Z0u, Z0v, Z0w, Z0x, Z4r, drows, evMk, List.length_map, Z1w, Z22, List.take_length, List.take_left, List.length_append, Nat.le_add_right, ite_self, List.take_of_length_le, Z3d, Z4n, Z42, Option.isSome_none, Option.isSome_some, Nat.sub_zero, Z4m, Z4v, Z4l, evUn, Z13, Z14, binT, binQ, chk, Z3v, List.contains_cons, List.contains_nil, Bool.or_false, Bool.false_or, Bool.and_self, resQ, resV, resT, Z4u, Z2e, Z47, Z3g, fnOf, Z3c, isD, HO.drow, Z4j, Z3x, evEq, eqV, eqK, eqC1, Z45, Z40, Z39, Z38, Z4f, Z3k, Z2s, Z1s, Z2r, Z1r, Z2q, Z1q, Z1t, Z0y, Z0z, Z0d, List.mem_cons, List.not_mem_nil, or_false, forall_eq, putRow, Z3r, Z23, RetS, RetF, RetD, AV.frz, AV.frzL, AV.freshP, AV.freshL, DV.less, Z2i, Z1u, Z2j, Z1v, Z0f, Z08, Option.some.injEq, AV.tup.injEq, AV.agg.injEq, List.cons.injEq, DV.list.injEq, List.isEmpty_nil, Nat.le_refl, AV.d.injEq, DV.int.injEq, DV.bool.injEq, ↓reduceIte, Nat.reduceEqDiff, Nat.reduceAdd, Nat.reduceBEq, List.length_cons, List.length_nil, List.replicate_succ, List.replicate_zero, List.nil_append, List.cons_append, List.append_nil, List.foldl_cons, List.foldl_nil, List.map_cons, List.map_nil, List.all_cons, List.all_nil, List.set_cons_zero, List.set_cons_succ, List.getD_cons_zero, List.getD_cons_succ, List.drop_zero, List.drop_succ_cons, List.take_succ_cons, List.take_zero, List.flatten_cons, List.flatten_nil, Bool.true_and, Bool.and_true, Bool.not_true, Bool.not_false, true_and, and_true, true_or, or_true, Option.bind_some, Option.map_some, decide_true, decide_false, beq_self_eq_true, true_implies, false_implies, implies_true, not_true_eq_false, not_false_eq_true, and_self, Bool.and_false, Bool.false_and, Nat.reduceLT, Nat.reduceLeDiff, List.reverse_cons, List.reverse_nil, Nat.zero_add, Nat.add_zero, Bool.false_eq_true, List.getElem?_cons_zero, Nat.reduceMul, Nat.mul_one, Z4o, mkR_take, Nat.le_refl]
    rfl
end Go.Ago

/- The document's answer for layer 23: how a world is judged. Conditions: none. -/
set_option maxRecDepth 100000
set_option linter.unusedSimpArgs false
set_option linter.unusedVariables false
namespace Go.Ago
attribute [local irreducible] vck
def meetR (n : Nat) (a b : List W) : Bool := (List.range n).any fun i => (List.range n).any fun k => hasN a i k && hasN b k i
def WG.allQ (x : WG) (i k : Nat) : Bool := x.atR i && hasN (frR x) i k
def WG.allR (x : WG) : List W := mkR x.deeds.length fun i k => hasN (lay2 (layQ 0) (ordR x) x.rf) i k || x.allQ i k
def chkR (x : WG) : Int := if ringG x.allR = true then 1 else if meetR x.deeds.length (ordR x) x.co = true then 2 else if meetR x.deeds.length (ordR x) (frR x) = true then 3 else 0
def sp_chkR : Sp := ⟨WG, fun x => [x.av], fun x => .data x.Ok (.d (.int .i64 (chkR x))) true⟩
theorem at_chkR (x : WG) : sp_chkR.at [.agg [.d (.list (x.locs.map LocG.row) x.lf), .d (.list (x.deeds.map DeedG.row) x.df), .d (.list (x.rf.map rowW) x.rff), .d (.list (x.co.map rowW) x.cof)]] = .data x.Ok (.d (.int .i64 (chkR x))) true :=
  Sp.at_enc (s := sp_chkR) (fun (x y : WG) h => by
    simp only [sp_chkR, List.cons.injEq, and_true] at h
    exact WG.av_inj _ _ h) x
def WG.layed (x : WG) : List W := lay2 (layQ 0) (ordR x) x.rf
def kM (x : WG) (i k : Nat) : List W := mkR x.deeds.length fun a b => hasN x.layed a b || dn i k a b && x.allQ a b
def kSt1 (x : WG) (i : Nat) : State :=
  ⟨[(1, .ptr 0 4 0 0), (3, .d (.int .i64 x.deeds.length)), (4, .d (.list ((ordR x).map rowW) false)), (5, .d (.list ((frR x).map rowW) false)), (6, .ref 1 1 0 x.deeds.length true), (7, .d (.int .i64 i))], [x.hv, .dvec 1 ((kM x i 0).map rowW)]⟩
def kSt2 (x : WG) (i k : Nat) : State :=
  ⟨[(1, .ptr 0 4 0 0), (3, .d (.int .i64 x.deeds.length)), (4, .d (.list ((ordR x).map rowW) false)), (5, .d (.list ((frR x).map rowW) false)), (6, .ref 1 1 0 x.deeds.length true), (7, .d (.int .i64 i)), (8, .d (.int .i64 k))], [x.hv, .dvec 1 ((kM x i k).map rowW)]⟩
def rowsM (x : WG) : HO := .dvec 2 [[.list (x.co.map rowW) x.cof, .int .i64 2], [.list ((frR x).map rowW) false, .int .i64 3]]
def kSt3 (x : WG) (t : Nat) : State :=
  ⟨[(3, .d (.int .i64 x.deeds.length)), (4, .d (.list ((ordR x).map rowW) false)), (54, .ref 0 2 0 2 true), (55, .d (.int .i64 2)), (56, .d (.int .i64 t))], [rowsM x]⟩
def kSt4 (x : WG) (t : Nat) (r : List W) (f : Bool) (v : Int) (i : Nat) : State :=
  ⟨[(3, .d (.int .i64 x.deeds.length)), (4, .d (.list ((ordR x).map rowW) false)), (10, .ptr 1 2 0 0), (11, .d (.int .i64 i)), (54, .ref 0 2 0 2 true), (55, .d (.int .i64 2)), (56, .d (.int .i64 t))], [rowsM x, .vec 2 [[.d (.list (r.map rowW) f), .d (.int .i64 v)]]]⟩
def kSt5 (x : WG) (t : Nat) (r : List W) (f : Bool) (v : Int) (i k : Nat) : State :=
  ⟨[(3, .d (.int .i64 x.deeds.length)), (4, .d (.list ((ordR x).map rowW) false)), (10, .ptr 1 2 0 0), (11, .d (.int .i64 i)), (12, .d (.int .i64 k)), (54, .ref 0 2 0 2 true), (55, .d (.int .i64 2)), (56, .d (.int .i64 t))], [rowsM x, .vec 2 [[.d (.list (r.map rowW) f), .d (.int .i64 v)]]]⟩
theorem meetR_yes {n i k : Nat} {a b : List W} (hi : i < n) (hk : k < n) (h1 : hasN a i k = true) (h2 : hasN b k i = true) : meetR n a b = true :=
  List.any_eq_true.2 ⟨i, by simpa using hi, List.any_eq_true.2 ⟨k, by simpa using hk, by rw [h1, h2]; rfl⟩⟩
theorem meetR_no {n : Nat} {a b : List W} (h : ∀ i k, i < n → k < n → (hasN a i k && hasN b k i) = false) : meetR n a b = false := by
  unfold meetR
  rw [List.any_eq_false]
  intro i hi
  rw [Bool.not_eq_true, List.any_eq_false]
  intro k hk
  rw [h i k (by simpa using hi) (by simpa using hk)]; simp
theorem body_ref23_Check {T : Tab} {n1 n2 n3 n4 n5 n6 n7 : Nat} (k1 : Knows T n1 sp_orderR) (k2 : Knows T n2 sp_frR) (k3 : KnowsG T n3 ef_Put.at) (k4 : Knows T n4 sp_layR) (k5 : Knows T n5 sp_AtomR) (k6 : Knows T n6 sp_Has) (k7 : Knows T n7 sp_Ring) : sp_chkR.Body T V_ref23_Check (L_ref23_Check n1 n2 n3 n4 n5 n6 n7) R_ref23_Check := by
  have F1 := k1.F; have G1 := k1.G; have F2 := k2.F; have G2 := k2.G; have G3 := k3.G; have F4 := k4.F; have G4 := k4.G; have F5 := k5.F; have G5 := k5.G; have F6 := k6.F; have G6 := k6.G; have F7 := k7.F; have G7 := k7.G
  rintro (x : WG) hx
  have hx : x.Ok := hx
  have hn := hx.n
  refine .inl ⟨rfl, ?_⟩
  unfold V_ref23_Check L_ref23_Check R_ref23_Check
  simp (maxSteps := 3000000) only [↓Z19, ↓Z26, ↓Z1z, ↓Z05, ↓Z2m, ↓Z2l, Z4b, Z4g, ↓Z1l, ↓Z17, ↓Z0h, ↓Z20, ↓Z0k, ↓Z1k, ↓Z31, ↓Z30, ↓Z24, ↓Z1x, ↓Z2o, ↓Z2c, ↓Z1j, ↓Z3b, ↓Z4c, ↓Z3l, ↓Z3n, ↓Z3m, ↓Z3y, ↓Z3w, ↓Z48, ↓Z0i, ↓Z09, ↓Z18, ↓Z0g, ↓Z1o, Z49, Z07, Z1b, Z32, Z1a, Z35, evN, Z2g, Z1g, Z34, Z41, Z1f, Z15, Z1e, Z2v, Z2h, Z29, Z1h, Z2a, evT, Opd.ev, Z02, Z00, Z33, Z3z, Z3q, Z27, Z1n, Z28, Z2b, Z3j, Z1m, Z0l, Z3o, LOp.isNew, State.prune, Z3u, Z37, AV.leaf, Heap.at, Z0j, Z0a, Z1i, Z0e, Z03, idx_I, idx_W, rowW, Z2f, Z2w, Z21, Z1c, rowB, Z2y, Z2x, rowN, Z4i, Z3p, Z1d, Z16, w_or, w_and, Z2z, Z4d, w_shl, Z43, w_shr, Z4e, w_neg, w_add, w_bit, w_eq0, w_eq1, w_eq, Bool.decide_eq_true, Z3f, Z3e, Z3i, Z2p, Z1p, Z04, Z0b, Z0n, Z01, Z1y, rowI, RatG.row, LocG.row, ActG.row, StepG.row, StampG.row, ActG.av, ActG.eta, RatG.eta, LocG.eta, beq_true, beq_false, Z2k, Z2u, Z2n, Z2t, Z12, Z0q, Z10, Z11, Z0p, Z0o, Z0c, List.length_set, List.length_replicate, Z06, Int.reduceToNat, Z4t, Z2d, Z4a, Src.all, Src.len, Src.leaf, Src.leafN, Z3a, Z44, Z4p, Z0m, Z0r, Z0s, Z0t, Z0u, Z0v, Z0w, Z0x, Z4r, drows, evMk, List.length_map, Z1w, Z22, List.take_length, List.take_left, List.length_append, Nat.le_add_right, ite_self, List.take_of_length_le, Z3d, Z4n, Z42, Option.isSome_none, Option.isSome_some, Nat.sub_zero, Z4m, Z4v, Z4l, evUn, Z13, Z14, binT, binQ, chk, Z3v, List.contains_cons, List.contains_nil, Bool.or_false, Bool.false_or, Bool.and_self, resQ, resV, resT, Z4u, Z2e, Z47, Z3g, fnOf, Z3c, isD, HO.drow, Z4j, Z3x, evEq, eqV, eqK, eqC1, Z45, Z40, Z39, Z38, Z4f, Z3k, Z2s, Z1s, Z2r, Z1r, Z2q, Z1q, Z1t, Z0y, Z0z, Z0d, List.mem_cons, List.not_mem_nil, or_false, forall_eq, putRow, Z3r, Z23, RetS, RetF, RetD, AV.frz, AV.frzL, AV.freshP, AV.freshL, DV.less, Z2i, Z1u, Z2j, Z1v, Z0f, Z08, Option.some.injEq, AV.tup.injEq, AV.agg.injEq, List.cons.injEq, DV.list.injEq, List.isEmpty_nil, Nat.le_refl, AV.d.injEq, DV.int.injEq, DV.bool.injEq, ↓reduceIte, Nat.reduceEqDiff, Nat.reduceAdd, Nat.reduceBEq, List.length_cons, List.length_nil, List.replicate_succ, List.replicate_zero, List.nil_append, List.cons_append, List.append_nil, List.foldl_cons, List.foldl_nil, List.map_cons, List.map_nil, List.all_cons, List.all_nil, List.set_cons_zero, List.set_cons_succ, List.getD_cons_zero, List.getD_cons_succ, List.drop_zero, List.drop_succ_cons, List.take_succ_cons, List.take_zero, List.flatten_cons, List.flatten_nil, Bool.true_and, Bool.and_true, Bool.not_true, Bool.not_false, true_and, and_true, true_or, or_true, Option.bind_some, Option.map_some, decide_true, decide_false, beq_self_eq_true, true_implies, false_implies, implies_true, not_true_eq_false, not_false_eq_true, and_self, Bool.and_false, Bool.false_and, Nat.reduceLT, Nat.reduceLeDiff, List.reverse_cons, List.reverse_nil, Nat.zero_add, Nat.add_zero, Bool.false_eq_true, List.getElem?_cons_zero, Nat.reduceMul, Nat.mul_one, sp_chkR, WG.av, at_orderR, at_frR, at_layR, at_AtomR, at_Has, at_Ring, at_Put, F1, G1, F2, G2, G3, F4, G4, F5, G5, F6, G6, F7, G7]
  have ho : (ordR x).length = x.deeds.length := by unfold ordR plusG; rw [Z4o, szR_mk' hn]
  have hf : (frR x).length = x.deeds.length := by unfold frR; rw [Z4o]
  have hrl : x.rf.length ≤ maxLen := by rw [hx.rf.len]; unfold maxLen; omega
  have hcl : x.co.length ≤ maxLen := by rw [hx.co.len]; unfold maxLen; omega
  have hol : (ordR x).length ≤ maxLen := by rw [ho]; unfold maxLen; omega
  have hfl : (frR x).length ≤ maxLen := by rw [hf]; unfold maxLen; omega
  have hml : x.deeds.length ≤ maxLen := by unfold maxLen; omega
  have hL : Sq x.deeds.length x.layed := Sq.lay2 ho hx.rf.len hn
  have hM : ∀ i k, (kM x i k).length = x.deeds.length := fun i k => by unfold kM; rw [Z4o]
  refine ⟨hx, hx, ⟨hol, hrl⟩, ?_⟩
  refine Loop.fam [1, 3, 4, 5, 6, 7] (kSt1 x) (fun i => i ≤ x.deeds.length) (fun i => x.deeds.length - i) 0 [0, 3] (by simp) (by simp) (by
    simp only [State.can, AV.can, AV.canL, HO.can, Z25, idx, Z02, Z00, Heap.at, Nat.reduceBEq, ↓reduceIte, Nat.reduceEqDiff, Option.getD_some, Option.map_some, List.map_cons, List.map_nil, List.getD_cons_zero, List.getD_cons_succ, kSt1, WG.hv]
    have e0 : kM x 0 0 = lay2 (layQ 0) (ordR x) x.rf := by
      show _ = x.layed
      conv => rhs; rw [hL.eq]
      exact Z3s fun a b _ _ => by rw [dn_start]; simp
    rw [e0, show (lay2 (layQ 0) (ordR x) x.rf).length = x.deeds.length from hL.len]; rfl) (by omega) ?_
  intro i hi
  have hi : i ≤ x.deeds.length := hi
  simp (maxSteps := 3000000) only [kSt1, WG.hv, ↓Z19, ↓Z26, ↓Z1z, ↓Z05, ↓Z2m, ↓Z2l, Z4b, Z4g, ↓Z1l, ↓Z17, ↓Z0h, ↓Z20, ↓Z0k, ↓Z1k, ↓Z31, ↓Z30, ↓Z24, ↓Z1x, ↓Z2o, ↓Z2c, ↓Z1j, ↓Z3b, ↓Z4c, ↓Z3l, ↓Z3n, ↓Z3m, ↓Z3y, ↓Z3w, ↓Z48, ↓Z0i, ↓Z09, ↓Z18, ↓Z0g, ↓Z1o, Z49, Z07, Z1b, Z32, Z1a, Z35, evN, Z2g, Z1g, Z34, Z41, Z1f, Z15, Z1e, Z2v, Z2h, Z29, Z1h, Z2a, evT, Opd.ev, Z02, Z00, Z33, Z3z, Z3q, Z27, Z1n, Z28, Z2b, Z3j, Z1m, Z0l, Z3o, LOp.isNew, State.prune, Z3u, Z37, AV.leaf, Heap.at, Z0j, Z0a, Z1i, Z0e, Z03, idx_I, idx_W, rowW, Z2f, Z2w, Z21, Z1c, rowB, Z2y, Z2x, rowN, Z4i, Z3p, Z1d, Z16, w_or, w_and, Z2z, Z4d, w_shl, Z43, w_shr, Z4e, w_neg, w_add, w_bit, w_eq0, w_eq1, w_eq, Bool.decide_eq_true, Z3f, Z3e, Z3i, Z2p, Z1p, Z04, Z0b, Z0n, Z01, Z1y, rowI, RatG.row, LocG.row, ActG.row, StepG.row, StampG.row, ActG.av, ActG.eta, RatG.eta, LocG.eta, beq_true, beq_false, Z2k, Z2u, Z2n, Z2t, Z12, Z0q, Z10, Z11, Z0p, Z0o, Z0c, List.length_set, List.length_replicate, Z06, Int.reduceToNat, Z4t, Z2d, Z4a, Src.all, Src.len, Src.leaf, Src.leafN, Z3a, Z44, Z4p, Z0m, Z0r, Z0s, Z0t, Z0u, Z0v, Z0w, Z0x, Z4r, drows, evMk, List.length_map, Z1w, Z22, List.take_length, List.take_left, List.length_append, Nat.le_add_right, ite_self, List.take_of_length_le, Z3d, Z4n, Z42, Option.isSome_none, Option.isSome_some, Nat.sub_zero, Z4m, Z4v, Z4l, evUn, Z13, Z14, binT, binQ, chk, Z3v, List.contains_cons, List.contains_nil, Bool.or_false, Bool.false_or, Bool.and_self, resQ, resV, resT, Z4u, Z2e, Z47, Z3g, fnOf, Z3c, isD, HO.drow, Z4j, Z3x, evEq, eqV, eqK, eqC1, Z45, Z40, Z39, Z38, Z4f, Z3k, Z2s, Z1s, Z2r, Z1r, Z2q, Z1q, Z1t, Z0y, Z0z, Z0d, List.mem_cons, List.not_mem_nil, or_false, forall_eq, putRow, Z3r, Z23, RetS, RetF, RetD, AV.frz, AV.frzL, AV.freshP, AV.freshL, DV.less, Z2i, Z1u, Z2j, Z1v, Z0f, Z08, Option.some.injEq, AV.tup.injEq, AV.agg.injEq, List.cons.injEq, DV.list.injEq, List.isEmpty_nil, Nat.le_refl, AV.d.injEq, DV.int.injEq, DV.bool.injEq, ↓reduceIte, Nat.reduceEqDiff, Nat.reduceAdd, Nat.reduceBEq, List.length_cons, List.length_nil, List.replicate_succ, List.replicate_zero, List.nil_append, List.cons_append, List.append_nil, List.foldl_cons, List.foldl_nil, List.map_cons, List.map_nil, List.all_cons, List.all_nil, List.set_cons_zero, List.set_cons_succ, List.getD_cons_zero, List.getD_cons_succ, List.drop_zero, List.drop_succ_cons, List.take_succ_cons, List.take_zero, List.flatten_cons, List.flatten_nil, Bool.true_and, Bool.and_true, Bool.not_true, Bool.not_false, true_and, and_true, true_or, or_true, Option.bind_some, Option.map_some, decide_true, decide_false, beq_self_eq_true, true_implies, false_implies, implies_true, not_true_eq_false, not_false_eq_true, and_self, Bool.and_false, Bool.false_and, Nat.reduceLT, Nat.reduceLeDiff, List.reverse_cons, List.reverse_nil, Nat.zero_add, Nat.add_zero, Bool.false_eq_true, List.getElem?_cons_zero, Nat.reduceMul, Nat.mul_one, at_orderR, at_frR, at_layR, at_AtomR, at_Has, at_Ring, at_Put, F1, G1, F2, G2, G3, F4, G4, F5, G5, F6, G6, F7, G7, hasI_nat, putE_d, Z06]
  refine ⟨fun c => ?_, fun c => ?_⟩
  · have i' : i < x.deeds.length := by omega
    refine Loop.fam [1, 3, 4, 5, 6, 7, 8] (kSt2 x i) (fun k => k ≤ x.deeds.length) (fun k => x.deeds.length - k) 0 [0, 1] (by simp) (by simp) (by simp only [State.can, AV.can, AV.canL, HO.can, Z25, idx, Z02, Z00, Heap.at, Nat.reduceBEq, ↓reduceIte, Nat.reduceEqDiff, Option.getD_some, Option.map_some, List.map_cons, List.map_nil, List.getD_cons_zero, List.getD_cons_succ, kSt2, WG.hv]; rfl) (by omega) ?_
    intro k hk
    have hk : k ≤ x.deeds.length := hk
    simp (maxSteps := 3000000) only [kSt2, WG.hv, ↓Z19, ↓Z26, ↓Z1z, ↓Z05, ↓Z2m, ↓Z2l, Z4b, Z4g, ↓Z1l, ↓Z17, ↓Z0h, ↓Z20, ↓Z0k, ↓Z1k, ↓Z31, ↓Z30, ↓Z24, ↓Z1x, ↓Z2o, ↓Z2c, ↓Z1j, ↓Z3b, ↓Z4c, ↓Z3l, ↓Z3n, ↓Z3m, ↓Z3y, ↓Z3w, ↓Z48, ↓Z0i, ↓Z09, ↓Z18, ↓Z0g, ↓Z1o, Z49, Z07, Z1b, Z32, Z1a, Z35, evN, Z2g, Z1g, Z34, Z41, Z1f, Z15, Z1e, Z2v, Z2h, Z29, Z1h, Z2a, evT, Opd.ev, Z02, Z00, Z33, Z3z, Z3q, Z27, Z1n, Z28, Z2b, Z3j, Z1m, Z0l, Z3o, LOp.isNew, State.prune, Z3u, Z37, AV.leaf, Heap.at, Z0j, Z0a, Z1i, Z0e, Z03, idx_I, idx_W, rowW, Z2f, Z2w, Z21, Z1c, rowB, Z2y, Z2x, rowN, Z4i, Z3p, Z1d, Z16, w_or, w_and, Z2z, Z4d, w_shl, Z43, w_shr, Z4e, w_neg, w_add, w_bit, w_eq0, w_eq1, w_eq, Bool.decide_eq_true, Z3f, Z3e, Z3i, Z2p, Z1p, Z04, Z0b, Z0n, Z01, Z1y, rowI, RatG.row, LocG.row, ActG.row, StepG.row, StampG.row, ActG.av, ActG.eta, RatG.eta, LocG.eta, beq_true, beq_false, Z2k, Z2u, Z2n, Z2t, Z12, Z0q, Z10, Z11, Z0p, Z0o, Z0c, List.length_set, List.length_replicate, Z06, Int.reduceToNat, Z4t, Z2d, Z4a, Src.all, Src.len, Src.leaf, Src.leafN, Z3a, Z44, Z4p, Z0m, Z0r, Z0s, Z0t, Z0u, Z0v, Z0w, Z0x, Z4r, drows, evMk, List.length_map, Z1w, Z22, List.take_length, List.take_left, List.length_append, Nat.le_add_right, ite_self, List.take_of_length_le, Z3d, Z4n, Z42, Option.isSome_none, Option.isSome_some, Nat.sub_zero, Z4m, Z4v, Z4l, evUn, Z13, Z14, binT, binQ, chk, Z3v, List.contains_cons, List.contains_nil, Bool.or_false, Bool.false_or, Bool.and_self, resQ, resV, resT, Z4u, Z2e, Z47, Z3g, fnOf, Z3c, isD, HO.drow, Z4j, Z3x, evEq, eqV, eqK, eqC1, Z45, Z40, Z39, Z38, Z4f, Z3k, Z2s, Z1s, Z2r, Z1r, Z2q, Z1q, Z1t, Z0y, Z0z, Z0d, List.mem_cons, List.not_mem_nil, or_false, forall_eq, putRow, Z3r, Z23, RetS, RetF, RetD, AV.frz, AV.frzL, AV.freshP, AV.freshL, DV.less, Z2i, Z1u, Z2j, Z1v, Z0f, Z08, Option.some.injEq, AV.tup.injEq, AV.agg.injEq, List.cons.injEq, DV.list.injEq, List.isEmpty_nil, Nat.le_refl, AV.d.injEq, DV.int.injEq, DV.bool.injEq, ↓reduceIte, Nat.reduceEqDiff, Nat.reduceAdd, Nat.reduceBEq, List.length_cons, List.length_nil, List.replicate_succ, List.replicate_zero, List.nil_append, List.cons_append, List.append_nil, List.foldl_cons, List.foldl_nil, List.map_cons, List.map_nil, List.all_cons, List.all_nil, List.set_cons_zero, List.set_cons_succ, List.getD_cons_zero, List.getD_cons_succ, List.drop_zero, List.drop_succ_cons, List.take_succ_cons, List.take_zero, List.flatten_cons, List.flatten_nil, Bool.true_and, Bool.and_true, Bool.not_true, Bool.not_false, true_and, and_true, true_or, or_true, Option.bind_some, Option.map_some, decide_true, decide_false, beq_self_eq_true, true_implies, false_implies, implies_true, not_true_eq_false, not_false_eq_true, and_self, Bool.and_false, Bool.false_and, Nat.reduceLT, Nat.reduceLeDiff, List.reverse_cons, List.reverse_nil, Nat.zero_add, Nat.add_zero, Bool.false_eq_true, List.getElem?_cons_zero, Nat.reduceMul, Nat.mul_one, at_orderR, at_frR, at_layR, at_AtomR, at_Has, at_Ring, at_Put, F1, G1, F2, G2, G3, F4, G4, F5, G5, F6, G6, F7, G7, hasI_nat, putE_d, Z06, hM]
    refine ⟨fun d => ?_, fun d => ?_⟩
    · have k' : k < x.deeds.length := by omega
      have w1 : IntKind.i64.wrap ((k : Int) + 1) = ((k + 1 : Nat) : Int) := Z4h (n := x.deeds.length) k' hml
      have hyes : x.allQ i k = true → putR (kM x i k) i k = kM x i (k + 1) := fun h => by
        unfold kM
        rw [putR_mk hn i' k']
        exact Z3s fun a b _ _ => by rw [dn_put h a b, Bool.or_assoc]
      have hno : x.allQ i k = false → kM x i k = kM x i (k + 1) := fun h => Z3s fun a b _ _ => by rw [dn_no h a b]
      rw [w1]
      have hsz : szR (kM x i k) = x.deeds.length := by unfold szR; rw [hM]; omega
      rw [hsz]
      clear w1 F1 G1 F2 G2 F5 G5 F6 G6 F7 G7 F4 G4 G3 k1 k2 k3 k4 k5 k6 k7
      (repeat' (first | intro _ | apply And.intro))
      all_goals first
        | omega
        | assumption
        | (rw [hyes (by simp only [WG.allQ, *, Bool.and_true, Bool.and_false, Bool.true_and, Bool.false_and])]; exact Z36.mk [0, 1] (k + 1) (by simp) (by simp) (by simp only [State.can, AV.can, AV.canL, HO.can, Z25, idx, Z02, Z00, Heap.at, Nat.reduceBEq, ↓reduceIte, Nat.reduceEqDiff, Option.getD_some, Option.map_some, List.map_cons, List.map_nil, List.getD_cons_zero, List.getD_cons_succ, kSt2, WG.hv]) (by omega) (by omega))
        | (rw [hno (by simp only [WG.allQ, *, Bool.and_true, Bool.and_false, Bool.true_and, Bool.false_and])]; exact Z36.mk [0, 1] (k + 1) (by simp) (by simp) (by simp only [State.can, AV.can, AV.canL, HO.can, Z25, idx, Z02, Z00, Heap.at, Nat.reduceBEq, ↓reduceIte, Nat.reduceEqDiff, Option.getD_some, Option.map_some, List.map_cons, List.map_nil, List.getD_cons_zero, List.getD_cons_succ, kSt2, WG.hv]) (by omega) (by omega))
    · have e : k = x.deeds.length := by omega
      subst e
      rw [Z4h (n := x.deeds.length) i' hml]
      refine Z36.mk [0, 1] (i + 1) (by simp) (by simp) ?_ (by omega) (by omega)
      simp only [State.can, AV.can, AV.canL, HO.can, Z25, idx, Z02, Z00, Heap.at, Nat.reduceBEq, ↓reduceIte, Nat.reduceEqDiff, Option.getD_some, Option.map_some, List.map_cons, List.map_nil, List.getD_cons_zero, List.getD_cons_succ, kSt1, WG.hv]
      rw [show kM x i x.deeds.length = kM x (i + 1) 0 from Z3s fun a b _ hb => by rw [dn_next hb]]
  · have e : i = x.deeds.length := by omega
    subst e
    rw [show kM x x.deeds.length 0 = x.allR from Z3s fun a b ha _ => by rw [dn_end ha, Bool.true_and]; rfl]
    have hA : x.allR.length = x.deeds.length := by unfold WG.allR; rw [Z4o]
    have hA2 : x.allR.take x.deeds.length = x.allR := List.take_of_length_le (by omega)
    simp (maxSteps := 3000000) only [↓Z19, ↓Z26, ↓Z1z, ↓Z05, ↓Z2m, ↓Z2l, Z4b, Z4g, ↓Z1l, ↓Z17, ↓Z0h, ↓Z20, ↓Z0k, ↓Z1k, ↓Z31, ↓Z30, ↓Z24, ↓Z1x, ↓Z2o, ↓Z2c, ↓Z1j, ↓Z3b, ↓Z4c, ↓Z3l, ↓Z3n, ↓Z3m, ↓Z3y, ↓Z3w, ↓Z48, ↓Z0i, ↓Z09, ↓Z18, ↓Z0g, ↓Z1o, Z49, Z07, Z1b, Z32, Z1a, Z35, evN, Z2g, Z1g, Z34, Z41, Z1f, Z15, Z1e, Z2v, Z2h, Z29, Z1h, Z2a, evT, Opd.ev, Z02, Z00, Z33, Z3z, Z3q, Z27, Z1n, Z28, Z2b, Z3j, Z1m, Z0l, Z3o, LOp.isNew, State.prune, Z3u, Z37, AV.leaf, Heap.at, Z0j, Z0a, Z1i, Z0e, Z03, idx_I, idx_W, rowW, Z2f, Z2w, Z21, Z1c, rowB, Z2y, Z2x, rowN, Z4i, Z3p, Z1d, Z16, w_or, w_and, Z2z, Z4d, w_shl, Z43, w_shr, Z4e, w_neg, w_add, w_bit, w_eq0, w_eq1, w_eq, Bool.decide_eq_true, Z3f, Z3e, Z3i, Z2p, Z1p, Z04, Z0b, Z0n, Z01, Z1y, rowI, RatG.row, LocG.row, ActG.row, StepG.row, StampG.row, ActG.av, ActG.eta, RatG.eta, LocG.eta, beq_true, beq_false, Z2k, Z2u, Z2n, Z2t, Z12, Z0q, Z10, Z11, Z0p, Z0o, Z0c, List.length_set, List.length_replicate, Z06, Int.reduceToNat, Z4t, Z2d, Z4a, Src.all, Src.len, Src.leaf, Src.leafN, Z3a, Z44, Z4p, Z0m, Z0r, Z0s, Z0t, Z0u, Z0v, Z0w, Z0x, Z4r, drows, evMk, List.length_map, Z1w, Z22, List.take_length, List.take_left, List.length_append, Nat.le_add_right, ite_self, List.take_of_length_le, Z3d, Z4n, Z42, Option.isSome_none, Option.isSome_some, Nat.sub_zero, Z4m, Z4v, Z4l, evUn, Z13, Z14, binT, binQ, chk, Z3v, List.contains_cons, List.contains_nil, Bool.or_false, Bool.false_or, Bool.and_self, resQ, resV, resT, Z4u, Z2e, Z47, Z3g, fnOf, Z3c, isD, HO.drow, Z4j, Z3x, evEq, eqV, eqK, eqC1, Z45, Z40, Z39, Z38, Z4f, Z3k, Z2s, Z1s, Z2r, Z1r, Z2q, Z1q, Z1t, Z0y, Z0z, Z0d, List.mem_cons, List.not_mem_nil, or_false, forall_eq, putRow, Z3r, Z23, RetS, RetF, RetD, AV.frz, AV.frzL, AV.freshP, AV.freshL, DV.less, Z2i, Z1u, Z2j, Z1v, Z0f, Z08, Option.some.injEq, AV.tup.injEq, AV.agg.injEq, List.cons.injEq, DV.list.injEq, List.isEmpty_nil, Nat.le_refl, AV.d.injEq, DV.int.injEq, DV.bool.injEq, ↓reduceIte, Nat.reduceEqDiff, Nat.reduceAdd, Nat.reduceBEq, List.length_cons, List.length_nil, List.replicate_succ, List.replicate_zero, List.nil_append, List.cons_append, List.append_nil, List.foldl_cons, List.foldl_nil, List.map_cons, List.map_nil, List.all_cons, List.all_nil, List.set_cons_zero, List.set_cons_succ, List.getD_cons_zero, List.getD_cons_succ, List.drop_zero, List.drop_succ_cons, List.take_succ_cons, List.take_zero, List.flatten_cons, List.flatten_nil, Bool.true_and, Bool.and_true, Bool.not_true, Bool.not_false, true_and, and_true, true_or, or_true, Option.bind_some, Option.map_some, decide_true, decide_false, beq_self_eq_true, true_implies, false_implies, implies_true, not_true_eq_false, not_false_eq_true, and_self, Bool.and_false, Bool.false_and, Nat.reduceLT, Nat.reduceLeDiff, List.reverse_cons, List.reverse_nil, Nat.zero_add, Nat.add_zero, Bool.false_eq_true, List.getElem?_cons_zero, Nat.reduceMul, Nat.mul_one, at_orderR, at_frR, at_layR, at_AtomR, at_Has, at_Ring, at_Put, F1, G1, F2, G2, G3, F4, G4, F5, G5, F6, G6, F7, G7, hasI_nat, putE_d, Z06, hA, hA2, Nat.le_refl]
    refine ⟨hml, fun h1 => by unfold chkR; rw [if_pos h1], fun h1 => ?_⟩
    have hc1 : chkR x = if meetR x.deeds.length (ordR x) x.co = true then 2 else if meetR x.deeds.length (ordR x) (frR x) = true then 3 else 0 := by
      unfold chkR; rw [if_neg (by rw [h1]; decide)]
    refine Loop.fam [3, 4, 54, 55, 56] (kSt3 x) (fun t => t ≤ 2 ∧ (1 ≤ t → meetR x.deeds.length (ordR x) x.co = false) ∧ (2 ≤ t → meetR x.deeds.length (ordR x) (frR x) = false)) (fun t => 2 - t) 0 [2] (by simp) (by simp) (by simp only [State.can, AV.can, AV.canL, HO.can, Z25, idx, Z02, Z00, Heap.at, Nat.reduceBEq, ↓reduceIte, Nat.reduceEqDiff, Option.getD_some, Option.map_some, List.map_cons, List.map_nil, List.getD_cons_zero, List.getD_cons_succ, kSt3, rowsM]; rfl) ⟨by omega, by omega, by omega⟩ ?_
    rintro t ⟨ht, m1, m2⟩
    obtain rfl | rfl | rfl : t = 0 ∨ t = 1 ∨ t = 2 := by omega
    · simp (maxSteps := 3000000) only [↓Z19, ↓Z26, ↓Z1z, ↓Z05, ↓Z2m, ↓Z2l, Z4b, Z4g, ↓Z1l, ↓Z17, ↓Z0h, ↓Z20, ↓Z0k, ↓Z1k, ↓Z31, ↓Z30, ↓Z24, ↓Z1x, ↓Z2o, ↓Z2c, ↓Z1j, ↓Z3b, ↓Z4c, ↓Z3l, ↓Z3n, ↓Z3m, ↓Z3y, ↓Z3w, ↓Z48, ↓Z0i, ↓Z09, ↓Z18, ↓Z0g, ↓Z1o, Z49, Z07, Z1b, Z32, Z1a, Z35, evN, Z2g, Z1g, Z34, Z41, Z1f, Z15, Z1e, Z2v, Z2h, Z29, Z1h, Z2a, evT, Opd.ev, Z02, Z00, Z33, Z3z, Z3q, Z27, Z1n, Z28, Z2b, Z3j, Z1m, Z0l, Z3o, LOp.isNew, State.prune, Z3u, Z37, AV.leaf, Heap.at, Z0j, Z0a, Z1i, Z0e, Z03, idx_I, idx_W, rowW, Z2f, Z2w, Z21, Z1c, rowB, Z2y, Z2x, rowN, Z4i, Z3p, Z1d, Z16, w_or, w_and, Z2z, Z4d, w_shl, Z43, w_shr, Z4e, w_neg, w_add, w_bit, w_eq0, w_eq1, w_eq, Bool.decide_eq_true, Z3f, Z3e, Z3i, Z2p, Z1p, Z04, Z0b, Z0n, Z01, Z1y, rowI, RatG.row, LocG.row, ActG.row, StepG.row, StampG.row, ActG.av, ActG.eta, RatG.eta, LocG.eta, beq_true, beq_false, Z2k, Z2u, Z2n, Z2t, Z12, Z0q, Z10, Z11, Z0p, Z0o, Z0c, List.length_set, List.length_replicate, Z06, Int.reduceToNat, Z4t, Z2d, Z4a, Src.all, Src.len, Src.leaf, Src.leafN, Z3a, Z44, Z4p, Z0m, Z0r, Z0s, Z0t, Z0u, Z0v, Z0w, Z0x, Z4r, drows, evMk, List.length_map, Z1w, Z22, List.take_length, List.take_left, List.length_append, Nat.le_add_right, ite_self, List.take_of_length_le, Z3d, Z4n, Z42, Option.isSome_none, Option.isSome_some, Nat.sub_zero, Z4m, Z4v, Z4l, evUn, Z13, Z14, binT, binQ, chk, Z3v, List.contains_cons, List.contains_nil, Bool.or_false, Bool.false_or, Bool.and_self, resQ, resV, resT, Z4u, Z2e, Z47, Z3g, fnOf, Z3c, isD, HO.drow, Z4j, Z3x, evEq, eqV, eqK, eqC1, Z45, Z40, Z39, Z38, Z4f, Z3k, Z2s, Z1s, Z2r, Z1r, Z2q, Z1q, Z1t, Z0y, Z0z, Z0d, List.mem_cons, List.not_mem_nil, or_false, forall_eq, putRow, Z3r, Z23, RetS, RetF, RetD, AV.frz, AV.frzL, AV.freshP, AV.freshL, DV.less, Z2i, Z1u, Z2j, Z1v, Z0f, Z08, Option.some.injEq, AV.tup.injEq, AV.agg.injEq, List.cons.injEq, DV.list.injEq, List.isEmpty_nil, Nat.le_refl, AV.d.injEq, DV.int.injEq, DV.bool.injEq, ↓reduceIte, Nat.reduceEqDiff, Nat.reduceAdd, Nat.reduceBEq, List.length_cons, List.length_nil, List.replicate_succ, List.replicate_zero, List.nil_append, List.cons_append, List.append_nil, List.foldl_cons, List.foldl_nil, List.map_cons, List.map_nil, List.all_cons, List.all_nil, List.set_cons_zero, List.set_cons_succ, List.getD_cons_zero, List.getD_cons_succ, List.drop_zero, List.drop_succ_cons, List.take_succ_cons, List.take_zero, List.flatten_cons, List.flatten_nil, Bool.true_and, Bool.and_true, Bool.not_true, Bool.not_false, true_and, and_true, true_or, or_true, Option.bind_some, Option.map_some, decide_true, decide_false, beq_self_eq_true, true_implies, false_implies, implies_true, not_true_eq_false, not_false_eq_true, and_self, Bool.and_false, Bool.false_and, Nat.reduceLT, Nat.reduceLeDiff, List.reverse_cons, List.reverse_nil, Nat.zero_add, Nat.add_zero, Bool.false_eq_true, List.getElem?_cons_zero, Nat.reduceMul, Nat.mul_one, kSt3, rowsM, evLoadO, List.getD_cons_succ]
      refine ⟨fun _ => ⟨⟨by decide, by decide⟩, ?_⟩, fun h => absurd (by decide) h⟩
      refine Loop.fam [3, 4, 10, 11, 54, 55, 56] (kSt4 x 0 x.co x.cof 2) (fun i => i ≤ x.deeds.length ∧ ∀ a b, a < i → b < x.deeds.length → (hasN (ordR x) a b && hasN x.co b a) = false) (fun i => x.deeds.length - i) 0 [0, 1] (by simp) (by simp) (by simp only [State.can, AV.can, AV.canL, HO.can, Z25, idx, Z02, Z00, Heap.at, Nat.reduceBEq, ↓reduceIte, Nat.reduceEqDiff, Option.getD_some, Option.map_some, List.map_cons, List.map_nil, List.getD_cons_zero, List.getD_cons_succ, kSt4, rowsM]; rfl) ⟨by omega, by omega⟩ ?_
      rintro i ⟨hi, q1⟩
      simp (maxSteps := 3000000) only [↓Z19, ↓Z26, ↓Z1z, ↓Z05, ↓Z2m, ↓Z2l, Z4b, Z4g, ↓Z1l, ↓Z17, ↓Z0h, ↓Z20, ↓Z0k, ↓Z1k, ↓Z31, ↓Z30, ↓Z24, ↓Z1x, ↓Z2o, ↓Z2c, ↓Z1j, ↓Z3b, ↓Z4c, ↓Z3l, ↓Z3n, ↓Z3m, ↓Z3y, ↓Z3w, ↓Z48, ↓Z0i, ↓Z09, ↓Z18, ↓Z0g, ↓Z1o, Z49, Z07, Z1b, Z32, Z1a, Z35, evN, Z2g, Z1g, Z34, Z41, Z1f, Z15, Z1e, Z2v, Z2h, Z29, Z1h, Z2a, evT, Opd.ev, Z02, Z00, Z33, Z3z, Z3q, Z27, Z1n, Z28, Z2b, Z3j, Z1m, Z0l, Z3o, LOp.isNew, State.prune, Z3u, Z37, AV.leaf, Heap.at, Z0j, Z0a, Z1i, Z0e, Z03, idx_I, idx_W, rowW, Z2f, Z2w, Z21, Z1c, rowB, Z2y, Z2x, rowN, Z4i, Z3p, Z1d, Z16, w_or, w_and, Z2z, Z4d, w_shl, Z43, w_shr, Z4e, w_neg, w_add, w_bit, w_eq0, w_eq1, w_eq, Bool.decide_eq_true, Z3f, Z3e, Z3i, Z2p, Z1p, Z04, Z0b, Z0n, Z01, Z1y, rowI, RatG.row, LocG.row, ActG.row, StepG.row, StampG.row, ActG.av, ActG.eta, RatG.eta, LocG.eta, beq_true, beq_false, Z2k, Z2u, Z2n, Z2t, Z12, Z0q, Z10, Z11, Z0p, Z0o, Z0c, List.length_set, List.length_replicate, Z06, Int.reduceToNat, Z4t, Z2d, Z4a, Src.all, Src.len, Src.leaf, Src.leafN, Z3a, Z44, Z4p, Z0m, Z0r, Z0s, Z0t, Z0u, Z0v, Z0w, Z0x, Z4r, drows, evMk, List.length_map, Z1w, Z22, List.take_length, List.take_left, List.length_append, Nat.le_add_right, ite_self, List.take_of_length_le, Z3d, Z4n, Z42, Option.isSome_none, Option.isSome_some, Nat.sub_zero, Z4m, Z4v, Z4l, evUn, Z13, Z14, binT, binQ, chk, Z3v, List.contains_cons, List.contains_nil, Bool.or_false, Bool.false_or, Bool.and_self, resQ, resV, resT, Z4u, Z2e, Z47, Z3g, fnOf, Z3c, isD, HO.drow, Z4j, Z3x, evEq, eqV, eqK, eqC1, Z45, Z40, Z39, Z38, Z4f, Z3k, Z2s, Z1s, Z2r, Z1r, Z2q, Z1q, Z1t, Z0y, Z0z, Z0d, List.mem_cons, List.not_mem_nil, or_false, forall_eq, putRow, Z3r, Z23, RetS, RetF, RetD, AV.frz, AV.frzL, AV.freshP, AV.freshL, DV.less, Z2i, Z1u, Z2j, Z1v, Z0f, Z08, Option.some.injEq, AV.tup.injEq, AV.agg.injEq, List.cons.injEq, DV.list.injEq, List.isEmpty_nil, Nat.le_refl, AV.d.injEq, DV.int.injEq, DV.bool.injEq, ↓reduceIte, Nat.reduceEqDiff, Nat.reduceAdd, Nat.reduceBEq, List.length_cons, List.length_nil, List.replicate_succ, List.replicate_zero, List.nil_append, List.cons_append, List.append_nil, List.foldl_cons, List.foldl_nil, List.map_cons, List.map_nil, List.all_cons, List.all_nil, List.set_cons_zero, List.set_cons_succ, List.getD_cons_zero, List.getD_cons_succ, List.drop_zero, List.drop_succ_cons, List.take_succ_cons, List.take_zero, List.flatten_cons, List.flatten_nil, Bool.true_and, Bool.and_true, Bool.not_true, Bool.not_false, true_and, and_true, true_or, or_true, Option.bind_some, Option.map_some, decide_true, decide_false, beq_self_eq_true, true_implies, false_implies, implies_true, not_true_eq_false, not_false_eq_true, and_self, Bool.and_false, Bool.false_and, Nat.reduceLT, Nat.reduceLeDiff, List.reverse_cons, List.reverse_nil, Nat.zero_add, Nat.add_zero, Bool.false_eq_true, List.getElem?_cons_zero, Nat.reduceMul, Nat.mul_one, kSt4, rowsM, evLoadO, List.getD_cons_succ]
      refine ⟨fun c => ?_, fun c => ?_⟩
      · have i' : i < x.deeds.length := by omega
        refine Loop.fam [3, 4, 10, 11, 12, 54, 55, 56] (kSt5 x 0 x.co x.cof 2 i) (fun k => k ≤ x.deeds.length ∧ ∀ b, b < k → (hasN (ordR x) i b && hasN x.co b i) = false) (fun k => x.deeds.length - k) 0 [0, 1] (by simp) (by simp) (by simp only [State.can, AV.can, AV.canL, HO.can, Z25, idx, Z02, Z00, Heap.at, Nat.reduceBEq, ↓reduceIte, Nat.reduceEqDiff, Option.getD_some, Option.map_some, List.map_cons, List.map_nil, List.getD_cons_zero, List.getD_cons_succ, kSt5, rowsM]; rfl) ⟨by omega, by omega⟩ ?_
        rintro k ⟨hk, q2⟩
        simp (maxSteps := 3000000) only [↓Z19, ↓Z26, ↓Z1z, ↓Z05, ↓Z2m, ↓Z2l, Z4b, Z4g, ↓Z1l, ↓Z17, ↓Z0h, ↓Z20, ↓Z0k, ↓Z1k, ↓Z31, ↓Z30, ↓Z24, ↓Z1x, ↓Z2o, ↓Z2c, ↓Z1j, ↓Z3b, ↓Z4c, ↓Z3l, ↓Z3n, ↓Z3m, ↓Z3y, ↓Z3w, ↓Z48, ↓Z0i, ↓Z09, ↓Z18, ↓Z0g, ↓Z1o, Z49, Z07, Z1b, Z32, Z1a, Z35, evN, Z2g, Z1g, Z34, Z41, Z1f, Z15, Z1e, Z2v, Z2h, Z29, Z1h, Z2a, evT, Opd.ev, Z02, Z00, Z33, Z3z, Z3q, Z27, Z1n, Z28, Z2b, Z3j, Z1m, Z0l, Z3o, LOp.isNew, State.prune, Z3u, Z37, AV.leaf, Heap.at, Z0j, Z0a, Z1i, Z0e, Z03, idx_I, idx_W, rowW, Z2f, Z2w, Z21, Z1c, rowB, Z2y, Z2x, rowN, Z4i, Z3p, Z1d, Z16, w_or, w_and, Z2z, Z4d, w_shl, Z43, w_shr, Z4e, w_neg, w_add, w_bit, w_eq0, w_eq1, w_eq, Bool.decide_eq_true, Z3f, Z3e, Z3i, Z2p, Z1p, Z04, Z0b, Z0n, Z01, Z1y, rowI, RatG.row, LocG.row, ActG.row, StepG.row, StampG.row, ActG.av, ActG.eta, RatG.eta, LocG.eta, beq_true, beq_false, Z2k, Z2u, Z2n, Z2t, Z12, Z0q, Z10, Z11, Z0p, Z0o, Z0c, List.length_set, List.length_replicate, Z06, Int.reduceToNat, Z4t, Z2d, Z4a, Src.all, Src.len, Src.leaf, Src.leafN, Z3a, Z44, Z4p, Z0m, Z0r, Z0s, Z0t, Z0u, Z0v, Z0w, Z0x, Z4r, drows, evMk, List.length_map, Z1w, Z22, List.take_length, List.take_left, List.length_append, Nat.le_add_right, ite_self, List.take_of_length_le, Z3d, Z4n, Z42, Option.isSome_none, Option.isSome_some, Nat.sub_zero, Z4m, Z4v, Z4l, evUn, Z13, Z14, binT, binQ, chk, Z3v, List.contains_cons, List.contains_nil, Bool.or_false, Bool.false_or, Bool.and_self, resQ, resV, resT, Z4u, Z2e, Z47, Z3g, fnOf, Z3c, isD, HO.drow, Z4j, Z3x, evEq, eqV, eqK, eqC1, Z45, Z40, Z39, Z38, Z4f, Z3k, Z2s, Z1s, Z2r, Z1r, Z2q, Z1q, Z1t, Z0y, Z0z, Z0d, List.mem_cons, List.not_mem_nil, or_false, forall_eq, putRow, Z3r, Z23, RetS, RetF, RetD, AV.frz, AV.frzL, AV.freshP, AV.freshL, DV.less, Z2i, Z1u, Z2j, Z1v, Z0f, Z08, Option.some.injEq, AV.tup.injEq, AV.agg.injEq, List.cons.injEq, DV.list.injEq, List.isEmpty_nil, Nat.le_refl, AV.d.injEq, DV.int.injEq, DV.bool.injEq, ↓reduceIte, Nat.reduceEqDiff, Nat.reduceAdd, Nat.reduceBEq, List.length_cons, List.length_nil, List.replicate_succ, List.replicate_zero, List.nil_append, List.cons_append, List.append_nil, List.foldl_cons, List.foldl_nil, List.map_cons, List.map_nil, List.all_cons, List.all_nil, List.set_cons_zero, List.set_cons_succ, List.getD_cons_zero, List.getD_cons_succ, List.drop_zero, List.drop_succ_cons, List.take_succ_cons, List.take_zero, List.flatten_cons, List.flatten_nil, Bool.true_and, Bool.and_true, Bool.not_true, Bool.not_false, true_and, and_true, true_or, or_true, Option.bind_some, Option.map_some, decide_true, decide_false, beq_self_eq_true, true_implies, false_implies, implies_true, not_true_eq_false, not_false_eq_true, and_self, Bool.and_false, Bool.false_and, Nat.reduceLT, Nat.reduceLeDiff, List.reverse_cons, List.reverse_nil, Nat.zero_add, Nat.add_zero, Bool.false_eq_true, List.getElem?_cons_zero, Nat.reduceMul, Nat.mul_one, kSt5, rowsM, evLoadO, List.getD_cons_succ, at_Has, F6, G6, hasI_nat]
        refine ⟨fun d => ⟨hol, fun e1 => ⟨hcl, fun e2 => ?_, fun e2 => ?_⟩, fun e1 => ?_⟩, fun d => ?_⟩
        · rw [hc1]; rw [if_pos (meetR_yes (by omega) (by omega) e1 e2)]
        · rw [Z4h (n := x.deeds.length) (by omega) hml]
          exact Z36.mk [0, 1] (k + 1) (by simp) (by simp) (by simp only [State.can, AV.can, AV.canL, HO.can, Z25, idx, Z02, Z00, Heap.at, Nat.reduceBEq, ↓reduceIte, Nat.reduceEqDiff, Option.getD_some, Option.map_some, List.map_cons, List.map_nil, List.getD_cons_zero, List.getD_cons_succ, kSt5, rowsM]) ⟨by omega, fun b hb => by
            by_cases eb : b = k
            · subst eb; rw [e2, Bool.and_false]
            · exact q2 b (by omega)⟩ (by omega)
        · rw [Z4h (n := x.deeds.length) (by omega) hml]
          exact Z36.mk [0, 1] (k + 1) (by simp) (by simp) (by simp only [State.can, AV.can, AV.canL, HO.can, Z25, idx, Z02, Z00, Heap.at, Nat.reduceBEq, ↓reduceIte, Nat.reduceEqDiff, Option.getD_some, Option.map_some, List.map_cons, List.map_nil, List.getD_cons_zero, List.getD_cons_succ, kSt5, rowsM]) ⟨by omega, fun b hb => by
            by_cases eb : b = k
            · subst eb; rw [e1, Bool.false_and]
            · exact q2 b (by omega)⟩ (by omega)
        · rw [Z4h (n := x.deeds.length) (by omega) hml]
          exact Z36.mk [0, 1] (i + 1) (by simp) (by simp) (by simp only [State.can, AV.can, AV.canL, HO.can, Z25, idx, Z02, Z00, Heap.at, Nat.reduceBEq, ↓reduceIte, Nat.reduceEqDiff, Option.getD_some, Option.map_some, List.map_cons, List.map_nil, List.getD_cons_zero, List.getD_cons_succ, kSt4, rowsM]) ⟨by omega, fun a b ha hb => by
            by_cases ea : a = i
            · subst ea; exact q2 b (by omega)
            · exact q1 a b (by omega) hb⟩ (by omega)
      · have hmm : meetR x.deeds.length (ordR x) x.co = false := meetR_no fun a b ha hb => q1 a b (by omega) hb
        exact Z36.mk [0] (0 + 1) (by simp) (by simp) (by simp only [State.can, AV.can, AV.canL, HO.can, Z25, idx, Z02, Z00, Heap.at, Nat.reduceBEq, ↓reduceIte, Nat.reduceEqDiff, Option.getD_some, Option.map_some, List.map_cons, List.map_nil, List.getD_cons_zero, List.getD_cons_succ, kSt3, rowsM]; rfl) ⟨by omega, fun _ => hmm, fun h => by omega⟩ (by omega)
    · simp (maxSteps := 3000000) only [↓Z19, ↓Z26, ↓Z1z, ↓Z05, ↓Z2m, ↓Z2l, Z4b, Z4g, ↓Z1l, ↓Z17, ↓Z0h, ↓Z20, ↓Z0k, ↓Z1k, ↓Z31, ↓Z30, ↓Z24, ↓Z1x, ↓Z2o, ↓Z2c, ↓Z1j, ↓Z3b, ↓Z4c, ↓Z3l, ↓Z3n, ↓Z3m, ↓Z3y, ↓Z3w, ↓Z48, ↓Z0i, ↓Z09, ↓Z18, ↓Z0g, ↓Z1o, Z49, Z07, Z1b, Z32, Z1a, Z35, evN, Z2g, Z1g, Z34, Z41, Z1f, Z15, Z1e, Z2v, Z2h, Z29, Z1h, Z2a, evT, Opd.ev, Z02, Z00, Z33, Z3z, Z3q, Z27, Z1n, Z28, Z2b, Z3j, Z1m, Z0l, Z3o, LOp.isNew, State.prune, Z3u, Z37, AV.leaf, Heap.at, Z0j, Z0a, Z1i, Z0e, Z03, idx_I, idx_W, rowW, Z2f, Z2w, Z21, Z1c, rowB, Z2y, Z2x, rowN, Z4i, Z3p, Z1d, Z16, w_or, w_and, Z2z, Z4d, w_shl, Z43, w_shr, Z4e, w_neg, w_add, w_bit, w_eq0, w_eq1, w_eq, Bool.decide_eq_true, Z3f, Z3e, Z3i, Z2p, Z1p, Z04, Z0b, Z0n, Z01, Z1y, rowI, RatG.row, LocG.row, ActG.row, StepG.row, StampG.row, ActG.av, ActG.eta, RatG.eta, LocG.eta, beq_true, beq_false, Z2k, Z2u, Z2n, Z2t, Z12, Z0q, Z10, Z11, Z0p, Z0o, Z0c, List.length_set, List.length_replicate, Z06, Int.reduceToNat, Z4t, Z2d, Z4a, Src.all, Src.len, Src.leaf, Src.leafN, Z3a, Z44, Z4p, Z0m, Z0r, Z0s, Z0t, Z0u, Z0v, Z0w, Z0x, Z4r, drows, evMk, List.length_map, Z1w, Z22, List.take_length, List.take_left, List.length_append, Nat.le_add_right, ite_self, List.take_of_length_le, Z3d, Z4n, Z42, Option.isSome_none, Option.isSome_some, Nat.sub_zero, Z4m, Z4v, Z4l, evUn, Z13, Z14, binT, binQ, chk, Z3v, List.contains_cons, List.contains_nil, Bool.or_false, Bool.false_or, Bool.and_self, resQ, resV, resT, Z4u, Z2e, Z47, Z3g, fnOf, Z3c, isD, HO.drow, Z4j, Z3x, evEq, eqV, eqK, eqC1, Z45, Z40, Z39, Z38, Z4f, Z3k, Z2s, Z1s, Z2r, Z1r, Z2q, Z1q, Z1t, Z0y, Z0z, Z0d, List.mem_cons, List.not_mem_nil, or_false, forall_eq, putRow, Z3r, Z23, RetS, RetF, RetD, AV.frz, AV.frzL, AV.freshP, AV.freshL, DV.less, Z2i, Z1u, Z2j, Z1v, Z0f, Z08, Option.some.injEq, AV.tup.injEq, AV.agg.injEq, List.cons.injEq, DV.list.injEq, List.isEmpty_nil, Nat.le_refl, AV.d.injEq, DV.int.injEq, DV.bool.injEq, ↓reduceIte, Nat.reduceEqDiff, Nat.reduceAdd, Nat.reduceBEq, List.length_cons, List.length_nil, List.replicate_succ, List.replicate_zero, List.nil_append, List.cons_append, List.append_nil, List.foldl_cons, List.foldl_nil, List.map_cons, List.map_nil, List.all_cons, List.all_nil, List.set_cons_zero, List.set_cons_succ, List.getD_cons_zero, List.getD_cons_succ, List.drop_zero, List.drop_succ_cons, List.take_succ_cons, List.take_zero, List.flatten_cons, List.flatten_nil, Bool.true_and, Bool.and_true, Bool.not_true, Bool.not_false, true_and, and_true, true_or, or_true, Option.bind_some, Option.map_some, decide_true, decide_false, beq_self_eq_true, true_implies, false_implies, implies_true, not_true_eq_false, not_false_eq_true, and_self, Bool.and_false, Bool.false_and, Nat.reduceLT, Nat.reduceLeDiff, List.reverse_cons, List.reverse_nil, Nat.zero_add, Nat.add_zero, Bool.false_eq_true, List.getElem?_cons_zero, Nat.reduceMul, Nat.mul_one, kSt3, rowsM, evLoadO, List.getD_cons_succ]
      refine ⟨fun _ => ⟨⟨by decide, by decide⟩, ?_⟩, fun h => absurd (by decide) h⟩
      refine Loop.fam [3, 4, 10, 11, 54, 55, 56] (kSt4 x 1 (frR x) false 3) (fun i => i ≤ x.deeds.length ∧ ∀ a b, a < i → b < x.deeds.length → (hasN (ordR x) a b && hasN (frR x) b a) = false) (fun i => x.deeds.length - i) 0 [0, 1] (by simp) (by simp) (by simp only [State.can, AV.can, AV.canL, HO.can, Z25, idx, Z02, Z00, Heap.at, Nat.reduceBEq, ↓reduceIte, Nat.reduceEqDiff, Option.getD_some, Option.map_some, List.map_cons, List.map_nil, List.getD_cons_zero, List.getD_cons_succ, kSt4, rowsM]; rfl) ⟨by omega, by omega⟩ ?_
      rintro i ⟨hi, q1⟩
      simp (maxSteps := 3000000) only [↓Z19, ↓Z26, ↓Z1z, ↓Z05, ↓Z2m, ↓Z2l, Z4b, Z4g, ↓Z1l, ↓Z17, ↓Z0h, ↓Z20, ↓Z0k, ↓Z1k, ↓Z31, ↓Z30, ↓Z24, ↓Z1x, ↓Z2o, ↓Z2c, ↓Z1j, ↓Z3b, ↓Z4c, ↓Z3l, ↓Z3n, ↓Z3m, ↓Z3y, ↓Z3w, ↓Z48, ↓Z0i, ↓Z09, ↓Z18, ↓Z0g, ↓Z1o, Z49, Z07, Z1b, Z32, Z1a, Z35, evN, Z2g, Z1g, Z34, Z41, Z1f, Z15, Z1e, Z2v, Z2h, Z29, Z1h, Z2a, evT, Opd.ev, Z02, Z00, Z33, Z3z, Z3q, Z27, Z1n, Z28, Z2b, Z3j, Z1m, Z0l, Z3o, LOp.isNew, State.prune, Z3u, Z37, AV.leaf, Heap.at, Z0j, Z0a, Z1i, Z0e, Z03, idx_I, idx_W, rowW, Z2f, Z2w, Z21, Z1c, rowB, Z2y, Z2x, rowN, Z4i, Z3p, Z1d, Z16, w_or, w_and, Z2z, Z4d, w_shl, Z43, w_shr, Z4e, w_neg, w_add, w_bit, w_eq0, w_eq1, w_eq, Bool.decide_eq_true, Z3f, Z3e, Z3i, Z2p, Z1p, Z04, Z0b, Z0n, Z01, Z1y, rowI, RatG.row, LocG.row, ActG.row, StepG.row, StampG.row, ActG.av, ActG.eta, RatG.eta, LocG.eta, beq_true, beq_false, Z2k, Z2u, Z2n, Z2t, Z12, Z0q, Z10, Z11, Z0p, Z0o, Z0c, List.length_set, List.length_replicate, Z06, Int.reduceToNat, Z4t, Z2d, Z4a, Src.all, Src.len, Src.leaf, Src.leafN, Z3a, Z44, Z4p, Z0m, Z0r, Z0s, Z0t, Z0u, Z0v, Z0w, Z0x, Z4r, drows, evMk, List.length_map, Z1w, Z22, List.take_length, List.take_left, List.length_append, Nat.le_add_right, ite_self, List.take_of_length_le, Z3d, Z4n, Z42, Option.isSome_none, Option.isSome_some, Nat.sub_zero, Z4m, Z4v, Z4l, evUn, Z13, Z14, binT, binQ, chk, Z3v, List.contains_cons, List.contains_nil, Bool.or_false, Bool.false_or, Bool.and_self, resQ, resV, resT, Z4u, Z2e, Z47, Z3g, fnOf, Z3c, isD, HO.drow, Z4j, Z3x, evEq, eqV, eqK, eqC1, Z45, Z40, Z39, Z38, Z4f, Z3k, Z2s, Z1s, Z2r, Z1r, Z2q, Z1q, Z1t, Z0y, Z0z, Z0d, List.mem_cons, List.not_mem_nil, or_false, forall_eq, putRow, Z3r, Z23, RetS, RetF, RetD, AV.frz, AV.frzL, AV.freshP, AV.freshL, DV.less, Z2i, Z1u, Z2j, Z1v, Z0f, Z08, Option.some.injEq, AV.tup.injEq, AV.agg.injEq, List.cons.injEq, DV.list.injEq, List.isEmpty_nil, Nat.le_refl, AV.d.injEq, DV.int.injEq, DV.bool.injEq, ↓reduceIte, Nat.reduceEqDiff, Nat.reduceAdd, Nat.reduceBEq, List.length_cons, List.length_nil, List.replicate_succ, List.replicate_zero, List.nil_append, List.cons_append, List.append_nil, List.foldl_cons, List.foldl_nil, List.map_cons, List.map_nil, List.all_cons, List.all_nil, List.set_cons_zero, List.set_cons_succ, List.getD_cons_zero, List.getD_cons_succ, List.drop_zero, List.drop_succ_cons, List.take_succ_cons, List.take_zero, List.flatten_cons, List.flatten_nil, Bool.true_and, Bool.and_true, Bool.not_true, Bool.not_false, true_and, and_true, true_or, or_true, Option.bind_some, Option.map_some, decide_true, decide_false, beq_self_eq_true, true_implies, false_implies, implies_true, not_true_eq_false, not_false_eq_true, and_self, Bool.and_false, Bool.false_and, Nat.reduceLT, Nat.reduceLeDiff, List.reverse_cons, List.reverse_nil, Nat.zero_add, Nat.add_zero, Bool.false_eq_true, List.getElem?_cons_zero, Nat.reduceMul, Nat.mul_one, kSt4, rowsM, evLoadO, List.getD_cons_succ]
      refine ⟨fun c => ?_, fun c => ?_⟩
      · have i' : i < x.deeds.length := by omega
        refine Loop.fam [3, 4, 10, 11, 12, 54, 55, 56] (kSt5 x 1 (frR x) false 3 i) (fun k => k ≤ x.deeds.length ∧ ∀ b, b < k → (hasN (ordR x) i b && hasN (frR x) b i) = false) (fun k => x.deeds.length - k) 0 [0, 1] (by simp) (by simp) (by simp only [State.can, AV.can, AV.canL, HO.can, Z25, idx, Z02, Z00, Heap.at, Nat.reduceBEq, ↓reduceIte, Nat.reduceEqDiff, Option.getD_some, Option.map_some, List.map_cons, List.map_nil, List.getD_cons_zero, List.getD_cons_succ, kSt5, rowsM]; rfl) ⟨by omega, by omega⟩ ?_
        rintro k ⟨hk, q2⟩
        simp (maxSteps := 3000000) only [↓Z19, ↓Z26, ↓Z1z, ↓Z05, ↓Z2m, ↓Z2l, Z4b, Z4g, ↓Z1l, ↓Z17, ↓Z0h, ↓Z20, ↓Z0k, ↓Z1k, ↓Z31, ↓Z30, ↓Z24, ↓Z1x, ↓Z2o, ↓Z2c, ↓Z1j, ↓Z3b, ↓Z4c, ↓Z3l, ↓Z3n, ↓Z3m, ↓Z3y, ↓Z3w, ↓Z48, ↓Z0i, ↓Z09, ↓Z18, ↓Z0g, ↓Z1o, Z49, Z07, Z1b, Z32, Z1a, Z35, evN, Z2g, Z1g, Z34, Z41, Z1f, Z15, Z1e, Z2v, Z2h, Z29, Z1h, Z2a, evT, Opd.ev, Z02, Z00, Z33, Z3z, Z3q, Z27, Z1n, Z28, Z2b, Z3j, Z1m, Z0l, Z3o, LOp.isNew, State.prune, Z3u, Z37, AV.leaf, Heap.at, Z0j, Z0a, Z1i, Z0e, Z03, idx_I, idx_W, rowW, Z2f, Z2w, Z21, Z1c, rowB, Z2y, Z2x, rowN, Z4i, Z3p, Z1d, Z16, w_or, w_and, Z2z, Z4d, w_shl, Z43, w_shr, Z4e, w_neg, w_add, w_bit, w_eq0, w_eq1, w_eq, Bool.decide_eq_true, Z3f, Z3e, Z3i, Z2p, Z1p, Z04, Z0b, Z0n, Z01, Z1y, rowI, RatG.row, LocG.row, ActG.row, StepG.row, StampG.row, ActG.av, ActG.eta, RatG.eta, LocG.eta, beq_true, beq_false, Z2k, Z2u, Z2n, Z2t, Z12, Z0q, Z10, Z11, Z0p, Z0o, Z0c, List.length_set, List.length_replicate, Z06, Int.reduceToNat, Z4t, Z2d, Z4a, Src.all, Src.len, Src.leaf, Src.leafN, Z3a, Z44, Z4p, Z0m, Z0r, Z0s, Z0t, Z0u, Z0v, Z0w, Z0x, Z4r, drows, evMk, List.length_map, Z1w, Z22, List.take_length, List.take_left, List.length_append, Nat.le_add_right, ite_self, List.take_of_length_le, Z3d, Z4n, Z42, Option.isSome_none, Option.isSome_some, Nat.sub_zero, Z4m, Z4v, Z4l, evUn, Z13, Z14, binT, binQ, chk, Z3v, List.contains_cons, List.contains_nil, Bool.or_false, Bool.false_or, Bool.and_self, resQ, resV, resT, Z4u, Z2e, Z47, Z3g, fnOf, Z3c, isD, HO.drow, Z4j, Z3x, evEq, eqV, eqK, eqC1, Z45, Z40, Z39, Z38, Z4f, Z3k, Z2s, Z1s, Z2r, Z1r, Z2q, Z1q, Z1t, Z0y, Z0z, Z0d, List.mem_cons, List.not_mem_nil, or_false, forall_eq, putRow, Z3r, Z23, RetS, RetF, RetD, AV.frz, AV.frzL, AV.freshP, AV.freshL, DV.less, Z2i, Z1u, Z2j, Z1v, Z0f, Z08, Option.some.injEq, AV.tup.injEq, AV.agg.injEq, List.cons.injEq, DV.list.injEq, List.isEmpty_nil, Nat.le_refl, AV.d.injEq, DV.int.injEq, DV.bool.injEq, ↓reduceIte, Nat.reduceEqDiff, Nat.reduceAdd, Nat.reduceBEq, List.length_cons, List.length_nil, List.replicate_succ, List.replicate_zero, List.nil_append, List.cons_append, List.append_nil, List.foldl_cons, List.foldl_nil, List.map_cons, List.map_nil, List.all_cons, List.all_nil, List.set_cons_zero, List.set_cons_succ, List.getD_cons_zero, List.getD_cons_succ, List.drop_zero, List.drop_succ_cons, List.take_succ_cons, List.take_zero, List.flatten_cons, List.flatten_nil, Bool.true_and, Bool.and_true, Bool.not_true, Bool.not_false, true_and, and_true, true_or, or_true, Option.bind_some, Option.map_some, decide_true, decide_false, beq_self_eq_true, true_implies, false_implies, implies_true, not_true_eq_false, not_false_eq_true, and_self, Bool.and_false, Bool.false_and, Nat.reduceLT, Nat.reduceLeDiff, List.reverse_cons, List.reverse_nil, Nat.zero_add, Nat.add_zero, Bool.false_eq_true, List.getElem?_cons_zero, Nat.reduceMul, Nat.mul_one, kSt5, rowsM, evLoadO, List.getD_cons_succ, at_Has, F6, G6, hasI_nat]
        refine ⟨fun d => ⟨hol, fun e1 => ⟨hfl, fun e2 => ?_, fun e2 => ?_⟩, fun e1 => ?_⟩, fun d => ?_⟩
        · rw [hc1]; rw [if_neg (by rw [m1 (by omega)]; decide), if_pos (meetR_yes (by omega) (by omega) e1 e2)]
        · rw [Z4h (n := x.deeds.length) (by omega) hml]
          exact Z36.mk [0, 1] (k + 1) (by simp) (by simp) (by simp only [State.can, AV.can, AV.canL, HO.can, Z25, idx, Z02, Z00, Heap.at, Nat.reduceBEq, ↓reduceIte, Nat.reduceEqDiff, Option.getD_some, Option.map_some, List.map_cons, List.map_nil, List.getD_cons_zero, List.getD_cons_succ, kSt5, rowsM]) ⟨by omega, fun b hb => by
            by_cases eb : b = k
            · subst eb; rw [e2, Bool.and_false]
            · exact q2 b (by omega)⟩ (by omega)
        · rw [Z4h (n := x.deeds.length) (by omega) hml]
          exact Z36.mk [0, 1] (k + 1) (by simp) (by simp) (by simp only [State.can, AV.can, AV.canL, HO.can, Z25, idx, Z02, Z00, Heap.at, Nat.reduceBEq, ↓reduceIte, Nat.reduceEqDiff, Option.getD_some, Option.map_some, List.map_cons, List.map_nil, List.getD_cons_zero, List.getD_cons_succ, kSt5, rowsM]) ⟨by omega, fun b hb => by
            by_cases eb : b = k
            · subst eb; rw [e1, Bool.false_and]
            · exact q2 b (by omega)⟩ (by omega)
        · rw [Z4h (n := x.deeds.length) (by omega) hml]
          exact Z36.mk [0, 1] (i + 1) (by simp) (by simp) (by simp only [State.can, AV.can, AV.canL, HO.can, Z25, idx, Z02, Z00, Heap.at, Nat.reduceBEq, ↓reduceIte, Nat.reduceEqDiff, Option.getD_some, Option.map_some, List.map_cons, List.map_nil, List.getD_cons_zero, List.getD_cons_succ, kSt4, rowsM]) ⟨by omega, fun a b ha hb => by
            by_cases ea : a = i
            · subst ea; exact q2 b (by omega)
            · exact q1 a b (by omega) hb⟩ (by omega)
      · have hmm : meetR x.deeds.length (ordR x) (frR x) = false := meetR_no fun a b ha hb => q1 a b (by omega) hb
        exact Z36.mk [0] (1 + 1) (by simp) (by simp) (by simp only [State.can, AV.can, AV.canL, HO.can, Z25, idx, Z02, Z00, Heap.at, Nat.reduceBEq, ↓reduceIte, Nat.reduceEqDiff, Option.getD_some, Option.map_some, List.map_cons, List.map_nil, List.getD_cons_zero, List.getD_cons_succ, kSt3, rowsM]; rfl) ⟨by omega, fun _ => m1 (by omega), fun h => hmm⟩ (by omega)
    · simp (maxSteps := 3000000) only [↓Z19, ↓Z26, ↓Z1z, ↓Z05, ↓Z2m, ↓Z2l, Z4b, Z4g, ↓Z1l, ↓Z17, ↓Z0h, ↓Z20, ↓Z0k, ↓Z1k, ↓Z31, ↓Z30, ↓Z24, ↓Z1x, ↓Z2o, ↓Z2c, ↓Z1j, ↓Z3b, ↓Z4c, ↓Z3l, ↓Z3n, ↓Z3m, ↓Z3y, ↓Z3w, ↓Z48, ↓Z0i, ↓Z09, ↓Z18, ↓Z0g, ↓Z1o, Z49, Z07, Z1b, Z32, Z1a, Z35, evN, Z2g, Z1g, Z34, Z41, Z1f, Z15, Z1e, Z2v, Z2h, Z29, Z1h, Z2a, evT, Opd.ev, Z02, Z00, Z33, Z3z, Z3q, Z27, Z1n, Z28, Z2b, Z3j, Z1m, Z0l, Z3o, LOp.isNew, State.prune, Z3u, Z37, AV.leaf, Heap.at, Z0j, Z0a, Z1i, Z0e, Z03, idx_I, idx_W, rowW, Z2f, Z2w, Z21, Z1c, rowB, Z2y, Z2x, rowN, Z4i, Z3p, Z1d, Z16, w_or, w_and, Z2z, Z4d, w_shl, Z43, w_shr, Z4e, w_neg, w_add, w_bit, w_eq0, w_eq1, w_eq, Bool.decide_eq_true, Z3f, Z3e, Z3i, Z2p, Z1p, Z04, Z0b, Z0n, Z01, Z1y, rowI, RatG.row, LocG.row, ActG.row, StepG.row, StampG.row, ActG.av, ActG.eta, RatG.eta, LocG.eta, beq_true, beq_false, Z2k, Z2u, Z2n, Z2t, Z12, Z0q, Z10, Z11, Z0p, Z0o, Z0c, List.length_set, List.length_replicate, Z06, Int.reduceToNat, Z4t, Z2d, Z4a, Src.all, Src.len, Src.leaf, Src.leafN, Z3a, Z44, Z4p, Z0m, Z0r, Z0s, Z0t, Z0u, Z0v, Z0w, Z0x, Z4r, drows, evMk, List.length_map, Z1w, Z22, List.take_length, List.take_left, List.length_append, Nat.le_add_right, ite_self, List.take_of_length_le, Z3d, Z4n, Z42, Option.isSome_none, Option.isSome_some, Nat.sub_zero, Z4m, Z4v, Z4l, evUn, Z13, Z14, binT, binQ, chk, Z3v, List.contains_cons, List.contains_nil, Bool.or_false, Bool.false_or, Bool.and_self, resQ, resV, resT, Z4u, Z2e, Z47, Z3g, fnOf, Z3c, isD, HO.drow, Z4j, Z3x, evEq, eqV, eqK, eqC1, Z45, Z40, Z39, Z38, Z4f, Z3k, Z2s, Z1s, Z2r, Z1r, Z2q, Z1q, Z1t, Z0y, Z0z, Z0d, List.mem_cons, List.not_mem_nil, or_false, forall_eq, putRow, Z3r, Z23, RetS, RetF, RetD, AV.frz, AV.frzL, AV.freshP, AV.freshL, DV.less, Z2i, Z1u, Z2j, Z1v, Z0f, Z08, Option.some.injEq, AV.tup.injEq, AV.agg.injEq, List.cons.injEq, DV.list.injEq, List.isEmpty_nil, Nat.le_refl, AV.d.injEq, DV.int.injEq, DV.bool.injEq, ↓reduceIte, Nat.reduceEqDiff, Nat.reduceAdd, Nat.reduceBEq, List.length_cons, List.length_nil, List.replicate_succ, List.replicate_zero, List.nil_append, List.cons_append, List.append_nil, List.foldl_cons, List.foldl_nil, List.map_cons, List.map_nil, List.all_cons, List.all_nil, List.set_cons_zero, List.set_cons_succ, List.getD_cons_zero, List.getD_cons_succ, List.drop_zero, List.drop_succ_cons, List.take_succ_cons, List.take_zero, List.flatten_cons, List.flatten_nil, Bool.true_and, Bool.and_true, Bool.not_true, Bool.not_false, true_and, and_true, true_or, or_true, Option.bind_some, Option.map_some, decide_true, decide_false, beq_self_eq_true, true_implies, false_implies, implies_true, not_true_eq_false, not_false_eq_true, and_self, Bool.and_false, Bool.false_and, Nat.reduceLT, Nat.reduceLeDiff, List.reverse_cons, List.reverse_nil, Nat.zero_add, Nat.add_zero, Bool.false_eq_true, List.getElem?_cons_zero, Nat.reduceMul, Nat.mul_one, kSt3, rowsM, evLoadO, List.getD_cons_succ]
      refine ⟨fun h => absurd h (by decide), fun _ => ?_⟩
      rw [hc1, m1 (by omega), m2 (by omega)]; rfl
end Go.Ago

/- Contracts of package hist. Conditions: none. -/
set_option maxRecDepth 100000
set_option linter.unusedSimpArgs false
set_option linter.unusedVariables false
namespace Go.Ago

/-! ### slices.BinarySearchFunc over stamps -/
end Go.Ago

/- The contracts of the reference of layer 1: those of package rat. Conditions: none. -/
set_option maxRecDepth 100000
set_option linter.unusedSimpArgs false
set_option linter.unusedVariables false
namespace Go.Ago

end Go.Ago

/- Contracts of the reference of layer 20, its small words. Conditions: none. -/
set_option maxRecDepth 100000
set_option linter.unusedSimpArgs false
set_option linter.unusedVariables false
namespace Go.Ago

/-! ### Lists of lists -/
end Go.Ago

/- The document's answer for layer 23: the order of writes, told from the lists. Conditions: none. -/
set_option maxRecDepth 100000
set_option linter.unusedSimpArgs false
set_option linter.unusedVariables false
namespace Go.Ago
/-- Where a number stands. -/
theorem place_cases (l : List Int) (n : Int) : (∃ i : Nat, i < l.length ∧ l.getD i default = n ∧ placeG l n = i) ∨ n ∉ l ∧ placeG l n = -1 := by
  unfold placeG
  rcases first_cases l.length (fun i => decide (l.getD i default = n)) with ⟨i, h1, h2, _, h4⟩ | ⟨h1, h2⟩
  · exact .inl ⟨i, h1, of_decide_eq_true h2, h4⟩
  · refine .inr ⟨fun hm => ?_, h2⟩
    obtain ⟨i, hi, e⟩ := List.mem_iff_getElem.1 hm
    have := h1 i hi
    rw [decide_eq_false_iff_not, getD_of hi] at this
    exact this e
theorem place_nodup {l : List Int} (hn : l.Nodup) {i : Nat} (hi : i < l.length) : placeG l (l.getD i default) = i := by
  rcases place_cases l (l.getD i default) with ⟨j, h1, h2, h3⟩ | ⟨h1, _⟩
  · rw [getD_of hi, getD_of h1] at h2
    have := (List.getElem_inj hn).1 h2
    rw [h3, this]
  · exact absurd (by rw [getD_of hi]; exact List.getElem_mem _) h1

def inR (n : Nat) (j : Int) : Bool := decide (0 ≤ j) && decide (j < n)
def filtP (n : Nat) (lst : List Int) (i : Nat) : Nat → List RatG
  | 0 => []
  | k + 1 => if inR n (lst.getD k default) = true then filtP n lst i k ++ [⟨lst.getD k default, i⟩] else filtP n lst i k
def qW (D : List DeedG) (n t : Nat) (lst : List Int) : Nat → List RatG
  | 0 => []
  | i + 1 => if n ≤ i ∧ (D.getD i default).act.isW = true ∧ (D.getD i default).act.loc = t then qW D n t lst i ++ (⟨t, i⟩ :: filtP D.length lst i (placeG lst i).toNat) else qW D n t lst i
def qO (D : List DeedG) (n : Nat) (order : List (List Int × Bool)) : Nat → List RatG
  | 0 => []
  | t + 1 => qO D n order t ++ qW D n t (order.getD t default).1 D.length
theorem mem_filtP {n : Nat} {lst : List Int} {i : Nat} {p : RatG} : ∀ {k : Nat}, p ∈ filtP n lst i k ↔ ∃ m, m < k ∧ inR n (lst.getD m default) = true ∧ p = ⟨lst.getD m default, i⟩ := by
  intro k
  induction k with
  | zero => simp [filtP]
  | succ k ih =>
    unfold filtP
    split
    · rename_i h
      rw [List.mem_append, ih]
      constructor
      · rintro (⟨m, h1, h2⟩ | h1)
        · exact ⟨m, by omega, h2⟩
        · exact ⟨k, by omega, h, by simpa using h1⟩
      · rintro ⟨m, h1, h2, h3⟩
        by_cases e : m = k
        · subst e; exact .inr (by simp [h3])
        · exact .inl ⟨m, by omega, h2, h3⟩
    · rename_i h
      rw [ih]
      constructor
      · rintro ⟨m, h1, h2⟩; exact ⟨m, by omega, h2⟩
      · rintro ⟨m, h1, h2, h3⟩
        by_cases e : m = k
        · subst e; exact absurd h2 h
        · exact ⟨m, by omega, h2, h3⟩
theorem mem_qW {D : List DeedG} {n t : Nat} {lst : List Int} {p : RatG} : ∀ {i : Nat}, p ∈ qW D n t lst i ↔ ∃ j : Nat, j < i ∧ n ≤ j ∧ (D.getD j default).act.isW = true ∧ (D.getD j default).act.loc = t ∧
    (p = ⟨t, j⟩ ∨ ∃ m : Nat, m < (placeG lst j).toNat ∧ inR D.length (lst.getD m default) = true ∧ p = ⟨lst.getD m default, j⟩) := by
  intro i
  induction i with
  | zero => simp [qW]
  | succ i ih =>
    unfold qW
    split
    · rename_i h
      rw [List.mem_append, ih, List.mem_cons, mem_filtP]
      constructor
      · rintro (⟨j, h1, h2⟩ | h1)
        · exact ⟨j, by omega, h2⟩
        · exact ⟨i, by omega, h.1, h.2.1, h.2.2, h1⟩
      · rintro ⟨j, h1, h2, h3, h4, h5⟩
        by_cases e : j = i
        · subst e; exact .inr h5
        · exact .inl ⟨j, by omega, h2, h3, h4, h5⟩
    · rename_i h
      rw [ih]
      constructor
      · rintro ⟨j, h1, h2⟩; exact ⟨j, by omega, h2⟩
      · rintro ⟨j, h1, h2, h3, h4, h5⟩
        by_cases e : j = i
        · subst e; exact absurd ⟨h2, h3, h4⟩ h
        · exact ⟨j, by omega, h2, h3, h4, h5⟩
theorem mem_qO {D : List DeedG} {n : Nat} {order : List (List Int × Bool)} {p : RatG} : ∀ {m : Nat}, p ∈ qO D n order m ↔ ∃ t, t < m ∧ p ∈ qW D n t (order.getD t default).1 D.length := by
  intro m
  induction m with
  | zero => simp [qO]
  | succ m ih =>
    unfold qO
    rw [List.mem_append, ih]
    constructor
    · rintro (⟨t, h1, h2⟩ | h1)
      · exact ⟨t, by omega, h2⟩
      · exact ⟨m, by omega, h1⟩
    · rintro ⟨t, h1, h2⟩
      by_cases e : t = m
      · subst e; exact .inr h2
      · exact .inl ⟨t, by omega, h2⟩
theorem line_get0 {order : List (List Int × Bool)} {t : Nat} : (lineG order t).getD 0 default = t := rfl
theorem line_getS {order : List (List Int × Bool)} {t k : Nat} : (lineG order t).getD (k + 1) default = (order.getD t default).1.getD k default := rfl
theorem line_len {order : List (List Int × Bool)} {t : Nat} : (lineG order t).length = (order.getD t default).1.length + 1 := rfl
section
variable {l : List LocG} {acts : List (List ActG × Bool)} {fr : List Int} {order : List (List Int × Bool)} {x : WG} (B : BuiltG l acts fr order x)
include B
/-- The pairs that the document tells are those of the order. -/
theorem BuiltG.told {ps : List RatG} (h : coG x.deeds l.length order l.length = some ps) (p : RatG) : p ∈ qO x.deeds l.length order l.length ↔ p ∈ ps := by
  rw [mem_qO, (co_mem h).1]
  constructor
  · rintro ⟨t, ht, hp⟩
    obtain ⟨j, h1, h2, h3, h4, h5⟩ := mem_qW.1 hp
    have hm : (j : Int) ∈ lineG order t := (B.line_mem ht).2 ⟨by omega, by omega, by rw [Int.toNat_natCast]; exact h3, by rw [Int.toNat_natCast]; exact h4⟩
    unfold lineG at hm
    rw [List.mem_cons] at hm
    rcases hm with hm | hm
    · omega
    · rcases place_cases (order.getD t default).1 j with ⟨y, q1, q2, q3⟩ | ⟨q1, _⟩
      · rcases h5 with h5 | ⟨m, h5, h6, h7⟩
        · exact ⟨t, 0, y + 1, ht, by omega, by rw [line_len]; omega, by rw [h5, line_get0, line_getS, q2]⟩
        · exact ⟨t, m + 1, y + 1, ht, by omega, by rw [line_len]; omega, by rw [h7, line_getS, line_getS, q2]⟩
      · exact absurd hm q1
  · rintro ⟨t, a, b, ht, h1, h2, h3⟩
    refine ⟨t, ht, ?_⟩
    obtain ⟨y, rfl⟩ : ∃ y, b = y + 1 := ⟨b - 1, by omega⟩
    rw [line_len] at h2
    have hn := B.line_nodup ht
    unfold lineG at hn
    rw [List.nodup_cons] at hn
    have hmem : (lineG order t).getD (y + 1) default ∈ lineG order t := by rw [getD_of (by rw [line_len]; omega)]; exact List.getElem_mem _
    have hwl := (B.line_mem ht).1 hmem
    rw [line_getS] at hwl
    have hne : (order.getD t default).1.getD y default ≠ (t : Int) := fun e => hn.1 (by rw [← e, getD_of (l := (order.getD t default).1) (i := y) (by omega)]; exact List.getElem_mem _)
    obtain ⟨g1, g2, g3, g4⟩ := hwl
    generalize hj : (order.getD t default).1.getD y default = j at *
    have hpl : placeG (order.getD t default).1 j = y := by rw [← hj]; exact place_nodup hn.2 (by omega)
    obtain ⟨j', rfl⟩ := Int.eq_ofNat_of_zero_le g1
    rw [Int.toNat_natCast] at g3 g4
    refine mem_qW.2 ⟨j', by omega, ?_, g3, g4, ?_⟩
    · apply Classical.byContradiction
      intro hlt
      rw [B.deeds, deeds_loc0 (by omega)] at g4
      exact hne (by omega)
    · rw [h3, hpl, line_getS, hj, Int.toNat_natCast]
      rcases a with _ | m
      · left; rw [line_get0]
      · right
        refine ⟨m, by omega, ?_, by rw [line_getS]⟩
        have hmem2 : (lineG order t).getD (m + 1) default ∈ lineG order t := by rw [getD_of (by rw [line_len]; omega)]; exact List.getElem_mem _
        have := (B.line_mem ht).1 hmem2
        rw [line_getS] at this
        unfold inR
        rw [decide_eq_true this.1, decide_eq_true this.2.1]; rfl
end
end Go.Ago

/- The document's answer for layer 23: two worlds are the same; a world is built. Conditions: none. -/
set_option maxRecDepth 100000
set_option linter.unusedSimpArgs false
set_option linter.unusedVariables false
namespace Go.Ago
attribute [local irreducible] vck
end Go.Ago

/- The laws AxiomForms and AxiomJudges: a built world is judged alike. Conditions: none. -/
set_option maxRecDepth 100000
set_option linter.unusedSimpArgs false
set_option linter.unusedVariables false
namespace Go.Ago
attribute [local irreducible] vck
theorem meetsE {n : Nat} {a b : List W} (ha : Sq n a) (hb : Sq n b) (hn : n ≤ 64) : meetsG a b = meetR n a b := by
  cases h : meetR n a b with
  | true =>
    unfold meetR at h
    obtain ⟨i, hi, h⟩ := List.any_eq_true.1 h
    obtain ⟨k, hk, h⟩ := List.any_eq_true.1 h
    simp only [Bool.and_eq_true] at h
    cases hm : meetsG a b with
    | true => rfl
    | false => exact (no_meet hm h.1 h.2).elim
  | false =>
    unfold meetsG
    rw [Bool.eq_false_iff]
    intro hm
    obtain ⟨w, hw, hz⟩ := List.any_eq_true.1 hm
    obtain ⟨i, hi, rfl⟩ := List.getElem_of_mem hw
    have hsz : (lay2 qAnd a (backG b)).length = n := by
      rw [lay2_len]; exact mxR_eq ha.len (by unfold backG szR; rw [Z4o, hb.len]; omega) hn
    have hnz : ∃ k, k < 64 ∧ ((lay2 qAnd a (backG b))[i]).getLsbD k = true := by
      apply Classical.byContradiction
      intro hno
      have : (lay2 qAnd a (backG b))[i] = 0#64 := by
        apply BitVec.eq_of_getLsbD_eq
        intro k hk
        rw [BitVec.getLsbD_zero]
        cases hh : ((lay2 qAnd a (backG b))[i]).getLsbD k with
        | false => rfl
        | true => exact (hno ⟨k, hk, hh⟩).elim
      unfold nzW at hz
      rw [this] at hz
      simp at hz
    obtain ⟨k, hk, hk2⟩ := hnz
    have hhas : hasN (lay2 qAnd a (backG b)) i k = true := by
      have hi' : i < n := by rw [← hsz]; exact hi
      have e : (lay2 qAnd a (backG b)).getD i 0#64 = (lay2 qAnd a (backG b))[i] := by rw [List.getD_eq_getElem?_getD, List.getElem?_eq_getElem hi]; rfl
      have hk3 : k < n := by
        rw [← e] at hk2
        unfold lay2 at hk2
        rw [mkR_get (by rw [lay2_len] at hi; exact hi)] at hk2
        simp only [Bool.and_eq_true, decide_eq_true_eq] at hk2
        rw [lay2_len] at hsz
        omega
      unfold hasN
      rw [e, hk2]
      have : szR (lay2 qAnd a (backG b)) = n := by unfold szR; rw [hsz]; omega
      rw [this, decide_eq_true hi', decide_eq_true hk3]; rfl
    rw [hasN_lay2 rfl, hasN_back23] at hhas
    unfold qAnd at hhas
    rw [Bool.and_eq_true] at hhas
    have : meetR n a b = true := meetR_yes (ha.lt hhas.1).1 (ha.lt hhas.1).2 hhas.1 hhas.2
    rw [h] at this; cases this
section
variable {l : List LocG} {acts : List (List ActG × Bool)} {fr : List Int} {order : List (List Int × Bool)} {x : WG} (B : BuiltG l acts fr order x)
include B
theorem BuiltG.atR {i : Nat} (hi : i < x.deeds.length) : x.atR i = x.atom i := by
  rw [B.atom hi]
  obtain ⟨g1, g2⟩ := B.good hi
  unfold WG.atR ActG.isA
  unfold ActG.right at g1
  rw [if_neg g2] at g1
  simp only [Bool.and_eq_true, decide_eq_true_eq] at g1
  have h1 := g1.1.1.1.1.1.1
  have h2 := g1.1.1.1.1.1.2
  apply beq_of_iff
  simp only [Bool.or_eq_true, decide_eq_true_eq]
  omega
theorem BuiltG.th {i : Nat} (hi : i < x.deeds.length) : -1 ≤ (x.deeds.getD i default).th := by
  rcases Nat.lt_or_ge i l.length with h | h
  · rw [B.deeds, deeds_th0 h]; omega
  · have := deeds_th (l := l) (acts := acts) h (by rw [← B.deeds]; exact hi)
    rw [B.deeds]; omega
theorem BuiltG.base : x.baseO = mkR x.deeds.length x.stepR := by
  unfold WG.baseO
  refine Z3s fun i k hi hk => ?_
  unfold WG.stepR WG.baseR
  rw [hasN_only (by rw [(sq_r B.ok).len]; exact B.le), hasN_or, B.atR hi, Bool.or_comm]
  congr 1
  unfold WG.bef befD befR
  have h1 := B.th hi
  have h2 := B.th hk
  apply beq_of_iff
  simp only [Bool.or_eq_true, Bool.and_eq_true, decide_eq_true_eq, Bool.not_eq_true', decide_eq_false_iff_not]
  omega
theorem BuiltG.ordE : ordW x = ordR x := by unfold ordW ordR; rw [B.base]
theorem BuiltG.frE : frW x = frR x := by
  unfold frW frR
  refine Z3s fun i k hi hk => ?_
  unfold WG.frQ
  have hd : decide (k = i) = decide ((k : Int) = i) := decide_eq_decide.2 ⟨fun h => by omega, fun h => by omega⟩
  rw [hd]
  have hsrc : frP x i k = (decide (0 ≤ x.srcR i) && hasI x.co (x.srcR i) k) := by
    unfold WG.srcR
    rcases first_cases x.deeds.length (fun k => hasN x.rf k i) with ⟨s, h1, h2, _, h4⟩ | ⟨h1, h2⟩
    · rw [h4, hasI_nat, decide_eq_true (show (0 : Int) ≤ s by omega), Bool.true_and]
      apply beq_of_iff
      unfold frP
      rw [thenP_iff]
      constructor
      · rintro ⟨j, q1, q2⟩
        rw [hasN_back23] at q1
        rw [← B.rf_one q1 h2]; exact q2
      · exact fun h => ⟨s, by rw [hasN_back23]; exact h2, h⟩
    · rw [h2]
      rw [show decide ((0 : Int) ≤ -1) = false from rfl, Bool.false_and]
      unfold frP
      rw [Bool.eq_false_iff]
      intro h
      obtain ⟨j, q1, q2⟩ := thenP_iff.1 h
      rw [hasN_back23] at q1
      have := h1 j (B.ok.rf.lt q1).1
      rw [this] at q1; cases q1
  rw [hsrc]
  cases decide (0 ≤ x.srcR i) <;> cases decide ((k : Int) = i) <;> cases hasI x.co (x.srcR i) k <;> rfl
theorem BuiltG.ordSq : Sq x.deeds.length (ordW x) := by
  unfold ordW plusG
  have hz : szR x.baseO = x.deeds.length := by unfold WG.baseO szR; rw [Z4o]; have := B.le; omega
  rw [hz]; exact Sq.mk B.le _
theorem BuiltG.frSq : Sq x.deeds.length (frW x) := by unfold frW; exact Sq.mk B.le _
theorem BuiltG.allE : lay2 qOr (lay2 qOr (ordW x) x.rf) (onlyG x (frW x)) = x.allR := by
  have s1 : Sq x.deeds.length (lay2 qOr (ordW x) x.rf) := Sq.lay2 B.ordSq.len B.ok.rf.len B.le
  have s2 : Sq x.deeds.length (onlyG x (frW x)) := only_sq B.le B.frSq
  refine Sq.ext (Sq.lay2 s1.len s2.len B.le) (by unfold WG.allR; exact Sq.mk B.le _) fun i k hi hk => ?_
  unfold WG.allR
  rw [hasN_mk B.le, decide_eq_true hi, decide_eq_true hk, hasN_or, hasN_or, hasN_only (by rw [B.frSq.len]; exact B.le)]
  unfold WG.allQ
  rw [hasN_lay2 rfl, B.atR hi, B.frE, B.ordE]
  unfold layQ
  cases hasN (ordR x) i k <;> cases hasN x.rf i k <;> cases x.atom i <;> cases hasN (frR x) i k <;> rfl
theorem BuiltG.chkE : chkW x = chkR x := by
  unfold chkW chkR
  rw [B.allE, meetsE B.ordSq B.ok.co B.le, meetsE B.ordSq B.frSq B.le, B.ordE, B.frE]
end

theorem build_none {l : List LocG} {acts : List (List ActG × Bool)} {fr : List Int} {order : List (List Int × Bool)} (h : (buildG l acts fr order).2 ≠ 0) : (buildG l acts fr order).1 = WG.none := by
  unfold buildG at h ⊢
  split
  · rfl
  · rename_i h0
    rw [if_neg h0] at h
    revert h
    cases rdG (deedsG l acts).1 fr (deedsG l acts).1.length with
    | none => intro _; rfl
    | some p =>
      obtain ⟨rest, rf⟩ := p
      simp only
      by_cases h1 : rest ≠ [] ∨ order.length ≠ l.length
      · rw [if_pos h1]; intro _; rfl
      · rw [if_neg h1]
        cases coG (deedsG l acts).1 l.length order l.length with
        | none => intro _; rfl
        | some co => intro h; exact absurd rfl h
set_option maxHeartbeats 4000000 in
theorem law_AxiomJudges {T : Tab} {n1 n2 n3 n4 n5 n6 n7 n8 n9 n10 : Nat} (k1 : Knows T n1 sp_true) (k2 : Knows T n2 sp_small) (k3 : Knows T n3 sp_Build) (k4 : Knows T n4 sp_chkW) (k5 : Knows T n5 sp_chkR) (k6 : Knows T n6 sp_sameW) (k7 : Knows T n7 sp_orderW) (k8 : Knows T n8 sp_orderR) (k9 : Knows T n9 sp_frW) (k10 : Knows T n10 sp_frR) (l : List LocG) (f : Bool) (acts : List (List ActG × Bool)) (g : Bool) (fr : List Int) (ff : Bool) (order : List (List Int × Bool)) (og : Bool)
    (hl : l.length ≤ maxLen) (ha : acts.length ≤ maxLen) (ha2 : ∀ x ∈ acts, x.1.length ≤ maxLen) (hf : fr.length ≤ maxLen) (ho : order.length ≤ maxLen) (ho2 : ∀ x ∈ order, x.1.length ≤ maxLen) :
    Holds T V_law23_AxiomJudges (L_law23_AxiomJudges n1 n2 n3 n4 n5 n6 n7 n8 n9 n10) R_law23_AxiomJudges [.d (.list (l.map LocG.row) f), .d (.list (acts.map rowLA) g), .d (.list (fr.map rowI) ff), .d (.list (order.map rowLI) og)] := by
  have F1 := k1.F; have G1 := k1.G; have F2 := k2.F; have G2 := k2.G; have F3 := k3.F; have G3 := k3.G; have F4 := k4.F; have G4 := k4.G; have F5 := k5.F; have G5 := k5.G; have F6 := k6.F; have G6 := k6.G; have F7 := k7.F; have G7 := k7.G; have F8 := k8.F; have G8 := k8.G; have F9 := k9.F; have G9 := k9.G; have F10 := k10.F; have G10 := k10.G
  unfold V_law23_AxiomJudges L_law23_AxiomJudges R_law23_AxiomJudges
  simp (maxSteps := 3000000) only [↓Z19, ↓Z26, ↓Z1z, ↓Z05, ↓Z2m, ↓Z2l, Z4b, Z4g, ↓Z1l, ↓Z17, ↓Z0h, ↓Z20, ↓Z0k, ↓Z1k, ↓Z31, ↓Z30, ↓Z24, ↓Z1x, ↓Z2o, ↓Z2c, ↓Z1j, ↓Z3b, ↓Z4c, ↓Z3l, ↓Z3n, ↓Z3m, ↓Z3y, ↓Z3w, ↓Z48, ↓Z0i, ↓Z09, ↓Z18, ↓Z0g, ↓Z1o, Z49, Z07, Z1b, Z32, Z1a, Z35, evN, Z2g, Z1g, Z34, Z41, Z1f, Z15, Z1e, Z2v, Z2h, Z29, Z1h, Z2a, evT, Opd.ev, Z02, Z00, Z33, Z3z, Z3q, Z27, Z1n, Z28, Z2b, Z3j, Z1m, Z0l, Z3o, LOp.isNew, State.prune, Z3u, Z37, AV.leaf, Heap.at, Z0j, Z0a, Z1i, Z0e, Z03, idx_I, idx_W, rowW, Z2f, Z2w, Z21, Z1c, rowB, Z2y, Z2x, rowN, Z4i, Z3p, Z1d, Z16, w_or, w_and, Z2z, Z4d, w_shl, Z43, w_shr, Z4e, w_neg, w_add, w_bit, w_eq0, w_eq1, w_eq, Bool.decide_eq_true, Z3f, Z3e, Z3i, Z2p, Z1p, Z04, Z0b, Z0n, Z01, Z1y, rowI, RatG.row, LocG.row, ActG.row, StepG.row, StampG.row, ActG.av, ActG.eta, RatG.eta, LocG.eta, beq_true, beq_false, Z2k, Z2u, Z2n, Z2t, Z12, Z0q, Z10, Z11, Z0p, Z0o, Z0c, List.length_set, List.length_replicate, Z06, Int.reduceToNat, Z4t, Z2d, Z4a, Src.all, Src.len, Src.leaf, Src.leafN, Z3a, Z44, Z4p, Z0m, Z0r, Z0s, Z0t, Z0u, Z0v, Z0w, Z0x, Z4r, drows, evMk, List.length_map, Z1w, Z22, List.take_length, List.take_left, List.length_append, Nat.le_add_right, ite_self, List.take_of_length_le, Z3d, Z4n, Z42, Option.isSome_none, Option.isSome_some, Nat.sub_zero, Z4m, Z4v, Z4l, evUn, Z13, Z14, binT, binQ, chk, Z3v, List.contains_cons, List.contains_nil, Bool.or_false, Bool.false_or, Bool.and_self, resQ, resV, resT, Z4u, Z2e, Z47, Z3g, fnOf, Z3c, isD, HO.drow, Z4j, Z3x, evEq, eqV, eqK, eqC1, Z45, Z40, Z39, Z38, Z4f, Z3k, Z2s, Z1s, Z2r, Z1r, Z2q, Z1q, Z1t, Z0y, Z0z, Z0d, List.mem_cons, List.not_mem_nil, or_false, forall_eq, putRow, Z3r, Z23, RetS, RetF, RetD, AV.frz, AV.frzL, AV.freshP, AV.freshL, DV.less, Z2i, Z1u, Z2j, Z1v, Z0f, Z08, Option.some.injEq, AV.tup.injEq, AV.agg.injEq, List.cons.injEq, DV.list.injEq, List.isEmpty_nil, Nat.le_refl, AV.d.injEq, DV.int.injEq, DV.bool.injEq, ↓reduceIte, Nat.reduceEqDiff, Nat.reduceAdd, Nat.reduceBEq, List.length_cons, List.length_nil, List.replicate_succ, List.replicate_zero, List.nil_append, List.cons_append, List.append_nil, List.foldl_cons, List.foldl_nil, List.map_cons, List.map_nil, List.all_cons, List.all_nil, List.set_cons_zero, List.set_cons_succ, List.getD_cons_zero, List.getD_cons_succ, List.drop_zero, List.drop_succ_cons, List.take_succ_cons, List.take_zero, List.flatten_cons, List.flatten_nil, Bool.true_and, Bool.and_true, Bool.not_true, Bool.not_false, true_and, and_true, true_or, or_true, Option.bind_some, Option.map_some, decide_true, decide_false, beq_self_eq_true, true_implies, false_implies, implies_true, not_true_eq_false, not_false_eq_true, and_self, Bool.and_false, Bool.false_and, Nat.reduceLT, Nat.reduceLeDiff, List.reverse_cons, List.reverse_nil, Nat.zero_add, Nat.add_zero, Bool.false_eq_true, List.getElem?_cons_zero, Nat.reduceMul, Nat.mul_one, at_true, DeedG.row, idx_Deed, at_small, at_Build, at_chkW, at_chkWX, at_chkR, at_sameW, at_orderWX, at_orderR, at_frWX, at_frR, WG.av, F1, G1, F2, G2, F3, G3, F4, G4, F5, G5, F6, G6, F7, G7, F8, G8, F9, G9, F10, G10]
  refine ⟨⟨ha, ho⟩, fun hs => ⟨smallF_iff.1 hs, fun he => ?_, fun he => ?_⟩, fun _ => trivial⟩
  · have B := built_of he
    generalize (buildG l acts fr order).1 = x at *
    have h1 : (ordW x).length ≤ maxLen := by rw [B.ordSq.len]; have := B.le; unfold maxLen; omega
    have h2 : (frW x).length ≤ maxLen := by rw [B.frSq.len]; have := B.le; unfold maxLen; omega
    exact ⟨B.ok, B.ok, fun _ => ⟨B.ok, B.ok, h1, fun _ => ⟨B.ok, B.ok, h2, decide_eq_true B.frE⟩, fun h => h B.ordE⟩, fun h => h B.chkE⟩
  · rw [build_none he]; rfl
end Go.Ago

/- rel.lay in a cut that lacks Minus, or Inter too. Conditions: none. -/
set_option maxRecDepth 100000
set_option linter.unusedVariables false
namespace Go.Ago
theorem bodyM_rel_lay {T : Tab} {n1 n2 n_rel_Union_1 n_rel_Inter_1 n_rel_Plus_1 : Nat} (k1 : Knows T n1 sp_size) (k2 : Knows T n2 sp_row) (k3 : Knows T n_rel_Union_1 (sp_h2 orW)) (k4 : Knows T n_rel_Inter_1 (sp_h2 andW))
    (k6 : Knows T n_rel_Plus_1 (sp_h2 fstW)) : (sp_lay (hs4 n_rel_Union_1 n_rel_Inter_1 n_rel_Union_1 n_rel_Plus_1)).Body T V_rel_lay (L_rel_lay n1 n2) R_rel_lay := by
  rintro ⟨A, e, B, f, g⟩
  simp only [sp_lay, hs4]
  split
  · rename_i h hh
    split at hh
    · rename_i e; cases hh; rw [e]; exact lay_body k1 k2 k3 A B _ f
    · rename_i h1
      split at hh
      · rename_i e; cases hh; rw [e]; exact lay_body k1 k2 k4 A B _ f
      · split at hh
        · rename_i e; cases hh; rw [e]; exact lay_body k1 k2 k6 A B _ f
        · cases hh
  · trivial
end Go.Ago

/- Ways: what is reached from where. Conditions: none. -/
set_option linter.unusedSimpArgs false
set_option linter.unusedVariables false
namespace Go.Ago

section
variable {p : Nat → Nat → Bool}
theorem way_up {m i k : Nat} (h : way p m i k = true) : way p (m + 1) i k = true := by simp only [way, h, Bool.true_or]
theorem way_mono {m m' i k : Nat} (hm : m ≤ m') (h : way p m i k = true) : way p m' i k = true := by
  induction hm with
  | refl => exact h
  | step _ ih => exact way_up ih
theorem way_of {m i k : Nat} (h : p i k = true) : way p m i k = true := way_mono (Nat.zero_le m) (by simpa only [way] using h)
theorem way_trans {m i j k : Nat} (hj : j < m) (h1 : way p m i j = true) (h2 : way p m j k = true) : way p m i k = true := by
  induction m generalizing i j k with
  | zero => omega
  | succ m ih =>
    simp only [way, Bool.or_eq_true, Bool.and_eq_true] at h1 h2 ⊢
    by_cases e : j = m
    · subst e
      have g1 : way p j i j = true := by rcases h1 with h | h; exact h; exact h.1
      have g2 : way p j j k = true := by rcases h2 with h | h; exact h; exact h.2
      exact .inr ⟨g1, g2⟩
    · have hj' : j < m := by omega
      rcases h1 with h1 | ⟨h1, h1'⟩
      · rcases h2 with h2 | ⟨h2, h2'⟩
        · exact .inl (ih hj' h1 h2)
        · exact .inr ⟨ih hj' h1 h2, h2'⟩
      · rcases h2 with h2 | ⟨h2, h2'⟩
        · exact .inr ⟨h1, ih hj' h1' h2⟩
        · exact .inr ⟨h1, h2'⟩
/-- The least that is closed. -/
theorem way_min {V : Nat → Bool} (hc : ∀ b c, V b = true → p b c = true → V c = true) {m i : Nat} (hs : ∀ b, p i b = true → V b = true) : ∀ {k : Nat}, way p m i k = true → V k = true := by
  suffices h : ∀ m a k, (V a = true ∨ a = i) → way p m a k = true → V k = true from fun {k} hk => h m i k (.inr rfl) hk
  intro m
  induction m with
  | zero =>
    intro a k ha hk
    simp only [way] at hk
    rcases ha with ha | ha
    · exact hc a k ha hk
    · subst ha; exact hs k hk
  | succ m ih =>
    intro a k ha hk
    simp only [way, Bool.or_eq_true, Bool.and_eq_true] at hk
    rcases hk with hk | ⟨h1, h2⟩
    · exact ih a k ha hk
    · exact ih m k (.inl (ih a m ha h1)) h2
end

/-- How many are not there yet. -/
def cnt (V : Nat → Bool) : Nat → Nat
  | 0 => 0
  | n + 1 => cnt V n + if V n then 0 else 1
theorem cnt_congr {V V' : Nat → Bool} : ∀ {n : Nat}, (∀ b, b < n → V b = V' b) → cnt V n = cnt V' n := by
  intro n
  induction n with
  | zero => intro _; rfl
  | succ n ih => intro h; simp only [cnt]; rw [ih fun b hb => h b (by omega), h n (by omega)]
theorem cnt_put {V : Nat → Bool} {k : Nat} (hv : V k = false) : ∀ {n : Nat}, k < n → cnt (fun b => V b || decide (b = k)) n + 1 = cnt V n := by
  intro n
  induction n with
  | zero => intro h; omega
  | succ n ih =>
    intro h
    simp only [cnt]
    by_cases e : k = n
    · subst e
      rw [cnt_congr (V' := V) (fun b hb => by
        have : ¬ b = k := by omega
        simp [this])]
      simp [hv]
    · have := ih (by omega)
      have e2 : ¬ n = k := fun h => e h.symm
      simp only [e2, decide_false, Bool.or_false]
      omega

/-- Rows ahead of i are done, row i is V. -/
def rowsP (A : List W) (i : Nat) (V : Nat → Bool) (a b : Nat) : Bool := if a < i then way (hasN A) (szR A) a b else if a = i then V b else false
theorem rowsP_self {A : List W} {i b : Nat} {V : Nat → Bool} : rowsP A i V i b = V b := by unfold rowsP; rw [if_neg (Nat.lt_irrefl i), if_pos rfl]
theorem rowsP_put {A : List W} {i k : Nat} {V : Nat → Bool} (a b : Nat) : (rowsP A i V a b || (decide (a = i) && decide (b = k))) = rowsP A i (fun b => V b || decide (b = k)) a b := by
  unfold rowsP
  by_cases h1 : a < i
  · have : ¬ a = i := by omega
    simp [h1, this]
  · by_cases h2 : a = i
    · simp [h2]
    · simp [h1, h2]
theorem rowsP_congr {A : List W} {i : Nat} {V V' : Nat → Bool} {n : Nat} (h : ∀ b, b < n → V b = V' b) : mkR n (rowsP A i V) = mkR n (rowsP A i V') := Z3s fun a b _ hb => by
  unfold rowsP; rw [h b hb]

/-- What the search for all that is reached from i Z3o: T is still to be looked at; of the one that is looked at, the first k are done. -/
structure Seek (A : List W) (n i : Nat) (V : Nat → Bool) (T : List Nat) (q : Nat → Nat → Prop) : Prop where
  sound : ∀ b, V b = true → b < n ∧ way (hasN A) n i b = true
  start : ∀ b, hasN A i b = true → V b = true
  todo : ∀ b ∈ T, V b = true
  done : ∀ b c, V b = true → hasN A b c = true → b ∈ T ∨ V c = true ∨ q b c

theorem Seek.end {A : List W} {n i : Nat} {V : Nat → Bool} (h : Seek A n i V [] fun _ _ => False) (b : Nat) : V b = way (hasN A) n i b := by
  apply beq_of_iff
  refine ⟨fun hv => (h.sound b hv).2, fun hw => way_min (V := V) (fun b c hb hc => ?_) h.start hw⟩
  rcases h.done b c hb hc with h1 | h1 | h1
  · simp at h1
  · exact h1
  · exact h1.elim

theorem Seek.pop {A : List W} {n i j : Nat} {V : Nat → Bool} {T : List Nat} (h : Seek A n i V (j :: T) fun _ _ => False) : Seek A n i V T fun b c => b = j ∧ 0 ≤ c :=
  ⟨h.sound, h.start, fun b hb => h.todo b (by simp [hb]), fun b c h1 h2 => by
    rcases h.done b c h1 h2 with h3 | h3 | h3
    · rcases List.mem_cons.1 h3 with h3 | h3
      · exact .inr (.inr ⟨h3, Nat.zero_le c⟩)
      · exact .inl h3
    · exact .inr (.inl h3)
    · exact h3.elim⟩
theorem Seek.skip {A : List W} {n i j k : Nat} {V : Nat → Bool} {T : List Nat} (h : Seek A n i V T fun b c => b = j ∧ k ≤ c) (hk : hasN A j k = false ∨ V k = true) : Seek A n i V T fun b c => b = j ∧ k + 1 ≤ c :=
  ⟨h.sound, h.start, h.todo, fun b c h1 h2 => by
    rcases h.done b c h1 h2 with h3 | h3 | ⟨h3, h4⟩
    · exact .inl h3
    · exact .inr (.inl h3)
    · by_cases e : c = k
      · subst e; subst h3
        rcases hk with hk | hk
        · rw [hk] at h2; cases h2
        · exact .inr (.inl hk)
      · exact .inr (.inr ⟨h3, by omega⟩)⟩
theorem Seek.push {A : List W} {n i j k : Nat} {V : Nat → Bool} {T : List Nat} (h : Seek A n i V T fun b c => b = j ∧ k ≤ c) (hj : V j = true) (hk : hasN A j k = true) (hkn : k < n) :
    Seek A n i (fun b => V b || decide (b = k)) (T ++ [k]) fun b c => b = j ∧ k + 1 ≤ c :=
  ⟨fun b hb => by
    rw [Bool.or_eq_true, decide_eq_true_eq] at hb
    rcases hb with hb | hb
    · exact h.sound b hb
    · subst hb
      obtain ⟨g1, g2⟩ := h.sound j hj
      exact ⟨hkn, way_trans g1 g2 (way_of hk)⟩,
  fun b hb => by rw [h.start b hb]; rfl,
  fun b hb => by
    rcases List.mem_append.1 hb with hb | hb
    · rw [h.todo b hb]; rfl
    · simp at hb; simp [hb],
  fun b c h1 h2 => by
    rw [Bool.or_eq_true, decide_eq_true_eq] at h1
    by_cases e0 : b = k
    · exact .inl (by simp [e0])
    · have h1 : V b = true := by rcases h1 with h1 | h1; exact h1; exact absurd h1 e0
      rcases h.done b c h1 h2 with h3 | h3 | ⟨h3, h4⟩
      · exact .inl (by simp [h3])
      · exact .inr (.inl (by rw [h3]; rfl))
      · by_cases e : c = k
        · exact .inr (.inl (by simp [e]))
        · exact .inr (.inr ⟨h3, by omega⟩)⟩
theorem Seek.rest {A : List W} {n i j : Nat} {V : Nat → Bool} {T : List Nat} (h : Seek A n i V T fun b c => b = j ∧ n ≤ c) (hn : szR A ≤ n) : Seek A n i V T fun _ _ => False :=
  ⟨h.sound, h.start, h.todo, fun b c h1 h2 => by
    rcases h.done b c h1 h2 with h3 | h3 | ⟨h3, h4⟩
    · exact .inl h3
    · exact .inr (.inl h3)
    · have := (hasN_lt h2).2; omega⟩
theorem Seek.begin {A : List W} {n i : Nat} (hn : szR A ≤ n) (hi : i < n) : Seek A n i (hasN A i) ((List.range n).filter (hasN A i)) fun _ _ => False :=
  ⟨fun b hb => ⟨by have := (hasN_lt hb).2; omega, way_of hb⟩, fun b hb => hb, fun b hb => (List.mem_filter.1 hb).2, fun b c h1 h2 => .inl (List.mem_filter.2 ⟨by have := (hasN_lt h1).2; simp; omega, h1⟩)⟩
end Go.Ago
