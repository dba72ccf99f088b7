/- Chapter 23: Build. Conditions: none. -/
import Derived.Test.YtmknnljemhajoaaDoorAgoP5
import Derived.Test.YtmknnljemhajoaaDoorAgoP4
set_option maxRecDepth 100000
set_option linter.unusedSimpArgs false
set_option linter.unusedVariables false
namespace Go.Ago
attribute [local irreducible] vck
theorem body_slices_Equal_int {T : Tab} : sp_sameI.Body T V_slices_Equal_int L_slices_Equal_int R_slices_Equal_int := by
  rintro ⟨a, f, b, g⟩ hlen
  refine .inl ⟨rfl, ?_⟩
  unfold V_slices_Equal_int L_slices_Equal_int R_slices_Equal_int
  simp only [↓Z0p, ↓Z1l, ↓Z1t, ↓Z04, ↓Z2u, ↓Z2t, nilG_d, nilG_r, ↓Z0z, ↓Z0o, ↓Z0f, ↓Z1u, ↓Z0e, ↓Z0x, ↓Z36, ↓Z2p, ↓Z1w, ↓Z1p, ↓Z2y, ↓Z2d, ↓Z0w, ↓Z3c, ↓retK_n, ↓Z3y, ↓Z40, ↓Z3z, ↓Z49, ↓Z44, ↓Z4i, ↓Z0h, ↓Z08, ↓Z0s, ↓Z0d, ↓Z1q, Z47, Z07, Z1i, Z2k, Z1f, Z2n, evN, Z2g, Z0v, Z2m, Z4c, Z0u, Z0n, Z0q, Z35, Z2o, Z2c, Z1r, Z26, evT, Opd.ev, Z02, Z00, Z2l, Z4a, Z3l, Z29, Z1x, Z1s, Z27, Z3w, Z0y, Z0a, Z3e, LOp.isNew, State.prune, Z3p, Z2w, AV.leaf, Heap.at, Z0g, Z09, Z1j, Z0k, Z03, idx_I, idx_W, rowW, Z2i, Z37, Z2a, Z1o, rowB, Z3a, Z38, rowN, lens_W, Z41, Z1k, Z0t, w_or, w_and, Z3b, w_and1, w_shl, Z4g, w_shr, w_sub1, w_neg, w_add, w_bit, w_eq0, w_eq1, w_eq, Bool.decide_eq_true, Z3o, Z3j, Z3v, Z2z, Z1y, Z05, Z0c, Z0r, Z01, Z1m, rowI, RatG.row, LocG.row, ActG.row, StepG.row, StampG.row, ActG.av, ActG.eta, RatG.eta, LocG.eta, beq_true, beq_false, Z2q, Z34, Z2x, Z33, Z1e, Z12, Z1c, Z1d, Z11, Z10, Z0i, List.length_set, List.length_replicate, Z06, Int.reduceToNat, evLen, Z2h, Z48, Src.all, Src.len, Src.leaf, Src.leafN, Z3i, Z4h, joinV, Z0m, Z13, Z14, Z15, Z16, Z17, Z18, Z19, mkVec, drows, evMk, List.length_map, Z28, Z2b, List.take_length, List.take_left, List.length_append, Nat.le_add_right, ite_self, List.take_of_length_le, Z3n, intOr, Z4e, Option.isSome_none, Option.isSome_some, Nat.sub_zero, Z4f, loadT, Z4j, evUn, Z1g, Z1h, binT, binQ, chk, Z42, List.contains_cons, List.contains_nil, Bool.or_false, Bool.false_or, Bool.and_self, resQ, resV, resT, pickV, Z2f, Z4k, Z3k, fnOf, Z3g, isD, HO.drow, Z4m, Z46, evEq, eqV, eqK, eqC1, Z4d, Z4b, Z3h, Z3f, lens_I, Z3x, Z32, Z21, Z31, Z20, Z30, Z1z, Z22, Z1a, Z1b, Z0j, List.mem_cons, List.not_mem_nil, or_false, forall_eq, putRow, Z3m, Z1n, RetS, RetF, RetD, AV.frz, AV.frzL, AV.freshP, AV.freshL, DV.less, Z2r, Z23, Z2s, Z24, Z0l, Z0b, Option.some.injEq, AV.tup.injEq, AV.agg.injEq, List.cons.injEq, DV.list.injEq, List.isEmpty_nil, Nat.le_refl, AV.d.injEq, DV.int.injEq, DV.bool.injEq, ↓reduceIte, Nat.reduceEqDiff, Nat.reduceAdd, Nat.reduceBEq, List.length_cons, List.length_nil, List.replicate_succ, List.replicate_zero, List.nil_append, List.cons_append, List.append_nil, List.foldl_cons, List.foldl_nil, List.map_cons, List.map_nil, List.all_cons, List.all_nil, List.set_cons_zero, List.set_cons_succ, List.getD_cons_zero, List.getD_cons_succ, List.drop_zero, List.drop_succ_cons, List.take_succ_cons, List.take_zero, List.flatten_cons, List.flatten_nil, Bool.true_and, Bool.and_true, Bool.not_true, Bool.not_false, true_and, and_true, true_or, or_true, Option.bind_some, Option.map_some, decide_true, decide_false, beq_self_eq_true, true_implies, false_implies, implies_true, not_true_eq_false, not_false_eq_true, and_self, Bool.and_false, Bool.false_and, Nat.reduceLT, Nat.reduceLeDiff, List.reverse_cons, List.reverse_nil, Nat.zero_add, Nat.add_zero, Bool.false_eq_true, List.getElem?_cons_zero, Nat.reduceMul, Nat.mul_one, sp_sameI]
  have hm : maxLen = 9223372036854775807 := rfl
  have hlen : a.length ≤ maxLen := hlen
  refine ⟨fun h => ?_, fun h => ?_⟩
  · have hab : a.length = b.length := by omega
    refine Loop.fam [0, 1, 12, 13] (fun i : Nat => ⟨[(0, .d (.list (a.map rowI) f)), (1, .d (.list (b.map rowI) g)), (12, .d (.int .i64 a.length)), (13, .d (.int .i64 (i : Nat)))], []⟩) (fun i => i ≤ a.length ∧ a.take i = b.take i) (fun i => a.length - i) 0 [] (by simp) (by simp)
      (by simp only [State.can, AV.can, AV.canL, HO.can, Z25, idx, Z02, Z00, Heap.at, Nat.reduceBEq, ↓reduceIte, Nat.reduceEqDiff, Option.getD_some, Option.map_some, List.map_cons, List.map_nil, List.getD_cons_zero, List.getD_cons_succ]; rfl) ⟨by omega, by simp⟩ ?_
    rintro i ⟨h1, h2⟩
    simp only [↓Z0p, ↓Z1l, ↓Z1t, ↓Z04, ↓Z2u, ↓Z2t, nilG_d, nilG_r, ↓Z0z, ↓Z0o, ↓Z0f, ↓Z1u, ↓Z0e, ↓Z0x, ↓Z36, ↓Z2p, ↓Z1w, ↓Z1p, ↓Z2y, ↓Z2d, ↓Z0w, ↓Z3c, ↓retK_n, ↓Z3y, ↓Z40, ↓Z3z, ↓Z49, ↓Z44, ↓Z4i, ↓Z0h, ↓Z08, ↓Z0s, ↓Z0d, ↓Z1q, Z47, Z07, Z1i, Z2k, Z1f, Z2n, evN, Z2g, Z0v, Z2m, Z4c, Z0u, Z0n, Z0q, Z35, Z2o, Z2c, Z1r, Z26, evT, Opd.ev, Z02, Z00, Z2l, Z4a, Z3l, Z29, Z1x, Z1s, Z27, Z3w, Z0y, Z0a, Z3e, LOp.isNew, State.prune, Z3p, Z2w, AV.leaf, Heap.at, Z0g, Z09, Z1j, Z0k, Z03, idx_I, idx_W, rowW, Z2i, Z37, Z2a, Z1o, rowB, Z3a, Z38, rowN, lens_W, Z41, Z1k, Z0t, w_or, w_and, Z3b, w_and1, w_shl, Z4g, w_shr, w_sub1, w_neg, w_add, w_bit, w_eq0, w_eq1, w_eq, Bool.decide_eq_true, Z3o, Z3j, Z3v, Z2z, Z1y, Z05, Z0c, Z0r, Z01, Z1m, rowI, RatG.row, LocG.row, ActG.row, StepG.row, StampG.row, ActG.av, ActG.eta, RatG.eta, LocG.eta, beq_true, beq_false, Z2q, Z34, Z2x, Z33, Z1e, Z12, Z1c, Z1d, Z11, Z10, Z0i, List.length_set, List.length_replicate, Z06, Int.reduceToNat, evLen, Z2h, Z48, Src.all, Src.len, Src.leaf, Src.leafN, Z3i, Z4h, joinV, Z0m, Z13, Z14, Z15, Z16, Z17, Z18, Z19, mkVec, drows, evMk, List.length_map, Z28, Z2b, List.take_length, List.take_left, List.length_append, Nat.le_add_right, ite_self, List.take_of_length_le, Z3n, intOr, Z4e, Option.isSome_none, Option.isSome_some, Nat.sub_zero, Z4f, loadT, Z4j, evUn, Z1g, Z1h, binT, binQ, chk, Z42, List.contains_cons, List.contains_nil, Bool.or_false, Bool.false_or, Bool.and_self, resQ, resV, resT, pickV, Z2f, Z4k, Z3k, fnOf, Z3g, isD, HO.drow, Z4m, Z46, evEq, eqV, eqK, eqC1, Z4d, Z4b, Z3h, Z3f, lens_I, Z3x, Z32, Z21, Z31, Z20, Z30, Z1z, Z22, Z1a, Z1b, Z0j, List.mem_cons, List.not_mem_nil, or_false, forall_eq, putRow, Z3m, Z1n, RetS, RetF, RetD, AV.frz, AV.frzL, AV.freshP, AV.freshL, DV.less, Z2r, Z23, Z2s, Z24, Z0l, Z0b, Option.some.injEq, AV.tup.injEq, AV.agg.injEq, List.cons.injEq, DV.list.injEq, List.isEmpty_nil, Nat.le_refl, AV.d.injEq, DV.int.injEq, DV.bool.injEq, ↓reduceIte, Nat.reduceEqDiff, Nat.reduceAdd, Nat.reduceBEq, List.length_cons, List.length_nil, List.replicate_succ, List.replicate_zero, List.nil_append, List.cons_append, List.append_nil, List.foldl_cons, List.foldl_nil, List.map_cons, List.map_nil, List.all_cons, List.all_nil, List.set_cons_zero, List.set_cons_succ, List.getD_cons_zero, List.getD_cons_succ, List.drop_zero, List.drop_succ_cons, List.take_succ_cons, List.take_zero, List.flatten_cons, List.flatten_nil, Bool.true_and, Bool.and_true, Bool.not_true, Bool.not_false, true_and, and_true, true_or, or_true, Option.bind_some, Option.map_some, decide_true, decide_false, beq_self_eq_true, true_implies, false_implies, implies_true, not_true_eq_false, not_false_eq_true, and_self, Bool.and_false, Bool.false_and, Nat.reduceLT, Nat.reduceLeDiff, List.reverse_cons, List.reverse_nil, Nat.zero_add, Nat.add_zero, Bool.false_eq_true, List.getElem?_cons_zero, Nat.reduceMul, Nat.mul_one]
    refine ⟨fun h3 => ?_, fun h3 => ?_⟩
    · have h3 : i < a.length := by omega
      rw [wrap_succ h3 hlen]
      refine ⟨⟨by omega, by omega⟩, ⟨by omega, by omega⟩, fun h4 => ?_, fun h4 => ?_⟩
      · exact Z2v.mk [] (i + 1) (by simp) (by simp) (by simp only [State.can, AV.can, AV.canL, HO.can, Z25, idx, Z02, Z00, Heap.at, Nat.reduceBEq, ↓reduceIte, Nat.reduceEqDiff, Option.getD_some, Option.map_some, List.map_cons, List.map_nil, List.getD_cons_zero, List.getD_cons_succ]) ⟨by omega, take_next (d := default) h2 h3 (by omega) h4⟩ (by omega)
      · simp only [Bool.false_eq, decide_eq_false_iff_not]
        intro e; subst e; exact h4 rfl
    · have : i = a.length := by omega
      subst this
      exact (decide_eq_true (take_all h2 hab)).symm
  · simp only [Bool.false_eq, decide_eq_false_iff_not]
    intro e; subst e; exact h rfl
theorem take_sortI (l : List Int) : (sortI l).take l.length = sortI l := List.take_of_length_le (by rw [sortI_len]; exact Nat.le_refl _)
def okR (D : List DeedG) (w : Int) (i : Nat) : Bool :=
  decide (0 ≤ w) && decide (w < D.length) && !decide (w = i) && (D.getD w.toNat default).act.isW && decide ((D.getD w.toNat default).act.loc = (D.getD i default).act.loc) && decide ((D.getD w.toNat default).act.new = (D.getD i default).act.old)
/-- The readers so far: what is left to be read from, and who reads from whom. -/
def rdG (D : List DeedG) (fr : List Int) : Nat → Option (List Int × List RatG)
  | 0 => some (fr, [])
  | i + 1 => match rdG D fr i with
    | none => none
    | some (r, ps) => if (D.getD i default).act.isR then (match r with
      | [] => none
      | w :: r' => if okR D w i then some (r', ps ++ [⟨w, i⟩]) else none) else some (r, ps)
theorem rd_no {D : List DeedG} {fr r : List Int} {ps : List RatG} {i : Nat} (h : rdG D fr i = some (r, ps)) (hR : (D.getD i default).act.isR = false) : rdG D fr (i + 1) = some (r, ps) := by
  unfold rdG; rw [h]; simp only [hR]; rfl
theorem rd_yes {D : List DeedG} {fr r : List Int} {ps : List RatG} {i : Nat} (h : rdG D fr i = some (r, ps)) (hR : (D.getD i default).act.isR = true) (h0 : r ≠ []) (hk : okR D (r.getD 0 default) i = true) : rdG D fr (i + 1) = some (r.drop 1, ps ++ [⟨r.getD 0 default, i⟩]) := by
  unfold rdG; rw [h]; simp only [hR]
  cases r with
  | nil => exact absurd rfl h0
  | cons w r =>
    have hk : okR D w i = true := hk
    simp only [if_true, hk]; rfl
theorem rd_end {D : List DeedG} {fr : List Int} {ps : List RatG} {i : Nat} (h : rdG D fr i = some ([], ps)) (hR : (D.getD i default).act.isR = true) : rdG D fr (i + 1) = none := by
  unfold rdG; rw [h]; simp only [hR, if_true]
theorem rd_bad {D : List DeedG} {fr r : List Int} {ps : List RatG} {i : Nat} (h : rdG D fr i = some (r, ps)) (hR : (D.getD i default).act.isR = true) (hk : okR D (r.getD 0 default) i = false) : rdG D fr (i + 1) = none := by
  unfold rdG; rw [h]; simp only [hR, if_true]
  cases r with
  | nil => rfl
  | cons w r =>
    have hk : okR D w i = false := hk
    simp only [hk]; rfl
theorem rd_none {D : List DeedG} {fr : List Int} {i n : Nat} (h : rdG D fr i = none) (hn : i ≤ n) : rdG D fr n = none := by
  induction n with
  | zero => rwa [show i = 0 by omega] at h
  | succ n ih =>
    by_cases e : i = n + 1
    · rwa [← e]
    · unfold rdG; rw [ih (by omega)]
def wantTo (D : List DeedG) (n : Nat) (loc : Nat) : Nat → List Int
  | 0 => []
  | i + 1 => if n ≤ i ∧ (D.getD i default).act.isW = true ∧ (D.getD i default).act.loc = loc then wantTo D n loc i ++ [(i : Int)] else wantTo D n loc i
/-- The pairs that begin at a place of a list. -/
def pairsAt (a : List Int) (i : Nat) (k : Nat) : List RatG := ((a.drop (i + 1)).take k).map fun x => ⟨a.getD i default, x⟩
def pairsTo (a : List Int) : Nat → List RatG
  | 0 => []
  | i + 1 => pairsTo a i ++ pairsAt a i (a.length - (i + 1))
def coG (D : List DeedG) (n : Nat) (order : List (List Int × Bool)) : Nat → Option (List RatG)
  | 0 => some []
  | t + 1 => match coG D n order t with
    | none => none
    | some ps => if sortI (order.getD t default).1 = wantTo D n t D.length then some (ps ++ pairsTo ((t : Int) :: (order.getD t default).1) ((order.getD t default).1.length + 1)) else none
theorem deeds_le (l : List LocG) (acts : List (List ActG × Bool)) : (deedsG l acts).1.length ≤ 64 := by
  unfold deedsG
  split
  · simp
  · split
    · simp
    · split
      · simp
      · simp only; omega
theorem co_none {D : List DeedG} {n : Nat} {order : List (List Int × Bool)} {i k : Nat} (h : coG D n order i = none) (hk : i ≤ k) : coG D n order k = none := by
  induction k with
  | zero => rwa [show i = 0 by omega] at h
  | succ k ih =>
    by_cases e : i = k + 1
    · rwa [← e]
    · unfold coG; rw [ih (by omega)]
def WG.none : WG := ⟨[], false, [], false, [], false, [], false⟩
def buildG (l : List LocG) (acts : List (List ActG × Bool)) (fr : List Int) (order : List (List Int × Bool)) : WG × Int :=
  if (deedsG l acts).2 ≠ 0 then (WG.none, (deedsG l acts).2) else
  match rdG (deedsG l acts).1 fr (deedsG l acts).1.length with
  | .none => (WG.none, 3)
  | some (rest, rf) => if rest ≠ [] ∨ order.length ≠ l.length then (WG.none, 3) else
    match coG (deedsG l acts).1 l.length order l.length with
    | .none => (WG.none, 3)
    | some co => (⟨l, false, (deedsG l acts).1, false, ofG (deedsG l acts).1.length rf, false, ofG (deedsG l acts).1.length co, false⟩, 0)
def smallB (l : List LocG) (acts : List (List ActG × Bool)) (fr : List Int) (order : List (List Int × Bool)) : Prop := smallA l acts ∧ fr.length ≤ 100 ∧ order.length ≤ 20 ∧ ∀ x ∈ order, x.1.length ≤ 100
def sp_Build : Sp := ⟨(List LocG × Bool × List (List ActG × Bool) × Bool) × (List Int × Bool × List (List Int × Bool) × Bool), fun x => [.d (.list (x.1.1.map LocG.row) x.1.2.1), .d (.list (x.1.2.2.1.map rowLA) x.1.2.2.2), .d (.list (x.2.1.map rowI) x.2.2.1), .d (.list (x.2.2.2.1.map rowLI) x.2.2.2.2)],
  fun x => .data (smallB x.1.1 x.1.2.2.1 x.2.1 x.2.2.2.1) (.tup [(buildG x.1.1 x.1.2.2.1 x.2.1 x.2.2.2.1).1.av, .d (.int .i64 (buildG x.1.1 x.1.2.2.1 x.2.1 x.2.2.2.1).2)]) false⟩
theorem at_Build (l : List LocG) (f : Bool) (acts : List (List ActG × Bool)) (g : Bool) (fr : List Int) (ff : Bool) (order : List (List Int × Bool)) (og : Bool) : sp_Build.at [.d (.list (l.map LocG.row) f), .d (.list (acts.map rowLA) g), .d (.list (fr.map rowI) ff), .d (.list (order.map rowLI) og)] =
    .data (smallB l acts fr order) (.tup [(buildG l acts fr order).1.av, .d (.int .i64 (buildG l acts fr order).2)]) false :=
  Sp.at_enc (s := sp_Build) (fun x y h => by
    obtain ⟨⟨a, b, c, d⟩, e, f, g, i⟩ := x; obtain ⟨⟨a', b', c', d'⟩, e', f', g', i'⟩ := y
    simp only [sp_Build, List.cons.injEq, AV.d.injEq, DV.list.injEq, and_true] at h
    obtain ⟨⟨h1, h2⟩, ⟨h3, h4⟩, ⟨h5, h6⟩, h7, h8⟩ := h
    rw [Z39 LocG.row_inj h1, h2, Z39 rowLA_inj h3, h4, Z39 rowI_inj h5, h6, Z39 rowLI_inj h7, h8]) ((l, f, acts, g), fr, ff, order, og)
def nilW : HO := .vec 4 [[.d (.list [] true), .d (.list [] true), .d (.list [] true), .d (.list [] true)]]
def rSt (l : List LocG) (f : Bool) (D : List DeedG) (order : List (List Int × Bool)) (og : Bool) (x : Nat × (List Int × Bool) × List RatG) : State :=
  ⟨[(0, .d (.list (l.map LocG.row) f)), (2, .d (.list (x.2.1.1.map rowI) x.2.1.2)), (3, .d (.list (order.map rowLI) og)), (8, .ptr 0 4 0 0), (10, .d (.list (D.map DeedG.row) false)), (12, .ref 1 2 0 x.2.2.length true), (13, .d (.list [] true)), (38, .d (.list (D.map DeedG.row) false)), (39, .d (.int .i64 D.length)), (40, .d (.int .i64 x.1))],
    [.vec 4 [[.d (.list [] true), .d (.list [] true), .d (.list [] true), .d (.list [] true)]], .dvec 2 (x.2.2.map RatG.row)]⟩
def rInv (D : List DeedG) (fr : List Int) (x : Nat × (List Int × Bool) × List RatG) : Prop := x.1 ≤ D.length ∧ rdG D fr x.1 = some (x.2.1.1, x.2.2) ∧ x.2.1.1.length ≤ fr.length ∧ x.2.2.length ≤ x.1
def cSt (l : List LocG) (f : Bool) (D : List DeedG) (order : List (List Int × Bool)) (og : Bool) (ps : List RatG) (x : Nat × List RatG) : State :=
  ⟨[(0, .d (.list (l.map LocG.row) f)), (8, .ptr 0 4 0 0), (10, .d (.list (D.map DeedG.row) false)), (12, .ref 1 2 0 ps.length true), (13, .ref 2 2 0 x.2.length true), (121, .d (.list (order.map rowLI) og)), (122, .d (.int .i64 order.length)), (123, .d (.int .i64 x.1))],
    [.vec 4 [[.d (.list [] true), .d (.list [] true), .d (.list [] true), .d (.list [] true)]], .dvec 2 (ps.map RatG.row), .dvec 2 (x.2.map RatG.row)]⟩
def cInv (D : List DeedG) (n : Nat) (order : List (List Int × Bool)) (x : Nat × List RatG) : Prop := x.1 ≤ order.length ∧ coG D n order x.1 = some x.2 ∧ x.2.length ≤ 10201 * x.1
def wSt (l : List LocG) (f : Bool) (D : List DeedG) (order : List (List Int × Bool)) (og : Bool) (ps co : List RatG) (t : Nat) (i : Nat) : State :=
  ⟨[(0, .d (.list (l.map LocG.row) f)), (8, .ptr 0 4 0 0), (10, .d (.list (D.map DeedG.row) false)), (12, .ref 1 2 0 ps.length true), (13, .ref 2 2 0 co.length true), (17, .d (.int .i64 t)), (18, .d (.list ((order.getD t default).1.map rowI) (order.getD t default).2)), (19, .ref 3 1 0 (wantTo D l.length t i).length true),
     (121, .d (.list (order.map rowLI) og)), (122, .d (.int .i64 order.length)), (123, .d (.int .i64 t)), (128, .d (.list (D.map DeedG.row) false)), (129, .d (.int .i64 D.length)), (130, .d (.int .i64 i))],
    [.vec 4 [[.d (.list [] true), .d (.list [] true), .d (.list [] true), .d (.list [] true)]], .dvec 2 (ps.map RatG.row), .dvec 2 (co.map RatG.row), .dvec 1 ((wantTo D l.length t i).map rowI)]⟩
theorem want_le (D : List DeedG) (n loc : Nat) : ∀ i, (wantTo D n loc i).length ≤ i
  | 0 => Nat.le_refl _
  | i + 1 => by
    have := want_le D n loc i
    unfold wantTo; split
    · rw [List.length_append, List.length_singleton]; omega
    · omega
theorem pairsAt_succ {a : List Int} {i k : Nat} (h : i + 1 + k < a.length) : pairsAt a i (k + 1) = pairsAt a i k ++ [⟨a.getD i default, a.getD (i + 1 + k) default⟩] := by
  unfold pairsAt
  rw [List.take_add_one, List.getElem?_drop, List.getElem?_eq_getElem h, List.map_append, List.getD_eq_getElem?_getD (i := i + 1 + k), List.getElem?_eq_getElem h]
  rfl
theorem pairsAt_le (a : List Int) (i k : Nat) : (pairsAt a i k).length ≤ a.length := by unfold pairsAt; rw [List.length_map, List.length_take, List.length_drop]; omega
theorem pairsTo_le (a : List Int) : ∀ i, (pairsTo a i).length ≤ i * a.length
  | 0 => by simp [pairsTo]
  | i + 1 => by
    have := pairsTo_le a i
    have := pairsAt_le a i (a.length - (i + 1))
    rw [pairsTo, List.length_append, Nat.succ_mul]
    omega
def aSt (l : List LocG) (f : Bool) (D : List DeedG) (order : List (List Int × Bool)) (og : Bool) (ps : List RatG) (t : Nat) (a : List Int) (x : Nat × List RatG) : State :=
  ⟨[(0, .d (.list (l.map LocG.row) f)), (8, .ptr 0 4 0 0), (10, .d (.list (D.map DeedG.row) false)), (12, .ref 1 2 0 ps.length true), (13, .ref 2 2 0 x.2.length true), (23, .ref 3 1 0 a.length true), (121, .d (.list (order.map rowLI) og)), (122, .d (.int .i64 order.length)), (123, .d (.int .i64 t)), (169, .d (.int .i64 a.length)), (170, .d (.int .i64 x.1))],
    [.vec 4 [[.d (.list [] true), .d (.list [] true), .d (.list [] true), .d (.list [] true)]], .dvec 2 (ps.map RatG.row), .dvec 2 (x.2.map RatG.row), .dvec 1 (a.map rowI)]⟩
def aInv (a : List Int) (co : List RatG) (x : Nat × List RatG) : Prop := x.1 ≤ a.length ∧ x.2 = co ++ pairsTo a x.1
def pSt (l : List LocG) (f : Bool) (D : List DeedG) (order : List (List Int × Bool)) (og : Bool) (ps : List RatG) (t : Nat) (a : List Int) (i : Nat) (x : Nat × List RatG) : State :=
  ⟨[(0, .d (.list (l.map LocG.row) f)), (8, .ptr 0 4 0 0), (10, .d (.list (D.map DeedG.row) false)), (12, .ref 1 2 0 ps.length true), (13, .ref 2 2 0 x.2.length true), (23, .ref 3 1 0 a.length true), (24, .d (.int .i64 i)), (121, .d (.list (order.map rowLI) og)), (122, .d (.int .i64 order.length)), (123, .d (.int .i64 t)), (169, .d (.int .i64 a.length)), (170, .d (.int .i64 i)),
     (176, .ref 3 1 (i + 1) (a.length - (i + 1)) true), (177, .d (.int .i64 (a.length - (i + 1) : Nat))), (178, .d (.int .i64 x.1))],
    [.vec 4 [[.d (.list [] true), .d (.list [] true), .d (.list [] true), .d (.list [] true)]], .dvec 2 (ps.map RatG.row), .dvec 2 (x.2.map RatG.row), .dvec 1 (a.map rowI)]⟩
def pInv (a : List Int) (co : List RatG) (i : Nat) (x : Nat × List RatG) : Prop := x.1 ≤ a.length - (i + 1) ∧ x.2 = co ++ (pairsTo a i ++ pairsAt a i x.1)
set_option maxHeartbeats 8000000 in
theorem body_axiom_Build {T : Tab} {n1 n2 n3 n4 n5 n6 n7 n8 : Nat} (k1 : Knows T n1 sp_Deeds) (k2 : Knows T n2 (sp_deed_b ActG.isR)) (k3 : Knows T n3 (sp_deed_b ActG.isW)) (k4 : Knows T n4 (cloneS 1 8)) (k5 : KnowsG T n5 ef_sortI.at) (k6 : Knows T n6 sp_sameI) (k7 : Knows T n7 (cloneS 2 16)) (k8 : Knows T n8 sp_Of) :
    sp_Build.Body T V_axiom_Build (L_axiom_Build n1 n2 n3 n4 n5 n6 n7 n8) R_axiom_Build := by
  have F1 := k1.F; have G1 := k1.G; have F2 := k2.F; have G2 := k2.G; have F3 := k3.F; have G3 := k3.G; have F4 := k4.F; have G4 := k4.G; have G5 := k5.G; have F6 := k6.F; have G6 := k6.G; have F7 := k7.F; have G7 := k7.G; have F8 := k8.F; have G8 := k8.G
  rintro ⟨⟨l, f, acts, g⟩, fr, ff, order, og⟩ ⟨hA, h1, h2, h3⟩
  have hA : smallA l acts := hA
  have h1 : fr.length ≤ 100 := h1
  have h2 : order.length ≤ 20 := h2
  have h3 : ∀ x ∈ order, x.1.length ≤ 100 := h3
  refine ⟨rfl, ?_⟩
  unfold V_axiom_Build L_axiom_Build R_axiom_Build
  simp (maxSteps := 3000000) only [↓Z0p, ↓Z1l, ↓Z1t, ↓Z04, ↓Z2u, ↓Z2t, nilG_d, nilG_r, ↓Z0z, ↓Z0o, ↓Z0f, ↓Z1u, ↓Z0e, ↓Z0x, ↓Z36, ↓Z2p, ↓Z1w, ↓Z1p, ↓Z2y, ↓Z2d, ↓Z0w, ↓Z3c, ↓retK_n, ↓Z3y, ↓Z40, ↓Z3z, ↓Z49, ↓Z44, ↓Z4i, ↓Z0h, ↓Z08, ↓Z0s, ↓Z0d, ↓Z1q, Z47, Z07, Z1i, Z2k, Z1f, Z2n, evN, Z2g, Z0v, Z2m, Z4c, Z0u, Z0n, Z0q, Z35, Z2o, Z2c, Z1r, Z26, evT, Opd.ev, Z02, Z00, Z2l, Z4a, Z3l, Z29, Z1x, Z1s, Z27, Z3w, Z0y, Z0a, Z3e, LOp.isNew, State.prune, Z3p, Z2w, AV.leaf, Heap.at, Z0g, Z09, Z1j, Z0k, Z03, idx_I, idx_W, rowW, Z2i, Z37, Z2a, Z1o, rowB, Z3a, Z38, rowN, lens_W, Z41, Z1k, Z0t, w_or, w_and, Z3b, w_and1, w_shl, Z4g, w_shr, w_sub1, w_neg, w_add, w_bit, w_eq0, w_eq1, w_eq, Bool.decide_eq_true, Z3o, Z3j, Z3v, Z2z, Z1y, Z05, Z0c, Z0r, Z01, Z1m, rowI, RatG.row, LocG.row, ActG.row, StepG.row, StampG.row, ActG.av, ActG.eta, RatG.eta, LocG.eta, beq_true, beq_false, Z2q, Z34, Z2x, Z33, Z1e, Z12, Z1c, Z1d, Z11, Z10, Z0i, List.length_set, List.length_replicate, Z06, Int.reduceToNat, evLen, Z2h, Z48, Src.all, Src.len, Src.leaf, Src.leafN, Z3i, Z4h, joinV, Z0m, Z13, Z14, Z15, Z16, Z17, Z18, Z19, mkVec, drows, evMk, List.length_map, Z28, Z2b, List.take_length, List.take_left, List.length_append, Nat.le_add_right, ite_self, List.take_of_length_le, Z3n, intOr, Z4e, Option.isSome_none, Option.isSome_some, Nat.sub_zero, Z4f, loadT, Z4j, evUn, Z1g, Z1h, binT, binQ, chk, Z42, List.contains_cons, List.contains_nil, Bool.or_false, Bool.false_or, Bool.and_self, resQ, resV, resT, pickV, Z2f, Z4k, Z3k, fnOf, Z3g, isD, HO.drow, Z4m, Z46, evEq, eqV, eqK, eqC1, Z4d, Z4b, Z3h, Z3f, lens_I, Z3x, Z32, Z21, Z31, Z20, Z30, Z1z, Z22, Z1a, Z1b, Z0j, List.mem_cons, List.not_mem_nil, or_false, forall_eq, putRow, Z3m, Z1n, RetS, RetF, RetD, AV.frz, AV.frzL, AV.freshP, AV.freshL, DV.less, Z2r, Z23, Z2s, Z24, Z0l, Z0b, Option.some.injEq, AV.tup.injEq, AV.agg.injEq, List.cons.injEq, DV.list.injEq, List.isEmpty_nil, Nat.le_refl, AV.d.injEq, DV.int.injEq, DV.bool.injEq, ↓reduceIte, Nat.reduceEqDiff, Nat.reduceAdd, Nat.reduceBEq, List.length_cons, List.length_nil, List.replicate_succ, List.replicate_zero, List.nil_append, List.cons_append, List.append_nil, List.foldl_cons, List.foldl_nil, List.map_cons, List.map_nil, List.all_cons, List.all_nil, List.set_cons_zero, List.set_cons_succ, List.getD_cons_zero, List.getD_cons_succ, List.drop_zero, List.drop_succ_cons, List.take_succ_cons, List.take_zero, List.flatten_cons, List.flatten_nil, Bool.true_and, Bool.and_true, Bool.not_true, Bool.not_false, true_and, and_true, true_or, or_true, Option.bind_some, Option.map_some, decide_true, decide_false, beq_self_eq_true, true_implies, false_implies, implies_true, not_true_eq_false, not_false_eq_true, and_self, Bool.and_false, Bool.false_and, Nat.reduceLT, Nat.reduceLeDiff, List.reverse_cons, List.reverse_nil, Nat.zero_add, Nat.add_zero, Bool.false_eq_true, List.getElem?_cons_zero, Nat.reduceMul, Nat.mul_one, DeedG.row, Z45, Z2j, Z1v, Z3q, Z3d, idx_LA, Z3s, Z3r, idx_LI, Z3u, Z3t, sp_Build, F1, G1, F2, G2, F3, G3, F4, G4, G5, F6, G6, F7, G7, F8, G8, at_Deeds, at_deed_b, at_clone, at_sortI, sortIE_d, sortI_len, take_sortI, at_sameI, at_Of]
  refine ⟨hA, fun he => ?_, fun he => ?_⟩
  · generalize hD : (deedsG l acts).1 = D
    refine Loop.nilref 12 2 rfl (Nat.zero_le _) ?_
    refine Loop.fam [0, 2, 3, 8, 10, 12, 13, 38, 39, 40] (rSt l f D order og) (rInv D fr) (fun x => D.length - x.1) (0, (fr, ff), []) [0, 1] (by simp) (by simp) (by simp only [List.length_cons, List.length_nil, List.cons_append, List.nil_append, State.can, AV.can, AV.canL, HO.can, Z25, idx, Z02, Z00, Heap.at, Nat.reduceBEq, ↓reduceIte, Nat.reduceEqDiff, Option.getD_some, Option.map_some, List.map_cons, List.map_nil, List.getD_cons_zero, List.getD_cons_succ, rSt]; rfl) ⟨by omega, rfl, Nat.le_refl _, Nat.le_refl _⟩ ?_
    rintro ⟨i, ⟨r, rg⟩, ps⟩ ⟨i1, i2, i3, i4⟩
    simp (maxSteps := 3000000) only [↓Z0p, ↓Z1l, ↓Z1t, ↓Z04, ↓Z2u, ↓Z2t, nilG_d, nilG_r, ↓Z0z, ↓Z0o, ↓Z0f, ↓Z1u, ↓Z0e, ↓Z0x, ↓Z36, ↓Z2p, ↓Z1w, ↓Z1p, ↓Z2y, ↓Z2d, ↓Z0w, ↓Z3c, ↓retK_n, ↓Z3y, ↓Z40, ↓Z3z, ↓Z49, ↓Z44, ↓Z4i, ↓Z0h, ↓Z08, ↓Z0s, ↓Z0d, ↓Z1q, Z47, Z07, Z1i, Z2k, Z1f, Z2n, evN, Z2g, Z0v, Z2m, Z4c, Z0u, Z0n, Z0q, Z35, Z2o, Z2c, Z1r, Z26, evT, Opd.ev, Z02, Z00, Z2l, Z4a, Z3l, Z29, Z1x, Z1s, Z27, Z3w, Z0y, Z0a, Z3e, LOp.isNew, State.prune, Z3p, Z2w, AV.leaf, Heap.at, Z0g, Z09, Z1j, Z0k, Z03, idx_I, idx_W, rowW, Z2i, Z37, Z2a, Z1o, rowB, Z3a, Z38, rowN, lens_W, Z41, Z1k, Z0t, w_or, w_and, Z3b, w_and1, w_shl, Z4g, w_shr, w_sub1, w_neg, w_add, w_bit, w_eq0, w_eq1, w_eq, Bool.decide_eq_true, Z3o, Z3j, Z3v, Z2z, Z1y, Z05, Z0c, Z0r, Z01, Z1m, rowI, RatG.row, LocG.row, ActG.row, StepG.row, StampG.row, ActG.av, ActG.eta, RatG.eta, LocG.eta, beq_true, beq_false, Z2q, Z34, Z2x, Z33, Z1e, Z12, Z1c, Z1d, Z11, Z10, Z0i, List.length_set, List.length_replicate, Z06, Int.reduceToNat, evLen, Z2h, Z48, Src.all, Src.len, Src.leaf, Src.leafN, Z3i, Z4h, joinV, Z0m, Z13, Z14, Z15, Z16, Z17, Z18, Z19, mkVec, drows, evMk, List.length_map, Z28, Z2b, List.take_length, List.take_left, List.length_append, Nat.le_add_right, ite_self, List.take_of_length_le, Z3n, intOr, Z4e, Option.isSome_none, Option.isSome_some, Nat.sub_zero, Z4f, loadT, Z4j, evUn, Z1g, Z1h, binT, binQ, chk, Z42, List.contains_cons, List.contains_nil, Bool.or_false, Bool.false_or, Bool.and_self, resQ, resV, resT, pickV, Z2f, Z4k, Z3k, fnOf, Z3g, isD, HO.drow, Z4m, Z46, evEq, eqV, eqK, eqC1, Z4d, Z4b, Z3h, Z3f, lens_I, Z3x, Z32, Z21, Z31, Z20, Z30, Z1z, Z22, Z1a, Z1b, Z0j, List.mem_cons, List.not_mem_nil, or_false, forall_eq, putRow, Z3m, Z1n, RetS, RetF, RetD, AV.frz, AV.frzL, AV.freshP, AV.freshL, DV.less, Z2r, Z23, Z2s, Z24, Z0l, Z0b, Option.some.injEq, AV.tup.injEq, AV.agg.injEq, List.cons.injEq, DV.list.injEq, List.isEmpty_nil, Nat.le_refl, AV.d.injEq, DV.int.injEq, DV.bool.injEq, ↓reduceIte, Nat.reduceEqDiff, Nat.reduceAdd, Nat.reduceBEq, List.length_cons, List.length_nil, List.replicate_succ, List.replicate_zero, List.nil_append, List.cons_append, List.append_nil, List.foldl_cons, List.foldl_nil, List.map_cons, List.map_nil, List.all_cons, List.all_nil, List.set_cons_zero, List.set_cons_succ, List.getD_cons_zero, List.getD_cons_succ, List.drop_zero, List.drop_succ_cons, List.take_succ_cons, List.take_zero, List.flatten_cons, List.flatten_nil, Bool.true_and, Bool.and_true, Bool.not_true, Bool.not_false, true_and, and_true, true_or, or_true, Option.bind_some, Option.map_some, decide_true, decide_false, beq_self_eq_true, true_implies, false_implies, implies_true, not_true_eq_false, not_false_eq_true, and_self, Bool.and_false, Bool.false_and, Nat.reduceLT, Nat.reduceLeDiff, List.reverse_cons, List.reverse_nil, Nat.zero_add, Nat.add_zero, Bool.false_eq_true, List.getElem?_cons_zero, Nat.reduceMul, Nat.mul_one, DeedG.row, Z45, Z2j, Z1v, Z3q, Z3d, idx_LA, Z3s, Z3r, idx_LI, Z3u, Z3t, rSt, F1, G1, F2, G2, F3, G3, F4, G4, G5, F6, G6, F7, G7, F8, G8, at_Deeds, at_deed_b, at_clone, at_sortI, sortIE_d, sortI_len, take_sortI, at_sameI, at_Of]
    have i1 : i ≤ D.length := i1
    have i2 : rdG D fr i = some (r, ps) := i2
    have i3 : r.length ≤ fr.length := i3
    have i4 : ps.length ≤ i := i4
    have hDl : D.length ≤ 64 := by rw [← hD]; exact deeds_le l acts
    have hfail : rdG D fr (i + 1) = none → i < D.length → buildG l acts fr order = (WG.none, 3) := fun h hi => by
      unfold buildG
      rw [if_neg (by rw [he]; simp), hD, rd_none h (by omega)]
    have hbad : ∀ {P : Prop}, (D.getD i default).act.isR = true → i < D.length → okR D (r.getD 0 default) i = false → (AV.agg [AV.d (DV.list [] false), AV.d (DV.list [] false), AV.d (DV.list [] false), AV.d (DV.list [] false)] = (buildG l acts fr order).fst.av ∧ 3 = (buildG l acts fr order).snd) := fun hR hi hk => by
      rw [hfail (rd_bad i2 hR hk) hi]; exact ⟨rfl, rfl⟩
    refine ⟨fun e => ?_, fun e => ?_⟩
    · have e' : i < D.length := by omega
      have w1 : IntKind.i64.wrap ((i : Int) + 1) = ((i + 1 : Nat) : Int) := by rw [wrap_id (by omega) (by omega)]; omega
      rw [w1]
      refine ⟨⟨by omega, by omega⟩, fun hR => ⟨fun h0 => ?_, fun h0 => ⟨by omega, by omega, fun c1 => ?_, fun c1 => ⟨fun c2 => ?_, fun c2 => ⟨fun c3 => ?_, fun c3 => ⟨by omega, fun c4 => ⟨by omega, fun c5 => ⟨by omega, fun c6 => ⟨roomy_of (by omega) (by omega), ?_⟩, fun c6 => ?_⟩, fun c5 => ?_⟩, fun c4 => ?_⟩⟩⟩⟩⟩, fun hR => ?_⟩
      · have hr : r = [] := List.length_eq_zero_iff.1 (by omega)
        subst hr
        rw [hfail (rd_end i2 hR) e']; exact ⟨rfl, rfl⟩
      · exact hbad (P := True) hR e' (by unfold okR; rw [decide_eq_false (by omega)]; simp)
      · exact hbad (P := True) hR e' (by unfold okR; rw [decide_eq_false (show ¬ r.getD 0 default < (D.length : Int) by omega)]; simp)
      · exact hbad (P := True) hR e' (by unfold okR; rw [decide_eq_true c3]; simp)
      · have hr0 : r ≠ [] := fun h => h0 (by rw [h]; rfl)
        have hk : okR D (r.getD 0 default) i = true := by
          unfold okR
          rw [decide_eq_true (show 0 ≤ r.getD 0 default by omega), decide_eq_true (show r.getD 0 default < (D.length : Int) by omega), decide_eq_false c3, c4, decide_eq_true c5, decide_eq_true c6]; rfl
        refine Z2v.mk [0, 4] (i + 1, (r.drop 1, rg), ps ++ [⟨r.getD 0 default, i⟩]) (by simp) (by simp) (by simp only [State.can, AV.can, AV.canL, HO.can, Z25, idx, Z02, Z00, Heap.at, Nat.reduceBEq, ↓reduceIte, Nat.reduceEqDiff, Option.getD_some, Option.map_some, List.map_cons, List.map_nil, List.getD_cons_zero, List.getD_cons_succ, rSt, List.length_append, List.length_singleton]) ⟨by show i + 1 ≤ _; omega, rd_yes i2 hR hr0 hk, ?_, ?_⟩ (by show D.length - (i + 1) < D.length - i; omega)
        · show (r.drop 1).length ≤ _; rw [List.length_drop]; omega
        · show (ps ++ [_]).length ≤ i + 1; rw [List.length_append, List.length_singleton]; omega
      · exact hbad (P := True) hR e' (by unfold okR; rw [decide_eq_false c6]; simp)
      · exact hbad (P := True) hR e' (by unfold okR; rw [decide_eq_false c5]; simp)
      · exact hbad (P := True) hR e' (by unfold okR; rw [c4]; simp)
      · refine Z2v.mk [0, 1] (i + 1, (r, rg), ps) (by simp) (by simp) (by simp only [State.can, AV.can, AV.canL, HO.can, Z25, idx, Z02, Z00, Heap.at, Nat.reduceBEq, ↓reduceIte, Nat.reduceEqDiff, Option.getD_some, Option.map_some, List.map_cons, List.map_nil, List.getD_cons_zero, List.getD_cons_succ, rSt]) ⟨by show i + 1 ≤ _; omega, rd_no i2 hR, i3, by show ps.length ≤ i + 1; omega⟩ (by show D.length - (i + 1) < D.length - i; omega)
    · have e' : i = D.length := by omega
      subst e'
      have hb3 : (r ≠ [] ∨ order.length ≠ l.length) → buildG l acts fr order = (WG.none, 3) := fun h => by
        unfold buildG
        rw [if_neg (by rw [he]; simp), hD, i2]
        simp only
        rw [if_pos h]
      refine ⟨fun c => ?_, fun c => ⟨fun c2 => ?_, fun c2 => ?_⟩⟩
      · rw [hb3 (.inl (fun h => by rw [h] at c; simp at c))]; exact ⟨rfl, rfl⟩
      · have hr : r = [] := List.length_eq_zero_iff.1 (by omega)
        subst hr
        have hol : order.length = l.length := by omega
        refine Loop.nilref 13 2 rfl (Nat.zero_le _) ?_
        refine Loop.fam [0, 8, 10, 12, 13, 121, 122, 123] (cSt l f D order og ps) (cInv D l.length order) (fun x => order.length - x.1) (0, []) [0, 1, 2] (by simp) (by simp) (by simp only [List.length_cons, List.length_nil, List.cons_append, List.nil_append, State.can, AV.can, AV.canL, HO.can, Z25, idx, Z02, Z00, Heap.at, Nat.reduceBEq, ↓reduceIte, Nat.reduceEqDiff, Option.getD_some, Option.map_some, List.map_cons, List.map_nil, List.getD_cons_zero, List.getD_cons_succ, cSt]; rfl) ⟨by omega, rfl, Nat.le_refl _⟩ ?_
        rintro ⟨t, co⟩ ⟨j1, j2, j3⟩
        have j1 : t ≤ order.length := j1
        have j2 : coG D l.length order t = some co := j2
        have j3 : co.length ≤ 10201 * t := j3
        simp (maxSteps := 3000000) only [↓Z0p, ↓Z1l, ↓Z1t, ↓Z04, ↓Z2u, ↓Z2t, nilG_d, nilG_r, ↓Z0z, ↓Z0o, ↓Z0f, ↓Z1u, ↓Z0e, ↓Z0x, ↓Z36, ↓Z2p, ↓Z1w, ↓Z1p, ↓Z2y, ↓Z2d, ↓Z0w, ↓Z3c, ↓retK_n, ↓Z3y, ↓Z40, ↓Z3z, ↓Z49, ↓Z44, ↓Z4i, ↓Z0h, ↓Z08, ↓Z0s, ↓Z0d, ↓Z1q, Z47, Z07, Z1i, Z2k, Z1f, Z2n, evN, Z2g, Z0v, Z2m, Z4c, Z0u, Z0n, Z0q, Z35, Z2o, Z2c, Z1r, Z26, evT, Opd.ev, Z02, Z00, Z2l, Z4a, Z3l, Z29, Z1x, Z1s, Z27, Z3w, Z0y, Z0a, Z3e, LOp.isNew, State.prune, Z3p, Z2w, AV.leaf, Heap.at, Z0g, Z09, Z1j, Z0k, Z03, idx_I, idx_W, rowW, Z2i, Z37, Z2a, Z1o, rowB, Z3a, Z38, rowN, lens_W, Z41, Z1k, Z0t, w_or, w_and, Z3b, w_and1, w_shl, Z4g, w_shr, w_sub1, w_neg, w_add, w_bit, w_eq0, w_eq1, w_eq, Bool.decide_eq_true, Z3o, Z3j, Z3v, Z2z, Z1y, Z05, Z0c, Z0r, Z01, Z1m, rowI, RatG.row, LocG.row, ActG.row, StepG.row, StampG.row, ActG.av, ActG.eta, RatG.eta, LocG.eta, beq_true, beq_false, Z2q, Z34, Z2x, Z33, Z1e, Z12, Z1c, Z1d, Z11, Z10, Z0i, List.length_set, List.length_replicate, Z06, Int.reduceToNat, evLen, Z2h, Z48, Src.all, Src.len, Src.leaf, Src.leafN, Z3i, Z4h, joinV, Z0m, Z13, Z14, Z15, Z16, Z17, Z18, Z19, mkVec, drows, evMk, List.length_map, Z28, Z2b, List.take_length, List.take_left, List.length_append, Nat.le_add_right, ite_self, List.take_of_length_le, Z3n, intOr, Z4e, Option.isSome_none, Option.isSome_some, Nat.sub_zero, Z4f, loadT, Z4j, evUn, Z1g, Z1h, binT, binQ, chk, Z42, List.contains_cons, List.contains_nil, Bool.or_false, Bool.false_or, Bool.and_self, resQ, resV, resT, pickV, Z2f, Z4k, Z3k, fnOf, Z3g, isD, HO.drow, Z4m, Z46, evEq, eqV, eqK, eqC1, Z4d, Z4b, Z3h, Z3f, lens_I, Z3x, Z32, Z21, Z31, Z20, Z30, Z1z, Z22, Z1a, Z1b, Z0j, List.mem_cons, List.not_mem_nil, or_false, forall_eq, putRow, Z3m, Z1n, RetS, RetF, RetD, AV.frz, AV.frzL, AV.freshP, AV.freshL, DV.less, Z2r, Z23, Z2s, Z24, Z0l, Z0b, Option.some.injEq, AV.tup.injEq, AV.agg.injEq, List.cons.injEq, DV.list.injEq, List.isEmpty_nil, Nat.le_refl, AV.d.injEq, DV.int.injEq, DV.bool.injEq, ↓reduceIte, Nat.reduceEqDiff, Nat.reduceAdd, Nat.reduceBEq, List.length_cons, List.length_nil, List.replicate_succ, List.replicate_zero, List.nil_append, List.cons_append, List.append_nil, List.foldl_cons, List.foldl_nil, List.map_cons, List.map_nil, List.all_cons, List.all_nil, List.set_cons_zero, List.set_cons_succ, List.getD_cons_zero, List.getD_cons_succ, List.drop_zero, List.drop_succ_cons, List.take_succ_cons, List.take_zero, List.flatten_cons, List.flatten_nil, Bool.true_and, Bool.and_true, Bool.not_true, Bool.not_false, true_and, and_true, true_or, or_true, Option.bind_some, Option.map_some, decide_true, decide_false, beq_self_eq_true, true_implies, false_implies, implies_true, not_true_eq_false, not_false_eq_true, and_self, Bool.and_false, Bool.false_and, Nat.reduceLT, Nat.reduceLeDiff, List.reverse_cons, List.reverse_nil, Nat.zero_add, Nat.add_zero, Bool.false_eq_true, List.getElem?_cons_zero, Nat.reduceMul, Nat.mul_one, DeedG.row, Z45, Z2j, Z1v, Z3q, Z3d, idx_LA, Z3s, Z3r, idx_LI, Z3u, Z3t, cSt, F1, G1, F2, G2, F3, G3, F4, G4, G5, F6, G6, F7, G7, F8, G8, at_Deeds, at_deed_b, at_clone, at_sortI, sortIE_d, sortI_len, take_sortI, at_sameI, at_Of]
        refine ⟨fun d => ⟨⟨by omega, by omega⟩, ?_⟩, fun d => ?_⟩
        · have d' : t < order.length := by omega
          refine Loop.nilref 19 1 rfl (Nat.zero_le _) ?_
          refine Loop.fam [0, 8, 10, 12, 13, 17, 18, 19, 121, 122, 123, 128, 129, 130] (wSt l f D order og ps co t) (fun i => i ≤ D.length) (fun i => D.length - i) 0 [0, 1, 2, 3] (by simp) (by simp) (by simp only [List.length_cons, List.length_nil, List.cons_append, List.nil_append, State.can, AV.can, AV.canL, HO.can, Z25, idx, Z02, Z00, Heap.at, Nat.reduceBEq, ↓reduceIte, Nat.reduceEqDiff, Option.getD_some, Option.map_some, List.map_cons, List.map_nil, List.getD_cons_zero, List.getD_cons_succ, wSt]; rfl) (by omega) ?_
          intro i hi
          have hi : i ≤ D.length := hi
          have hwl := want_le D l.length t i
          simp (maxSteps := 3000000) only [↓Z0p, ↓Z1l, ↓Z1t, ↓Z04, ↓Z2u, ↓Z2t, nilG_d, nilG_r, ↓Z0z, ↓Z0o, ↓Z0f, ↓Z1u, ↓Z0e, ↓Z0x, ↓Z36, ↓Z2p, ↓Z1w, ↓Z1p, ↓Z2y, ↓Z2d, ↓Z0w, ↓Z3c, ↓retK_n, ↓Z3y, ↓Z40, ↓Z3z, ↓Z49, ↓Z44, ↓Z4i, ↓Z0h, ↓Z08, ↓Z0s, ↓Z0d, ↓Z1q, Z47, Z07, Z1i, Z2k, Z1f, Z2n, evN, Z2g, Z0v, Z2m, Z4c, Z0u, Z0n, Z0q, Z35, Z2o, Z2c, Z1r, Z26, evT, Opd.ev, Z02, Z00, Z2l, Z4a, Z3l, Z29, Z1x, Z1s, Z27, Z3w, Z0y, Z0a, Z3e, LOp.isNew, State.prune, Z3p, Z2w, AV.leaf, Heap.at, Z0g, Z09, Z1j, Z0k, Z03, idx_I, idx_W, rowW, Z2i, Z37, Z2a, Z1o, rowB, Z3a, Z38, rowN, lens_W, Z41, Z1k, Z0t, w_or, w_and, Z3b, w_and1, w_shl, Z4g, w_shr, w_sub1, w_neg, w_add, w_bit, w_eq0, w_eq1, w_eq, Bool.decide_eq_true, Z3o, Z3j, Z3v, Z2z, Z1y, Z05, Z0c, Z0r, Z01, Z1m, rowI, RatG.row, LocG.row, ActG.row, StepG.row, StampG.row, ActG.av, ActG.eta, RatG.eta, LocG.eta, beq_true, beq_false, Z2q, Z34, Z2x, Z33, Z1e, Z12, Z1c, Z1d, Z11, Z10, Z0i, List.length_set, List.length_replicate, Z06, Int.reduceToNat, evLen, Z2h, Z48, Src.all, Src.len, Src.leaf, Src.leafN, Z3i, Z4h, joinV, Z0m, Z13, Z14, Z15, Z16, Z17, Z18, Z19, mkVec, drows, evMk, List.length_map, Z28, Z2b, List.take_length, List.take_left, List.length_append, Nat.le_add_right, ite_self, List.take_of_length_le, Z3n, intOr, Z4e, Option.isSome_none, Option.isSome_some, Nat.sub_zero, Z4f, loadT, Z4j, evUn, Z1g, Z1h, binT, binQ, chk, Z42, List.contains_cons, List.contains_nil, Bool.or_false, Bool.false_or, Bool.and_self, resQ, resV, resT, pickV, Z2f, Z4k, Z3k, fnOf, Z3g, isD, HO.drow, Z4m, Z46, evEq, eqV, eqK, eqC1, Z4d, Z4b, Z3h, Z3f, lens_I, Z3x, Z32, Z21, Z31, Z20, Z30, Z1z, Z22, Z1a, Z1b, Z0j, List.mem_cons, List.not_mem_nil, or_false, forall_eq, putRow, Z3m, Z1n, RetS, RetF, RetD, AV.frz, AV.frzL, AV.freshP, AV.freshL, DV.less, Z2r, Z23, Z2s, Z24, Z0l, Z0b, Option.some.injEq, AV.tup.injEq, AV.agg.injEq, List.cons.injEq, DV.list.injEq, List.isEmpty_nil, Nat.le_refl, AV.d.injEq, DV.int.injEq, DV.bool.injEq, ↓reduceIte, Nat.reduceEqDiff, Nat.reduceAdd, Nat.reduceBEq, List.length_cons, List.length_nil, List.replicate_succ, List.replicate_zero, List.nil_append, List.cons_append, List.append_nil, List.foldl_cons, List.foldl_nil, List.map_cons, List.map_nil, List.all_cons, List.all_nil, List.set_cons_zero, List.set_cons_succ, List.getD_cons_zero, List.getD_cons_succ, List.drop_zero, List.drop_succ_cons, List.take_succ_cons, List.take_zero, List.flatten_cons, List.flatten_nil, Bool.true_and, Bool.and_true, Bool.not_true, Bool.not_false, true_and, and_true, true_or, or_true, Option.bind_some, Option.map_some, decide_true, decide_false, beq_self_eq_true, true_implies, false_implies, implies_true, not_true_eq_false, not_false_eq_true, and_self, Bool.and_false, Bool.false_and, Nat.reduceLT, Nat.reduceLeDiff, List.reverse_cons, List.reverse_nil, Nat.zero_add, Nat.add_zero, Bool.false_eq_true, List.getElem?_cons_zero, Nat.reduceMul, Nat.mul_one, DeedG.row, Z45, Z2j, Z1v, Z3q, Z3d, idx_LA, Z3s, Z3r, idx_LI, Z3u, Z3t, wSt, F1, G1, F2, G2, F3, G3, F4, G4, G5, F6, G6, F7, G7, F8, G8, at_Deeds, at_deed_b, at_clone, at_sortI, sortIE_d, sortI_len, take_sortI, at_sameI, at_Of]
          have w1 : IntKind.i64.wrap ((i : Int) + 1) = ((i + 1 : Nat) : Int) := by rw [wrap_id (by omega) (by omega)]; omega
          rw [w1]
          refine ⟨fun e => ?_, fun e => ?_⟩
          · have e' : i < D.length := by omega
            have no : ∀ {S : State}, ¬ (l.length ≤ i ∧ (D.getD i default).act.isW = true ∧ (D.getD i default).act.loc = (t : Int)) → 4 ≤ S.heap.length → S.can [0, 1, 2, 3] [0, 8, 10, 12, 13, 17, 18, 19, 121, 122, 123, 128, 129, 130] =
                ⟨[(0, .d (.list (l.map LocG.row) f)), (8, .ptr 0 4 0 0), (10, .d (.list (D.map DeedG.row) false)), (12, .ref 1 2 0 ps.length true), (13, .ref 2 2 0 co.length true), (17, .d (.int .i64 t)), (18, .d (.list ((order.getD t default).1.map rowI) (order.getD t default).2)), (19, .ref 3 1 0 (wantTo D l.length t i).length true),
                   (121, .d (.list (order.map rowLI) og)), (122, .d (.int .i64 order.length)), (123, .d (.int .i64 t)), (128, .d (.list (D.map DeedG.row) false)), (129, .d (.int .i64 D.length)), (130, .d (.int .i64 (i + 1 : Nat)))],
                  [.vec 4 [[.d (.list [] true), .d (.list [] true), .d (.list [] true), .d (.list [] true)]], .dvec 2 (ps.map RatG.row), .dvec 2 (co.map RatG.row), .dvec 1 ((wantTo D l.length t i).map rowI)]⟩ →
                Z2v [0, 8, 10, 12, 13, 17, 18, 19, 121, 122, 123, 128, 129, 130] (wSt l f D order og ps co t) (fun i => i ≤ D.length) (fun i => D.length - i) (D.length - i) S := fun {S} hc hl hS =>
              Z2v.mk [0, 1, 2, 3] (i + 1) (by simp) (by simp; omega) (by rw [hS]; unfold wSt; rw [show wantTo D l.length t (i + 1) = wantTo D l.length t i by rw [wantTo, if_neg hc]]) (by show i + 1 ≤ _; omega) (by show D.length - (i + 1) < D.length - i; omega)
            refine ⟨⟨by omega, by omega⟩, fun c1 => ⟨fun c2 => ⟨fun c3 => ⟨roomy_of (by omega) (by omega), ?_⟩, fun c3 => ?_⟩, fun c2 => ?_⟩, fun c1 => ?_⟩
            · have hw : wantTo D l.length t (i + 1) = wantTo D l.length t i ++ [(i : Int)] := by rw [wantTo, if_pos ⟨by omega, c2, c3⟩]
              exact Z2v.mk [0, 1, 2, 6] (i + 1) (by simp) (by simp) (by unfold wSt; rw [hw]; simp only [State.can, AV.can, AV.canL, HO.can, Z25, idx, Z02, Z00, Heap.at, Nat.reduceBEq, ↓reduceIte, Nat.reduceEqDiff, Option.getD_some, Option.map_some, List.map_cons, List.map_nil, List.getD_cons_zero, List.getD_cons_succ, List.length_append, List.length_singleton]) (by show i + 1 ≤ _; omega) (by show D.length - (i + 1) < D.length - i; omega)
            · exact no (fun h => c3 h.2.2) (by simp) (by simp only [State.can, AV.can, AV.canL, HO.can, Z25, idx, Z02, Z00, Heap.at, Nat.reduceBEq, ↓reduceIte, Nat.reduceEqDiff, Option.getD_some, Option.map_some, List.map_cons, List.map_nil, List.getD_cons_zero, List.getD_cons_succ])
            · exact no (fun h => by rw [c2] at h; simp at h) (by simp) (by simp only [State.can, AV.can, AV.canL, HO.can, Z25, idx, Z02, Z00, Heap.at, Nat.reduceBEq, ↓reduceIte, Nat.reduceEqDiff, Option.getD_some, Option.map_some, List.map_cons, List.map_nil, List.getD_cons_zero, List.getD_cons_succ])
            · exact no (fun h => by omega) (by simp) (by simp only [State.can, AV.can, AV.canL, HO.can, Z25, idx, Z02, Z00, Heap.at, Nat.reduceBEq, ↓reduceIte, Nat.reduceEqDiff, Option.getD_some, Option.map_some, List.map_cons, List.map_nil, List.getD_cons_zero, List.getD_cons_succ])
          · have e' : i = D.length := by omega
            have hord : (order.getD t default).1.length ≤ 100 := by rw [getD_lt d']; exact h3 _ (List.getElem_mem _)
            have hno : sortI (order.getD t default).1 ≠ wantTo D l.length t D.length → buildG l acts fr order = (WG.none, 3) := fun h => by
              unfold buildG
              rw [if_neg (by rw [he]; simp), hD, i2]
              simp only
              rw [if_neg (by simp [hol]), co_none (i := t + 1) (by unfold coG; rw [j2]; simp only; rw [if_neg h]) (by omega)]
            rw [e']
            have hM : maxLen = 9223372036854775807 := rfl
            refine ⟨roomy_of (by omega) (by omega), by omega, by omega, fun hs => ⟨roomy_of (by omega) (by omega), ?_⟩, fun hs => by rw [hno hs]; exact ⟨rfl, rfl⟩⟩
            rw [Nat.add_comm 1]
            generalize ha : ((t : Int) :: (order.getD t default).1) = a
            have hal : a.length = (order.getD t default).1.length + 1 := by rw [← ha]; rfl
            have har : ([DV.int .i64 (t : Int)] :: List.map rowI (order.getD t default).1) = a.map rowI := by rw [← ha]; rfl
            rw [har, ← hal]
            refine Loop.fam [0, 8, 10, 12, 13, 23, 121, 122, 123, 169, 170] (aSt l f D order og ps t a) (aInv a co) (fun x => a.length - x.1) (0, co) [0, 1, 2, 6] (by simp) (by simp) (by simp only [State.can, AV.can, AV.canL, HO.can, Z25, idx, Z02, Z00, Heap.at, Nat.reduceBEq, ↓reduceIte, Nat.reduceEqDiff, Option.getD_some, Option.map_some, List.map_cons, List.map_nil, List.getD_cons_zero, List.getD_cons_succ, aSt, hal]; rfl) ⟨by omega, by simp [pairsTo]⟩ ?_
            rintro ⟨i2, co2⟩ ⟨q1, q2⟩
            have q1 : i2 ≤ a.length := q1
            have q2 : co2 = co ++ pairsTo a i2 := q2
            simp (maxSteps := 3000000) only [↓Z0p, ↓Z1l, ↓Z1t, ↓Z04, ↓Z2u, ↓Z2t, nilG_d, nilG_r, ↓Z0z, ↓Z0o, ↓Z0f, ↓Z1u, ↓Z0e, ↓Z0x, ↓Z36, ↓Z2p, ↓Z1w, ↓Z1p, ↓Z2y, ↓Z2d, ↓Z0w, ↓Z3c, ↓retK_n, ↓Z3y, ↓Z40, ↓Z3z, ↓Z49, ↓Z44, ↓Z4i, ↓Z0h, ↓Z08, ↓Z0s, ↓Z0d, ↓Z1q, Z47, Z07, Z1i, Z2k, Z1f, Z2n, evN, Z2g, Z0v, Z2m, Z4c, Z0u, Z0n, Z0q, Z35, Z2o, Z2c, Z1r, Z26, evT, Opd.ev, Z02, Z00, Z2l, Z4a, Z3l, Z29, Z1x, Z1s, Z27, Z3w, Z0y, Z0a, Z3e, LOp.isNew, State.prune, Z3p, Z2w, AV.leaf, Heap.at, Z0g, Z09, Z1j, Z0k, Z03, idx_I, idx_W, rowW, Z2i, Z37, Z2a, Z1o, rowB, Z3a, Z38, rowN, lens_W, Z41, Z1k, Z0t, w_or, w_and, Z3b, w_and1, w_shl, Z4g, w_shr, w_sub1, w_neg, w_add, w_bit, w_eq0, w_eq1, w_eq, Bool.decide_eq_true, Z3o, Z3j, Z3v, Z2z, Z1y, Z05, Z0c, Z0r, Z01, Z1m, rowI, RatG.row, LocG.row, ActG.row, StepG.row, StampG.row, ActG.av, ActG.eta, RatG.eta, LocG.eta, beq_true, beq_false, Z2q, Z34, Z2x, Z33, Z1e, Z12, Z1c, Z1d, Z11, Z10, Z0i, List.length_set, List.length_replicate, Z06, Int.reduceToNat, evLen, Z2h, Z48, Src.all, Src.len, Src.leaf, Src.leafN, Z3i, Z4h, joinV, Z0m, Z13, Z14, Z15, Z16, Z17, Z18, Z19, mkVec, drows, evMk, List.length_map, Z28, Z2b, List.take_length, List.take_left, List.length_append, Nat.le_add_right, ite_self, List.take_of_length_le, Z3n, intOr, Z4e, Option.isSome_none, Option.isSome_some, Nat.sub_zero, Z4f, loadT, Z4j, evUn, Z1g, Z1h, binT, binQ, chk, Z42, List.contains_cons, List.contains_nil, Bool.or_false, Bool.false_or, Bool.and_self, resQ, resV, resT, pickV, Z2f, Z4k, Z3k, fnOf, Z3g, isD, HO.drow, Z4m, Z46, evEq, eqV, eqK, eqC1, Z4d, Z4b, Z3h, Z3f, lens_I, Z3x, Z32, Z21, Z31, Z20, Z30, Z1z, Z22, Z1a, Z1b, Z0j, List.mem_cons, List.not_mem_nil, or_false, forall_eq, putRow, Z3m, Z1n, RetS, RetF, RetD, AV.frz, AV.frzL, AV.freshP, AV.freshL, DV.less, Z2r, Z23, Z2s, Z24, Z0l, Z0b, Option.some.injEq, AV.tup.injEq, AV.agg.injEq, List.cons.injEq, DV.list.injEq, List.isEmpty_nil, Nat.le_refl, AV.d.injEq, DV.int.injEq, DV.bool.injEq, ↓reduceIte, Nat.reduceEqDiff, Nat.reduceAdd, Nat.reduceBEq, List.length_cons, List.length_nil, List.replicate_succ, List.replicate_zero, List.nil_append, List.cons_append, List.append_nil, List.foldl_cons, List.foldl_nil, List.map_cons, List.map_nil, List.all_cons, List.all_nil, List.set_cons_zero, List.set_cons_succ, List.getD_cons_zero, List.getD_cons_succ, List.drop_zero, List.drop_succ_cons, List.take_succ_cons, List.take_zero, List.flatten_cons, List.flatten_nil, Bool.true_and, Bool.and_true, Bool.not_true, Bool.not_false, true_and, and_true, true_or, or_true, Option.bind_some, Option.map_some, decide_true, decide_false, beq_self_eq_true, true_implies, false_implies, implies_true, not_true_eq_false, not_false_eq_true, and_self, Bool.and_false, Bool.false_and, Nat.reduceLT, Nat.reduceLeDiff, List.reverse_cons, List.reverse_nil, Nat.zero_add, Nat.add_zero, Bool.false_eq_true, List.getElem?_cons_zero, Nat.reduceMul, Nat.mul_one, DeedG.row, Z45, Z2j, Z1v, Z3q, Z3d, idx_LA, Z3s, Z3r, idx_LI, Z3u, Z3t, aSt, F1, G1, F2, G2, F3, G3, F4, G4, G5, F6, G6, F7, G7, F8, G8, at_Deeds, at_deed_b, at_clone, at_sortI, sortIE_d, sortI_len, take_sortI, at_sameI, at_Of]
            have hal2 : a.length ≤ 101 := by omega
            have hpt := pairsTo_le a i2
            have hco2 : co2.length ≤ 10201 * t + i2 * a.length := by rw [q2, List.length_append]; omega
            have hb2 : i2 * a.length ≤ 101 * 101 := Nat.mul_le_mul (by omega) hal2
            have w2 : IntKind.i64.wrap ((i2 : Int) + 1) = ((i2 + 1 : Nat) : Int) := by rw [wrap_id (by omega) (by omega)]; omega
            have w3 : IntKind.i64.wrap ((t : Int) + 1) = ((t + 1 : Nat) : Int) := by rw [wrap_id (by omega) (by omega)]; omega
            rw [w2, w3]
            simp only [Z06]
            refine ⟨fun e2 => ⟨⟨by omega, by omega, by omega⟩, ?_⟩, fun e2 => ?_⟩
            · have e2' : i2 < a.length := by omega
              refine Loop.fam [0, 8, 10, 12, 13, 23, 24, 121, 122, 123, 169, 170, 176, 177, 178] (pSt l f D order og ps t a i2) (pInv a co i2) (fun x => a.length - (i2 + 1) - x.1) (0, co2) [0, 1, 2, 3] (by simp) (by simp) (by simp only [State.can, AV.can, AV.canL, HO.can, Z25, idx, Z02, Z00, Heap.at, Nat.reduceBEq, ↓reduceIte, Nat.reduceEqDiff, Option.getD_some, Option.map_some, List.map_cons, List.map_nil, List.getD_cons_zero, List.getD_cons_succ, pSt]; rfl) ⟨by omega, by rw [q2]; simp [pairsAt]⟩ ?_
              rintro ⟨k, co3⟩ ⟨v1, v2⟩
              have v1 : k ≤ a.length - (i2 + 1) := v1
              have v2 : co3 = co ++ (pairsTo a i2 ++ pairsAt a i2 k) := v2
              have hpa := pairsAt_le a i2 k
              have hco3 : co3.length ≤ 10201 * t + i2 * a.length + a.length := by rw [v2, List.length_append, List.length_append]; omega
              simp (maxSteps := 3000000) only [↓Z0p, ↓Z1l, ↓Z1t, ↓Z04, ↓Z2u, ↓Z2t, nilG_d, nilG_r, ↓Z0z, ↓Z0o, ↓Z0f, ↓Z1u, ↓Z0e, ↓Z0x, ↓Z36, ↓Z2p, ↓Z1w, ↓Z1p, ↓Z2y, ↓Z2d, ↓Z0w, ↓Z3c, ↓retK_n, ↓Z3y, ↓Z40, ↓Z3z, ↓Z49, ↓Z44, ↓Z4i, ↓Z0h, ↓Z08, ↓Z0s, ↓Z0d, ↓Z1q, Z47, Z07, Z1i, Z2k, Z1f, Z2n, evN, Z2g, Z0v, Z2m, Z4c, Z0u, Z0n, Z0q, Z35, Z2o, Z2c, Z1r, Z26, evT, Opd.ev, Z02, Z00, Z2l, Z4a, Z3l, Z29, Z1x, Z1s, Z27, Z3w, Z0y, Z0a, Z3e, LOp.isNew, State.prune, Z3p, Z2w, AV.leaf, Heap.at, Z0g, Z09, Z1j, Z0k, Z03, idx_I, idx_W, rowW, Z2i, Z37, Z2a, Z1o, rowB, Z3a, Z38, rowN, lens_W, Z41, Z1k, Z0t, w_or, w_and, Z3b, w_and1, w_shl, Z4g, w_shr, w_sub1, w_neg, w_add, w_bit, w_eq0, w_eq1, w_eq, Bool.decide_eq_true, Z3o, Z3j, Z3v, Z2z, Z1y, Z05, Z0c, Z0r, Z01, Z1m, rowI, RatG.row, LocG.row, ActG.row, StepG.row, StampG.row, ActG.av, ActG.eta, RatG.eta, LocG.eta, beq_true, beq_false, Z2q, Z34, Z2x, Z33, Z1e, Z12, Z1c, Z1d, Z11, Z10, Z0i, List.length_set, List.length_replicate, Z06, Int.reduceToNat, evLen, Z2h, Z48, Src.all, Src.len, Src.leaf, Src.leafN, Z3i, Z4h, joinV, Z0m, Z13, Z14, Z15, Z16, Z17, Z18, Z19, mkVec, drows, evMk, List.length_map, Z28, Z2b, List.take_length, List.take_left, List.length_append, Nat.le_add_right, ite_self, List.take_of_length_le, Z3n, intOr, Z4e, Option.isSome_none, Option.isSome_some, Nat.sub_zero, Z4f, loadT, Z4j, evUn, Z1g, Z1h, binT, binQ, chk, Z42, List.contains_cons, List.contains_nil, Bool.or_false, Bool.false_or, Bool.and_self, resQ, resV, resT, pickV, Z2f, Z4k, Z3k, fnOf, Z3g, isD, HO.drow, Z4m, Z46, evEq, eqV, eqK, eqC1, Z4d, Z4b, Z3h, Z3f, lens_I, Z3x, Z32, Z21, Z31, Z20, Z30, Z1z, Z22, Z1a, Z1b, Z0j, List.mem_cons, List.not_mem_nil, or_false, forall_eq, putRow, Z3m, Z1n, RetS, RetF, RetD, AV.frz, AV.frzL, AV.freshP, AV.freshL, DV.less, Z2r, Z23, Z2s, Z24, Z0l, Z0b, Option.some.injEq, AV.tup.injEq, AV.agg.injEq, List.cons.injEq, DV.list.injEq, List.isEmpty_nil, Nat.le_refl, AV.d.injEq, DV.int.injEq, DV.bool.injEq, ↓reduceIte, Nat.reduceEqDiff, Nat.reduceAdd, Nat.reduceBEq, List.length_cons, List.length_nil, List.replicate_succ, List.replicate_zero, List.nil_append, List.cons_append, List.append_nil, List.foldl_cons, List.foldl_nil, List.map_cons, List.map_nil, List.all_cons, List.all_nil, List.set_cons_zero, List.set_cons_succ, List.getD_cons_zero, List.getD_cons_succ, List.drop_zero, List.drop_succ_cons, List.take_succ_cons, List.take_zero, List.flatten_cons, List.flatten_nil, Bool.true_and, Bool.and_true, Bool.not_true, Bool.not_false, true_and, and_true, true_or, or_true, Option.bind_some, Option.map_some, decide_true, decide_false, beq_self_eq_true, true_implies, false_implies, implies_true, not_true_eq_false, not_false_eq_true, and_self, Bool.and_false, Bool.false_and, Nat.reduceLT, Nat.reduceLeDiff, List.reverse_cons, List.reverse_nil, Nat.zero_add, Nat.add_zero, Bool.false_eq_true, List.getElem?_cons_zero, Nat.reduceMul, Nat.mul_one, DeedG.row, Z45, Z2j, Z1v, Z3q, Z3d, idx_LA, Z3s, Z3r, idx_LI, Z3u, Z3t, pSt, F1, G1, F2, G2, F3, G3, F4, G4, G5, F6, G6, F7, G7, F8, G8, at_Deeds, at_deed_b, at_clone, at_sortI, sortIE_d, sortI_len, take_sortI, at_sameI, at_Of]
              have w4 : IntKind.i64.wrap ((k : Int) + 1) = ((k + 1 : Nat) : Int) := by rw [wrap_id (by omega) (by omega)]; omega
              rw [w4, w2]
              refine ⟨fun e3 => ⟨⟨by omega, by omega⟩, by omega, ⟨by omega, by omega⟩, by omega, roomy_of (by omega) (by omega), ?_⟩, fun e3 => ?_⟩
              · have e3' : i2 + 1 + k < a.length := by omega
                refine Z2v.mk [0, 1, 5, 3] (k + 1, co3 ++ [⟨a.getD i2 default, a.getD (i2 + 1 + k) default⟩]) (by simp) (by simp) (by simp only [State.can, AV.can, AV.canL, HO.can, Z25, idx, Z02, Z00, Heap.at, Nat.reduceBEq, ↓reduceIte, Nat.reduceEqDiff, Option.getD_some, Option.map_some, List.map_cons, List.map_nil, List.getD_cons_zero, List.getD_cons_succ, pSt, List.length_append, List.length_singleton]) ⟨by show k + 1 ≤ _; omega, ?_⟩ (by show a.length - (i2 + 1) - (k + 1) < a.length - (i2 + 1) - k; omega)
                show co3 ++ [_] = co ++ (pairsTo a i2 ++ pairsAt a i2 (k + 1))
                rw [pairsAt_succ e3', v2]; simp only [List.append_assoc]
              · have e3' : k = a.length - (i2 + 1) := by omega
                refine Z2v.mk [0, 1, 2, 3] (i2 + 1, co3) (by simp) (by simp) (by simp only [State.can, AV.can, AV.canL, HO.can, Z25, idx, Z02, Z00, Heap.at, Nat.reduceBEq, ↓reduceIte, Nat.reduceEqDiff, Option.getD_some, Option.map_some, List.map_cons, List.map_nil, List.getD_cons_zero, List.getD_cons_succ, aSt]) ⟨by show i2 + 1 ≤ _; omega, ?_⟩ (by show a.length - (i2 + 1) < a.length - i2; omega)
                show co3 = co ++ pairsTo a (i2 + 1)
                rw [v2, e3', pairsTo]
            · have e2' : i2 = a.length := by omega
              subst e2'
              have hnext : coG D l.length order (t + 1) = some co2 := by
                unfold coG
                rw [j2]
                simp only
                rw [if_pos hs, ha, ← hal, q2]
              refine Z2v.mk [0, 1, 2] (t + 1, co2) (by simp) (by simp) (by simp only [State.can, AV.can, AV.canL, HO.can, Z25, idx, Z02, Z00, Heap.at, Nat.reduceBEq, ↓reduceIte, Nat.reduceEqDiff, Option.getD_some, Option.map_some, List.map_cons, List.map_nil, List.getD_cons_zero, List.getD_cons_succ, cSt]) ⟨by show t + 1 ≤ _; omega, hnext, by show co2.length ≤ 10201 * (t + 1); omega⟩ (by show order.length - (t + 1) < order.length - t; omega)
        · have e9 : t = order.length := by omega
          subst e9
          have hM : maxLen = 9223372036854775807 := rfl
          have hl16 : l.length ≤ 20 := hA.1
          have hB : buildG l acts fr order = (⟨l, false, D, false, ofG D.length ps, false, ofG D.length co, false⟩, 0) := by
            unfold buildG
            rw [if_neg (by rw [he]; simp), hD, i2]
            simp only
            rw [if_neg (by simp [hol]), ← hol, hol, ← hol, hol]
            rw [hol] at j2
            rw [j2]
          rw [hB]
          exact ⟨roomy_of (by omega) (by omega), by omega, by omega, rfl, rfl⟩
      · rw [hb3 (.inr (by omega))]; exact ⟨rfl, rfl⟩
  · unfold buildG
    rw [if_pos he]
    exact ⟨rfl, rfl⟩
end Go.Ago

/- Chapter 23: what a built world is. Conditions: none. -/
set_option maxRecDepth 100000
set_option linter.unusedSimpArgs false
set_option linter.unusedVariables false
set_option linter.unusedSectionVars false
namespace Go.Ago

/-! ### Deeds -/
theorem getD_of {α : Type} [Inhabited α] {l : List α} {i : Nat} (h : i < l.length) : l.getD i default = l[i] := by
  rw [List.getD_eq_getElem?_getD, List.getElem?_eq_getElem h]; rfl
def goodD (l : List LocG) (d : DeedG) : Prop := d.act.right l = true ∧ d.act.kind ≠ 6
theorem good_init (l : List LocG) {i : Nat} (hi : i < l.length) : goodD l (initD (l.getD i default) i) := by
  unfold goodD initD ActG.right ActG.isA ActG.isR ActG.isW
  cases h : (l.getD i default).atom
  · simp only [h, Bool.false_eq_true, if_false, Int.toNat_natCast]
    refine ⟨?_, by decide⟩
    rw [decide_eq_true (show (i : Int) < l.length by omega), decide_eq_true (show (0 : Int) ≤ i by omega)]; simp
  · simp only [h, if_true, Int.toNat_natCast]
    refine ⟨?_, by decide⟩
    rw [decide_eq_true (show (i : Int) < l.length by omega), decide_eq_true (show (0 : Int) ≤ i by omega)]; simp
theorem mem_kept {acts : List (List ActG × Bool)} {d : DeedG} : ∀ {t : Nat}, d ∈ keptTo acts t → ∃ i < t, d.th = i ∧ d.act ∈ (acts.getD i default).1 ∧ d.act.kind ≠ 6 := by
  intro t h
  unfold keptTo at h
  obtain ⟨x, hx, hd⟩ := List.mem_flatten.1 h
  obtain ⟨i, hi, rfl⟩ := List.mem_map.1 hx
  unfold keepD at hd
  obtain ⟨a, ha, rfl⟩ := List.mem_map.1 hd
  have := List.mem_filter.1 ha
  exact ⟨i, by simpa using hi, rfl, this.1, by simpa using this.2⟩
theorem deeds_get {l : List LocG} {acts : List (List ActG × Bool)} {i : Nat} (hi : i < l.length) : (deedsAll l acts).getD i default = initD (l.getD i default) i := by
  have h1 : i < (initL l l.length).length := by rw [initL_len]; exact hi
  unfold deedsAll
  rw [List.getD_eq_getElem?_getD, List.getElem?_append_left h1]
  unfold initL
  rw [List.getElem?_map, List.getElem?_range hi]; rfl
theorem deeds_kept {l : List LocG} {acts : List (List ActG × Bool)} {i : Nat} (hi : l.length ≤ i) (hl : i < (deedsAll l acts).length) : (deedsAll l acts).getD i default ∈ keptTo acts acts.length := by
  unfold deedsAll at hl ⊢
  rw [List.length_append, initL_len] at hl
  rw [List.getD_eq_getElem?_getD, List.getElem?_append_right (by rw [initL_len]; exact hi), initL_len, List.getElem?_eq_getElem (by omega)]
  exact List.getElem_mem _
theorem deeds_good {l : List LocG} {acts : List (List ActG × Bool)} (hr : rightA l acts = true) {i : Nat} (hl : i < (deedsAll l acts).length) : goodD l ((deedsAll l acts).getD i default) := by
  by_cases hi : i < l.length
  · rw [deeds_get hi]; exact good_init l hi
  · obtain ⟨t, ht, _, hm, hk⟩ := mem_kept (deeds_kept (by omega) hl)
    refine ⟨?_, hk⟩
    unfold rightA at hr
    have h1 := List.all_eq_true.1 hr (acts.getD t default) (by rw [getD_of ht]; exact List.getElem_mem _)
    exact List.all_eq_true.1 h1 _ hm
theorem deeds_th {l : List LocG} {acts : List (List ActG × Bool)} {i : Nat} (hi : l.length ≤ i) (hl : i < (deedsAll l acts).length) : 0 ≤ ((deedsAll l acts).getD i default).th := by
  obtain ⟨t, ht, h, _⟩ := mem_kept (deeds_kept hi hl)
  omega
theorem deeds_th0 {l : List LocG} {acts : List (List ActG × Bool)} {i : Nat} (hi : i < l.length) : ((deedsAll l acts).getD i default).th = -1 := by rw [deeds_get hi]; rfl
theorem deeds_loc0 {l : List LocG} {acts : List (List ActG × Bool)} {i : Nat} (hi : i < l.length) : ((deedsAll l acts).getD i default).act.loc = i := by rw [deeds_get hi]; rfl
theorem deeds_w0 {l : List LocG} {acts : List (List ActG × Bool)} {i : Nat} (hi : i < l.length) : ((deedsAll l acts).getD i default).act.isW = true := by
  rw [deeds_get hi]; unfold initD ActG.isW; cases (l.getD i default).atom <;> rfl
theorem deeds_ge (l : List LocG) (acts : List (List ActG × Bool)) : l.length ≤ (deedsAll l acts).length := by unfold deedsAll; rw [List.length_append, initL_len]; omega

/-! ### Who reads from whom -/
theorem rd_mem {D : List DeedG} {fr : List Int} : ∀ {i : Nat} {r : List Int} {ps : List RatG}, rdG D fr i = some (r, ps) → ∀ p ∈ ps, ∃ j, j < i ∧ p.den = j ∧ (D.getD j default).act.isR = true ∧ okR D p.num j = true := by
  intro i
  induction i with
  | zero => intro r ps h p hp; simp [rdG] at h; rw [h.2] at hp; cases hp
  | succ i ih =>
    intro r ps h p hp
    unfold rdG at h
    split at h
    · cases h
    · rename_i r0 ps0 h0
      split at h
      · rename_i hR
        split at h
        · cases h
        · rename_i w r1
          split at h
          · rename_i hk
            simp at h
            rw [← h.2, List.mem_append] at hp
            rcases hp with hp | hp
            · obtain ⟨j, h1, h2⟩ := ih h0 p hp
              exact ⟨j, by omega, h2⟩
            · simp at hp; subst hp
              exact ⟨i, by omega, rfl, hR, hk⟩
          · cases h
      · simp at h
        rw [← h.2] at hp
        obtain ⟨j, h1, h2⟩ := ih h0 p hp
        exact ⟨j, by omega, h2⟩
theorem okR_iff {D : List DeedG} {w : Int} {i : Nat} : okR D w i = true ↔ 0 ≤ w ∧ w < D.length ∧ w ≠ i ∧ (D.getD w.toNat default).act.isW = true ∧ (D.getD w.toNat default).act.loc = (D.getD i default).act.loc ∧ (D.getD w.toNat default).act.new = (D.getD i default).act.old := by
  unfold okR; simp only [Bool.and_eq_true, decide_eq_true_eq, Bool.not_eq_true', decide_eq_false_iff_not]
  constructor
  · rintro ⟨⟨⟨⟨⟨a, b⟩, c⟩, d⟩, e⟩, f⟩; exact ⟨a, b, c, d, e, f⟩
  · rintro ⟨a, b, c, d, e, f⟩; exact ⟨⟨⟨⟨⟨a, b⟩, c⟩, d⟩, e⟩, f⟩

/-! ### The order of a location's writes -/
def wL (D : List DeedG) (t : Nat) (j : Int) : Prop := 0 ≤ j ∧ j < D.length ∧ (D.getD j.toNat default).act.isW = true ∧ (D.getD j.toNat default).act.loc = t
theorem mem_want {D : List DeedG} {n loc : Nat} : ∀ {i : Nat} {j : Int}, j ∈ wantTo D n loc i ↔ ∃ k : Nat, j = k ∧ k < i ∧ n ≤ k ∧ (D.getD k default).act.isW = true ∧ (D.getD k default).act.loc = loc := by
  intro i
  induction i with
  | zero => intro j; simp [wantTo]
  | succ i ih =>
    intro j
    unfold wantTo
    split
    · rename_i h
      rw [List.mem_append, ih]
      constructor
      · rintro (⟨k, h1, h2, h3⟩ | h1)
        · exact ⟨k, h1, by omega, h3⟩
        · exact ⟨i, by simpa using h1, by omega, h.1, h.2.1, h.2.2⟩
      · rintro ⟨k, h1, h2, h3⟩
        by_cases e : k = i
        · exact .inr (by rw [h1, e]; simp)
        · exact .inl ⟨k, h1, by omega, h3⟩
    · rename_i h
      rw [ih]
      constructor
      · rintro ⟨k, h1, h2, h3⟩; exact ⟨k, h1, by omega, h3⟩
      · rintro ⟨k, h1, h2, h3, h4, h5⟩
        by_cases e : k = i
        · subst e; exact absurd ⟨h3, h4, h5⟩ h
        · exact ⟨k, h1, by omega, h3, h4, h5⟩
theorem want_nodup {D : List DeedG} {n loc : Nat} : ∀ {i : Nat}, (wantTo D n loc i).Nodup := by
  intro i
  induction i with
  | zero => exact List.nodup_nil
  | succ i ih =>
    unfold wantTo
    split
    · rw [List.nodup_append]
      refine ⟨ih, by simp, fun a ha b hb => ?_⟩
      obtain ⟨k, h1, h2, _⟩ := mem_want.1 ha
      simp at hb; omega
    · exact ih
theorem sort_perm (l : List Int) : (sortI l).Perm l := List.mergeSort_perm l _

theorem mem_pairsAt {a : List Int} {i : Nat} {p : RatG} : p ∈ pairsAt a i (a.length - (i + 1)) ↔ ∃ j, i < j ∧ j < a.length ∧ p = ⟨a.getD i default, a.getD j default⟩ := by
  unfold pairsAt
  rw [List.take_of_length_le (by rw [List.length_drop]; omega)]
  constructor
  · intro h
    obtain ⟨x, hx, rfl⟩ := List.mem_map.1 h
    obtain ⟨m, hm, rfl⟩ := List.mem_iff_getElem.1 hx
    rw [List.length_drop] at hm
    refine ⟨i + 1 + m, by omega, by omega, ?_⟩
    rw [List.getElem_drop, getD_of (show i + 1 + m < a.length by omega)]
  · rintro ⟨j, h1, h2, rfl⟩
    refine List.mem_map.2 ⟨a.getD j default, ?_, rfl⟩
    rw [getD_of h2]
    refine List.mem_iff_getElem.2 ⟨j - (i + 1), by rw [List.length_drop]; omega, ?_⟩
    rw [List.getElem_drop]
    congr 1; omega
theorem mem_pairsTo {a : List Int} {p : RatG} : ∀ {n : Nat}, p ∈ pairsTo a n ↔ ∃ i j, i < n ∧ i < j ∧ j < a.length ∧ p = ⟨a.getD i default, a.getD j default⟩ := by
  intro n
  induction n with
  | zero => simp [pairsTo]
  | succ n ih =>
    unfold pairsTo
    rw [List.mem_append, ih, mem_pairsAt]
    constructor
    · rintro (⟨i, j, h1, h2⟩ | ⟨j, h1⟩)
      · exact ⟨i, j, by omega, h2⟩
      · exact ⟨n, j, by omega, h1⟩
    · rintro ⟨i, j, h1, h2⟩
      by_cases e : i = n
      · subst e; exact .inr ⟨j, h2⟩
      · exact .inl ⟨i, j, by omega, h2⟩
/-- The writes of a location, in their order. -/
def lineG (order : List (List Int × Bool)) (t : Nat) : List Int := (t : Int) :: (order.getD t default).1
theorem co_mem {D : List DeedG} {n : Nat} {order : List (List Int × Bool)} : ∀ {m : Nat} {ps : List RatG}, coG D n order m = some ps →
    (∀ p : RatG, p ∈ ps ↔ ∃ t i j, t < m ∧ i < j ∧ j < (lineG order t).length ∧ p = ⟨(lineG order t).getD i default, (lineG order t).getD j default⟩) ∧
    ∀ t, t < m → sortI (order.getD t default).1 = wantTo D n t D.length := by
  intro m
  induction m with
  | zero => intro ps h; simp [coG] at h; subst h; simp
  | succ m ih =>
    intro ps h
    unfold coG at h
    split at h
    · cases h
    · rename_i ps0 h0
      split at h
      · rename_i hw
        obtain ⟨g1, g2⟩ := ih h0
        simp at h; subst h
        refine ⟨fun p => ?_, fun t ht => ?_⟩
        · rw [List.mem_append, g1]
          constructor
          · rintro (⟨t, i, j, h1, h2⟩ | h1)
            · exact ⟨t, i, j, by omega, h2⟩
            · obtain ⟨i, j, h1, h2⟩ := mem_pairsTo.1 h1
              exact ⟨m, i, j, by omega, h2⟩
          · rintro ⟨t, i, j, h1, h2, h3, h4⟩
            by_cases e : t = m
            · subst e
              exact .inr (mem_pairsTo.2 ⟨i, j, by unfold lineG at h3; simp at h3; omega, h2, h3, h4⟩)
            · exact .inl ⟨t, i, j, by omega, h2, h3, h4⟩
        · by_cases e : t = m
          · rw [e]; exact hw
          · exact g2 t (by omega)
      · cases h

/-! ### Built worlds -/
structure BuiltG (l : List LocG) (acts : List (List ActG × Bool)) (fr : List Int) (order : List (List Int × Bool)) (x : WG) : Prop where
  locs : x.locs = l
  deeds : x.deeds = deedsAll l acts
  right : rightA l acts = true
  le : x.deeds.length ≤ 64
  ol : order.length = l.length
  okx : ∃ ps, rdG x.deeds fr x.deeds.length = some ([], ps) ∧ x.rf = ofG x.deeds.length ps
  cox : ∃ ps, coG x.deeds l.length order l.length = some ps ∧ x.co = ofG x.deeds.length ps

theorem built_of {l : List LocG} {acts : List (List ActG × Bool)} {fr : List Int} {order : List (List Int × Bool)} (h : (buildG l acts fr order).2 = 0) :
    BuiltG l acts fr order (buildG l acts fr order).1 := by
  unfold buildG at h ⊢
  split at h
  · rename_i h1; exact absurd h h1
  · rename_i h0
    rw [if_neg h0]
    have hD : (deedsG l acts).1 = deedsAll l acts ∧ rightA l acts = true ∧ (deedsAll l acts).length ≤ 64 := by
      unfold deedsG at h0 ⊢
      split at h0
      · simp at h0
      · split at h0
        · simp at h0
        · split at h0
          · simp at h0
          · rename_i q1 q2 q3
            rw [if_neg q1, if_neg q2, if_neg q3]
            exact ⟨rfl, by simpa using q2, by omega⟩
    rw [hD.1] at h ⊢
    rcases hrd : rdG (deedsAll l acts) fr (deedsAll l acts).length with _ | ⟨rest, rf⟩
    · rw [hrd] at h; cases h
    · rw [hrd] at h
      simp only at h ⊢
      split at h
      · cases h
      · rename_i h2
        rw [if_neg h2]
        rcases hco : coG (deedsAll l acts) l.length order l.length with _ | co
        · rw [hco] at h; cases h
        · have h3 : rest = [] ∧ order.length = l.length := by
            constructor
            · apply Classical.byContradiction; intro e; exact h2 (.inl e)
            · apply Classical.byContradiction; intro e; exact h2 (.inr e)
          rw [h3.1] at hrd
          exact ⟨rfl, rfl, hD.2.1, hD.2.2, h3.2, ⟨rf, hrd, rfl⟩, ⟨co, hco, rfl⟩⟩
theorem sq_of {n : Nat} (hn : n ≤ 64) {ps : List RatG} (h : ∀ p ∈ ps, 0 ≤ p.num ∧ p.num < n ∧ 0 ≤ p.den ∧ p.den < n) : Sq n (ofG n ps) := by
  have he : ofErr n ps = 0 := by
    unfold ofErr
    rw [if_neg (by omega), if_neg]
    rw [Bool.not_eq_true, List.any_eq_false]
    intro p hp
    obtain ⟨a, b, c, d⟩ := h p hp
    unfold ofBad
    rw [decide_eq_false (show ¬ p.num < 0 by omega), decide_eq_false (show ¬ (n : Int) ≤ p.num by omega), decide_eq_false (show ¬ p.den < 0 by omega), decide_eq_false (show ¬ (n : Int) ≤ p.den by omega)]
    simp
  unfold ofG
  rw [if_pos he, Int.toNat_natCast]
  exact Sq.mk hn _

section
variable {l : List LocG} {acts : List (List ActG × Bool)} {fr : List Int} {order : List (List Int × Bool)} {x : WG} (B : BuiltG l acts fr order x)
include B
theorem BuiltG.ge : l.length ≤ x.deeds.length := by rw [B.deeds]; exact deeds_ge l acts
theorem BuiltG.good {i : Nat} (hi : i < x.deeds.length) : goodD l (x.deeds.getD i default) := by
  rw [B.deeds] at hi ⊢; exact deeds_good B.right hi
theorem BuiltG.rd_ok {ps : List RatG} (h : rdG x.deeds fr x.deeds.length = some ([], ps)) : ∀ p ∈ ps, 0 ≤ p.num ∧ p.num < x.deeds.length ∧ 0 ≤ p.den ∧ p.den < x.deeds.length := by
  intro p hp
  obtain ⟨j, h1, h2, h3, h4⟩ := rd_mem h p hp
  have := okR_iff.1 h4
  omega
theorem BuiltG.line_mem {t : Nat} (ht : t < l.length) {j : Int} : j ∈ lineG order t ↔ wL x.deeds t j := by
  obtain ⟨ps, h1, _⟩ := B.cox
  have hs := (co_mem h1).2 t ht
  unfold lineG wL
  rw [List.mem_cons, ← (sort_perm _).mem_iff, hs, mem_want]
  have hge := B.ge
  constructor
  · rintro (rfl | ⟨k, rfl, h2, h3, h4, h5⟩)
    · rw [Int.toNat_natCast, B.deeds, deeds_w0 ht, deeds_loc0 ht]
      exact ⟨by omega, by rw [← B.deeds]; omega, rfl, rfl⟩
    · exact ⟨by omega, by omega, by rw [Int.toNat_natCast]; exact h4, by rw [Int.toNat_natCast]; exact h5⟩
  · rintro ⟨h2, h3, h4, h5⟩
    by_cases hj : j.toNat < l.length
    · left
      rw [B.deeds, deeds_loc0 hj] at h5
      omega
    · exact .inr ⟨j.toNat, by omega, by omega, by omega, h4, h5⟩
theorem BuiltG.line_nodup {t : Nat} (ht : t < l.length) : (lineG order t).Nodup := by
  obtain ⟨ps, h1, _⟩ := B.cox
  have hs := (co_mem h1).2 t ht
  unfold lineG
  rw [List.nodup_cons]
  constructor
  · intro hm
    rw [← (sort_perm _).mem_iff, hs, mem_want] at hm
    obtain ⟨k, h2, h3, h4, _⟩ := hm
    omega
  · rw [← (sort_perm _).nodup_iff, hs]; exact want_nodup
theorem BuiltG.co_ok {ps : List RatG} (h : coG x.deeds l.length order l.length = some ps) : ∀ p ∈ ps, 0 ≤ p.num ∧ p.num < x.deeds.length ∧ 0 ≤ p.den ∧ p.den < x.deeds.length := by
  intro p hp
  obtain ⟨t, i, j, ht, h1, h2, rfl⟩ := ((co_mem h).1 p).1 hp
  have e1 : (lineG order t).getD i default ∈ lineG order t := by rw [getD_of (by omega)]; exact List.getElem_mem _
  have e2 : (lineG order t).getD j default ∈ lineG order t := by rw [getD_of h2]; exact List.getElem_mem _
  have q1 := (B.line_mem ht).1 e1
  have q2 := (B.line_mem ht).1 e2
  exact ⟨q1.1, q1.2.1, q2.1, q2.2.1⟩
theorem BuiltG.ok : x.Ok := by
  obtain ⟨ps, h1, h2⟩ := B.okx
  obtain ⟨qs, h3, h4⟩ := B.cox
  exact ⟨B.le, by rw [h2]; exact sq_of B.le (B.rd_ok h1), by rw [h4]; exact sq_of B.le (B.co_ok h3)⟩
/-- Where a deed is. -/
theorem BuiltG.at_ {i : Nat} (hi : i < x.deeds.length) : ∃ t : Nat, t < l.length ∧ (x.deeds.getD i default).act.loc = t := by
  obtain ⟨h1, h2⟩ := B.good hi
  unfold ActG.right at h1
  rw [if_neg h2] at h1
  simp only [Bool.and_eq_true, decide_eq_true_eq] at h1
  exact ⟨(x.deeds.getD i default).act.loc.toNat, by omega, by omega⟩
theorem BuiltG.atom {i : Nat} (hi : i < x.deeds.length) : x.atom i = (x.deeds.getD i default).act.isA := by
  obtain ⟨h1, h2⟩ := B.good hi
  unfold ActG.right at h1
  rw [if_neg h2] at h1
  simp only [Bool.and_eq_true, decide_eq_true_eq, beq_iff_eq] at h1
  unfold WG.atom WG.dl
  rw [B.locs, decide_eq_true (show 0 ≤ (x.deeds.getD i default).act.loc by omega), decide_eq_true (show (x.deeds.getD i default).act.loc < l.length by omega)]
  simp only [Bool.and_self, Bool.true_and]
  exact h1.1.1.2
end

/-! ### Judged -/
theorem hasN_only {x : WG} {r : List W} {i k : Nat} (hr : r.length ≤ 64) : hasN (onlyG x r) i k = (x.atom i && hasN r i k) := by
  have hlen : (onlyG x r).length = r.length := by unfold onlyG mapW; simp
  have hsz : szR (onlyG x r) = szR r := by unfold szR; rw [hlen]
  unfold hasN
  rw [hsz]
  by_cases hi : i < szR r
  · have hi' : i < r.length := by have := szR_len r; omega
    have : (onlyG x r).getD i 0#64 = if x.atom i then r.getD i 0#64 else 0#64 := by
      unfold onlyG mapW
      rw [List.getD_eq_getElem?_getD, List.getElem?_map, List.getElem?_range hi']; rfl
    rw [this]
    cases x.atom i
    · simp
    · simp
  · simp [hi]
theorem sq_r {x : WG} (hx : x.Ok) : Sq x.deeds.length (lay2 qOr x.rf x.co) := Sq.lay2 hx.rf.len hx.co.len hx.n
section
variable {l : List LocG} {acts : List (List ActG × Bool)} {fr : List Int} {order : List (List Int × Bool)} {x : WG} (B : BuiltG l acts fr order x) (hc : chkW x = 0)
include B hc
end
end Go.Ago

/- The laws of layer 23: what is small, and a fixed answer. Conditions: none. -/
set_option maxRecDepth 100000
set_option linter.unusedSimpArgs false
set_option linter.unusedVariables false
namespace Go.Ago
attribute [local irreducible] vck
def smallF (l : List LocG) (acts : List (List ActG × Bool)) (fr : List Int) (order : List (List Int × Bool)) : Bool :=
  decide (l.length ≤ 20) && decide (acts.length ≤ 5) && decide (fr.length ≤ 100) && decide (order.length ≤ 20) && acts.all (fun x => decide (x.1.length ≤ 70)) && order.all (fun x => decide (x.1.length ≤ 100))
theorem smallF_iff {l : List LocG} {acts : List (List ActG × Bool)} {fr : List Int} {order : List (List Int × Bool)} : smallF l acts fr order = true ↔ smallB l acts fr order := by
  unfold smallF smallB smallA
  simp only [Bool.and_eq_true, decide_eq_true_eq, List.all_eq_true]
  exact ⟨fun ⟨⟨⟨⟨⟨a, b⟩, c⟩, d⟩, e⟩, f⟩ => ⟨⟨a, b, e⟩, c, d, f⟩, fun ⟨⟨a, b, e⟩, c, d, f⟩ => ⟨⟨⟨⟨⟨a, b⟩, c⟩, d⟩, e⟩, f⟩⟩
def sp_small : Sp := ⟨(List LocG × Bool × List (List ActG × Bool) × Bool) × (List Int × Bool × List (List Int × Bool) × Bool), fun x => [.d (.list (x.1.1.map LocG.row) x.1.2.1), .d (.list (x.1.2.2.1.map rowLA) x.1.2.2.2), .d (.list (x.2.1.map rowI) x.2.2.1), .d (.list (x.2.2.2.1.map rowLI) x.2.2.2.2)],
  fun x => .data (x.1.2.2.1.length ≤ maxLen ∧ x.2.2.2.1.length ≤ maxLen) (.d (.bool (smallF x.1.1 x.1.2.2.1 x.2.1 x.2.2.2.1))) true⟩
theorem at_small (l : List LocG) (f : Bool) (acts : List (List ActG × Bool)) (g : Bool) (fr : List Int) (ff : Bool) (order : List (List Int × Bool)) (og : Bool) : sp_small.at [.d (.list (l.map LocG.row) f), .d (.list (acts.map rowLA) g), .d (.list (fr.map rowI) ff), .d (.list (order.map rowLI) og)] =
    .data (acts.length ≤ maxLen ∧ order.length ≤ maxLen) (.d (.bool (smallF l acts fr order))) true :=
  Sp.at_enc (s := sp_small) (fun x y h => by
    obtain ⟨⟨a, b, c, d⟩, e, f, g, i⟩ := x; obtain ⟨⟨a', b', c', d'⟩, e', f', g', i'⟩ := y
    simp only [sp_small, List.cons.injEq, AV.d.injEq, DV.list.injEq, and_true] at h
    obtain ⟨⟨h1, h2⟩, ⟨h3, h4⟩, ⟨h5, h6⟩, h7, h8⟩ := h
    rw [Z39 LocG.row_inj h1, h2, Z39 rowLA_inj h3, h4, Z39 rowI_inj h5, h6, Z39 rowLI_inj h7, h8]) ((l, f, acts, g), fr, ff, order, og)
theorem all_at {α : Type} [Inhabited α] {l : List α} {p : α → Bool} {i : Nat} (hi : i < l.length) (h : p (l.getD i default) = false) : l.all p = false := by
  rw [Bool.eq_false_iff]
  intro hh
  rw [List.all_eq_true] at hh
  have := hh (l.getD i default) (by rw [getD_lt hi]; exact List.getElem_mem hi)
  rw [h] at this; cases this
theorem all_yes {α : Type} [Inhabited α] {l : List α} {p : α → Bool} (h : ∀ i, i < l.length → p (l.getD i default) = true) : l.all p = true := by
  rw [List.all_eq_true]
  intro x hx
  obtain ⟨i, hi, rfl⟩ := List.getElem_of_mem hx
  have := h i hi
  rwa [getD_lt hi] at this
theorem body_law23_small {T : Tab} : sp_small.Body T V_law23_small L_law23_small R_law23_small := by
  rintro ⟨⟨l, f, acts, g⟩, fr, ff, order, og⟩ ⟨h1, h2⟩
  have h1 : acts.length ≤ maxLen := h1
  have h2 : order.length ≤ maxLen := h2
  refine .inl ⟨rfl, ?_⟩
  unfold V_law23_small L_law23_small R_law23_small
  simp (maxSteps := 3000000) only [↓Z0p, ↓Z1l, ↓Z1t, ↓Z04, ↓Z2u, ↓Z2t, nilG_d, nilG_r, ↓Z0z, ↓Z0o, ↓Z0f, ↓Z1u, ↓Z0e, ↓Z0x, ↓Z36, ↓Z2p, ↓Z1w, ↓Z1p, ↓Z2y, ↓Z2d, ↓Z0w, ↓Z3c, ↓retK_n, ↓Z3y, ↓Z40, ↓Z3z, ↓Z49, ↓Z44, ↓Z4i, ↓Z0h, ↓Z08, ↓Z0s, ↓Z0d, ↓Z1q, Z47, Z07, Z1i, Z2k, Z1f, Z2n, evN, Z2g, Z0v, Z2m, Z4c, Z0u, Z0n, Z0q, Z35, Z2o, Z2c, Z1r, Z26, evT, Opd.ev, Z02, Z00, Z2l, Z4a, Z3l, Z29, Z1x, Z1s, Z27, Z3w, Z0y, Z0a, Z3e, LOp.isNew, State.prune, Z3p, Z2w, AV.leaf, Heap.at, Z0g, Z09, Z1j, Z0k, Z03, idx_I, idx_W, rowW, Z2i, Z37, Z2a, Z1o, rowB, Z3a, Z38, rowN, lens_W, Z41, Z1k, Z0t, w_or, w_and, Z3b, w_and1, w_shl, Z4g, w_shr, w_sub1, w_neg, w_add, w_bit, w_eq0, w_eq1, w_eq, Bool.decide_eq_true, Z3o, Z3j, Z3v, Z2z, Z1y, Z05, Z0c, Z0r, Z01, Z1m, rowI, RatG.row, LocG.row, ActG.row, StepG.row, StampG.row, ActG.av, ActG.eta, RatG.eta, LocG.eta, beq_true, beq_false, Z2q, Z34, Z2x, Z33, Z1e, Z12, Z1c, Z1d, Z11, Z10, Z0i, List.length_set, List.length_replicate, Z06, Int.reduceToNat, evLen, Z2h, Z48, Src.all, Src.len, Src.leaf, Src.leafN, Z3i, Z4h, joinV, Z0m, Z13, Z14, Z15, Z16, Z17, Z18, Z19, mkVec, drows, evMk, List.length_map, Z28, Z2b, List.take_length, List.take_left, List.length_append, Nat.le_add_right, ite_self, List.take_of_length_le, Z3n, intOr, Z4e, Option.isSome_none, Option.isSome_some, Nat.sub_zero, Z4f, loadT, Z4j, evUn, Z1g, Z1h, binT, binQ, chk, Z42, List.contains_cons, List.contains_nil, Bool.or_false, Bool.false_or, Bool.and_self, resQ, resV, resT, pickV, Z2f, Z4k, Z3k, fnOf, Z3g, isD, HO.drow, Z4m, Z46, evEq, eqV, eqK, eqC1, Z4d, Z4b, Z3h, Z3f, lens_I, Z3x, Z32, Z21, Z31, Z20, Z30, Z1z, Z22, Z1a, Z1b, Z0j, List.mem_cons, List.not_mem_nil, or_false, forall_eq, putRow, Z3m, Z1n, RetS, RetF, RetD, AV.frz, AV.frzL, AV.freshP, AV.freshL, DV.less, Z2r, Z23, Z2s, Z24, Z0l, Z0b, Option.some.injEq, AV.tup.injEq, AV.agg.injEq, List.cons.injEq, DV.list.injEq, List.isEmpty_nil, Nat.le_refl, AV.d.injEq, DV.int.injEq, DV.bool.injEq, ↓reduceIte, Nat.reduceEqDiff, Nat.reduceAdd, Nat.reduceBEq, List.length_cons, List.length_nil, List.replicate_succ, List.replicate_zero, List.nil_append, List.cons_append, List.append_nil, List.foldl_cons, List.foldl_nil, List.map_cons, List.map_nil, List.all_cons, List.all_nil, List.set_cons_zero, List.set_cons_succ, List.getD_cons_zero, List.getD_cons_succ, List.drop_zero, List.drop_succ_cons, List.take_succ_cons, List.take_zero, List.flatten_cons, List.flatten_nil, Bool.true_and, Bool.and_true, Bool.not_true, Bool.not_false, true_and, and_true, true_or, or_true, Option.bind_some, Option.map_some, decide_true, decide_false, beq_self_eq_true, true_implies, false_implies, implies_true, not_true_eq_false, not_false_eq_true, and_self, Bool.and_false, Bool.false_and, Nat.reduceLT, Nat.reduceLeDiff, List.reverse_cons, List.reverse_nil, Nat.zero_add, Nat.add_zero, Bool.false_eq_true, List.getElem?_cons_zero, Nat.reduceMul, Nat.mul_one, DeedG.row, Z45, Z2j, Z1v, Z3q, Z3d, idx_LA, Z3s, Z3r, idx_LI, Z3u, Z3t, sp_small]
  refine ⟨fun c1 => by unfold smallF; rw [decide_eq_false (by omega)]; simp, fun c1 => ⟨fun c2 => by unfold smallF; rw [decide_eq_false (show ¬ acts.length ≤ 5 by omega)]; simp, fun c2 => ⟨fun c3 => by unfold smallF; rw [decide_eq_false (show ¬ fr.length ≤ 100 by omega)]; simp, fun c3 => ⟨fun c4 => by unfold smallF; rw [decide_eq_false (show ¬ order.length ≤ 20 by omega)]; simp, fun c4 => ?_⟩⟩⟩⟩
  refine Loop.fam [1, 3, 9] (fun i : Nat => ⟨[(1, .d (.list (acts.map rowLA) g)), (3, .d (.list (order.map rowLI) og)), (9, .d (.int .i64 i))], []⟩) (fun i => i ≤ acts.length ∧ ∀ j, j < i → (acts.getD j default).1.length ≤ 70) (fun i => acts.length - i) 0 [] (by simp) (by simp) (by simp only [State.can, AV.can, AV.canL, HO.can, Z25, idx, Z02, Z00, Heap.at, Nat.reduceBEq, ↓reduceIte, Nat.reduceEqDiff, Option.getD_some, Option.map_some, List.map_cons, List.map_nil, List.getD_cons_zero, List.getD_cons_succ]; rfl) ⟨by omega, by omega⟩ ?_
  rintro i ⟨hi, hj⟩
  simp (maxSteps := 3000000) only [↓Z0p, ↓Z1l, ↓Z1t, ↓Z04, ↓Z2u, ↓Z2t, nilG_d, nilG_r, ↓Z0z, ↓Z0o, ↓Z0f, ↓Z1u, ↓Z0e, ↓Z0x, ↓Z36, ↓Z2p, ↓Z1w, ↓Z1p, ↓Z2y, ↓Z2d, ↓Z0w, ↓Z3c, ↓retK_n, ↓Z3y, ↓Z40, ↓Z3z, ↓Z49, ↓Z44, ↓Z4i, ↓Z0h, ↓Z08, ↓Z0s, ↓Z0d, ↓Z1q, Z47, Z07, Z1i, Z2k, Z1f, Z2n, evN, Z2g, Z0v, Z2m, Z4c, Z0u, Z0n, Z0q, Z35, Z2o, Z2c, Z1r, Z26, evT, Opd.ev, Z02, Z00, Z2l, Z4a, Z3l, Z29, Z1x, Z1s, Z27, Z3w, Z0y, Z0a, Z3e, LOp.isNew, State.prune, Z3p, Z2w, AV.leaf, Heap.at, Z0g, Z09, Z1j, Z0k, Z03, idx_I, idx_W, rowW, Z2i, Z37, Z2a, Z1o, rowB, Z3a, Z38, rowN, lens_W, Z41, Z1k, Z0t, w_or, w_and, Z3b, w_and1, w_shl, Z4g, w_shr, w_sub1, w_neg, w_add, w_bit, w_eq0, w_eq1, w_eq, Bool.decide_eq_true, Z3o, Z3j, Z3v, Z2z, Z1y, Z05, Z0c, Z0r, Z01, Z1m, rowI, RatG.row, LocG.row, ActG.row, StepG.row, StampG.row, ActG.av, ActG.eta, RatG.eta, LocG.eta, beq_true, beq_false, Z2q, Z34, Z2x, Z33, Z1e, Z12, Z1c, Z1d, Z11, Z10, Z0i, List.length_set, List.length_replicate, Z06, Int.reduceToNat, evLen, Z2h, Z48, Src.all, Src.len, Src.leaf, Src.leafN, Z3i, Z4h, joinV, Z0m, Z13, Z14, Z15, Z16, Z17, Z18, Z19, mkVec, drows, evMk, List.length_map, Z28, Z2b, List.take_length, List.take_left, List.length_append, Nat.le_add_right, ite_self, List.take_of_length_le, Z3n, intOr, Z4e, Option.isSome_none, Option.isSome_some, Nat.sub_zero, Z4f, loadT, Z4j, evUn, Z1g, Z1h, binT, binQ, chk, Z42, List.contains_cons, List.contains_nil, Bool.or_false, Bool.false_or, Bool.and_self, resQ, resV, resT, pickV, Z2f, Z4k, Z3k, fnOf, Z3g, isD, HO.drow, Z4m, Z46, evEq, eqV, eqK, eqC1, Z4d, Z4b, Z3h, Z3f, lens_I, Z3x, Z32, Z21, Z31, Z20, Z30, Z1z, Z22, Z1a, Z1b, Z0j, List.mem_cons, List.not_mem_nil, or_false, forall_eq, putRow, Z3m, Z1n, RetS, RetF, RetD, AV.frz, AV.frzL, AV.freshP, AV.freshL, DV.less, Z2r, Z23, Z2s, Z24, Z0l, Z0b, Option.some.injEq, AV.tup.injEq, AV.agg.injEq, List.cons.injEq, DV.list.injEq, List.isEmpty_nil, Nat.le_refl, AV.d.injEq, DV.int.injEq, DV.bool.injEq, ↓reduceIte, Nat.reduceEqDiff, Nat.reduceAdd, Nat.reduceBEq, List.length_cons, List.length_nil, List.replicate_succ, List.replicate_zero, List.nil_append, List.cons_append, List.append_nil, List.foldl_cons, List.foldl_nil, List.map_cons, List.map_nil, List.all_cons, List.all_nil, List.set_cons_zero, List.set_cons_succ, List.getD_cons_zero, List.getD_cons_succ, List.drop_zero, List.drop_succ_cons, List.take_succ_cons, List.take_zero, List.flatten_cons, List.flatten_nil, Bool.true_and, Bool.and_true, Bool.not_true, Bool.not_false, true_and, and_true, true_or, or_true, Option.bind_some, Option.map_some, decide_true, decide_false, beq_self_eq_true, true_implies, false_implies, implies_true, not_true_eq_false, not_false_eq_true, and_self, Bool.and_false, Bool.false_and, Nat.reduceLT, Nat.reduceLeDiff, List.reverse_cons, List.reverse_nil, Nat.zero_add, Nat.add_zero, Bool.false_eq_true, List.getElem?_cons_zero, Nat.reduceMul, Nat.mul_one, DeedG.row, Z45, Z2j, Z1v, Z3q, Z3d, idx_LA, Z3s, Z3r, idx_LI, Z3u, Z3t]
  refine ⟨fun e => ⟨⟨by omega, by omega⟩, fun e2 => ?_, fun e2 => ?_⟩, fun e => ?_⟩
  · unfold smallF
    rw [all_at (l := acts) (i := i) (by omega) (decide_eq_false (by omega))]; simp
  · rw [wrap_succ (n := acts.length) (by omega) h1]
    exact Z2v.mk [] (i + 1) (by simp) (by simp) (by simp only [State.can, AV.can, AV.canL, HO.can, Z25, idx, Z02, Z00, Heap.at, Nat.reduceBEq, ↓reduceIte, Nat.reduceEqDiff, Option.getD_some, Option.map_some, List.map_cons, List.map_nil, List.getD_cons_zero, List.getD_cons_succ]) ⟨by omega, fun j hj' => by
      by_cases h : j = i
      · rw [h]; omega
      · exact hj j (by omega)⟩ (by omega)
  · have ei : i = acts.length := by omega
    refine Loop.fam [3, 10] (fun i : Nat => ⟨[(3, .d (.list (order.map rowLI) og)), (10, .d (.int .i64 i))], []⟩) (fun i => i ≤ order.length ∧ ∀ j, j < i → (order.getD j default).1.length ≤ 100) (fun i => order.length - i) 0 [] (by simp) (by simp) (by simp only [State.can, AV.can, AV.canL, HO.can, Z25, idx, Z02, Z00, Heap.at, Nat.reduceBEq, ↓reduceIte, Nat.reduceEqDiff, Option.getD_some, Option.map_some, List.map_cons, List.map_nil, List.getD_cons_zero, List.getD_cons_succ]; rfl) ⟨by omega, by omega⟩ ?_
    rintro k ⟨hk, hq⟩
    simp (maxSteps := 3000000) only [↓Z0p, ↓Z1l, ↓Z1t, ↓Z04, ↓Z2u, ↓Z2t, nilG_d, nilG_r, ↓Z0z, ↓Z0o, ↓Z0f, ↓Z1u, ↓Z0e, ↓Z0x, ↓Z36, ↓Z2p, ↓Z1w, ↓Z1p, ↓Z2y, ↓Z2d, ↓Z0w, ↓Z3c, ↓retK_n, ↓Z3y, ↓Z40, ↓Z3z, ↓Z49, ↓Z44, ↓Z4i, ↓Z0h, ↓Z08, ↓Z0s, ↓Z0d, ↓Z1q, Z47, Z07, Z1i, Z2k, Z1f, Z2n, evN, Z2g, Z0v, Z2m, Z4c, Z0u, Z0n, Z0q, Z35, Z2o, Z2c, Z1r, Z26, evT, Opd.ev, Z02, Z00, Z2l, Z4a, Z3l, Z29, Z1x, Z1s, Z27, Z3w, Z0y, Z0a, Z3e, LOp.isNew, State.prune, Z3p, Z2w, AV.leaf, Heap.at, Z0g, Z09, Z1j, Z0k, Z03, idx_I, idx_W, rowW, Z2i, Z37, Z2a, Z1o, rowB, Z3a, Z38, rowN, lens_W, Z41, Z1k, Z0t, w_or, w_and, Z3b, w_and1, w_shl, Z4g, w_shr, w_sub1, w_neg, w_add, w_bit, w_eq0, w_eq1, w_eq, Bool.decide_eq_true, Z3o, Z3j, Z3v, Z2z, Z1y, Z05, Z0c, Z0r, Z01, Z1m, rowI, RatG.row, LocG.row, ActG.row, StepG.row, StampG.row, ActG.av, ActG.eta, RatG.eta, LocG.eta, beq_true, beq_false, Z2q, Z34, Z2x, Z33, Z1e, Z12, Z1c, Z1d, Z11, Z10, Z0i, List.length_set, List.length_replicate, Z06, Int.reduceToNat, evLen, Z2h, Z48, Src.all, Src.len, Src.leaf, Src.leafN, Z3i, Z4h, joinV, Z0m, Z13, Z14, Z15, Z16, Z17, Z18, Z19, mkVec, drows, evMk, List.length_map, Z28, Z2b, List.take_length, List.take_left, List.length_append, Nat.le_add_right, ite_self, List.take_of_length_le, Z3n, intOr, Z4e, Option.isSome_none, Option.isSome_some, Nat.sub_zero, Z4f, loadT, Z4j, evUn, Z1g, Z1h, binT, binQ, chk, Z42, List.contains_cons, List.contains_nil, Bool.or_false, Bool.false_or, Bool.and_self, resQ, resV, resT, pickV, Z2f, Z4k, Z3k, fnOf, Z3g, isD, HO.drow, Z4m, Z46, evEq, eqV, eqK, eqC1, Z4d, Z4b, Z3h, Z3f, lens_I, Z3x, Z32, Z21, Z31, Z20, Z30, Z1z, Z22, Z1a, Z1b, Z0j, List.mem_cons, List.not_mem_nil, or_false, forall_eq, putRow, Z3m, Z1n, RetS, RetF, RetD, AV.frz, AV.frzL, AV.freshP, AV.freshL, DV.less, Z2r, Z23, Z2s, Z24, Z0l, Z0b, Option.some.injEq, AV.tup.injEq, AV.agg.injEq, List.cons.injEq, DV.list.injEq, List.isEmpty_nil, Nat.le_refl, AV.d.injEq, DV.int.injEq, DV.bool.injEq, ↓reduceIte, Nat.reduceEqDiff, Nat.reduceAdd, Nat.reduceBEq, List.length_cons, List.length_nil, List.replicate_succ, List.replicate_zero, List.nil_append, List.cons_append, List.append_nil, List.foldl_cons, List.foldl_nil, List.map_cons, List.map_nil, List.all_cons, List.all_nil, List.set_cons_zero, List.set_cons_succ, List.getD_cons_zero, List.getD_cons_succ, List.drop_zero, List.drop_succ_cons, List.take_succ_cons, List.take_zero, List.flatten_cons, List.flatten_nil, Bool.true_and, Bool.and_true, Bool.not_true, Bool.not_false, true_and, and_true, true_or, or_true, Option.bind_some, Option.map_some, decide_true, decide_false, beq_self_eq_true, true_implies, false_implies, implies_true, not_true_eq_false, not_false_eq_true, and_self, Bool.and_false, Bool.false_and, Nat.reduceLT, Nat.reduceLeDiff, List.reverse_cons, List.reverse_nil, Nat.zero_add, Nat.add_zero, Bool.false_eq_true, List.getElem?_cons_zero, Nat.reduceMul, Nat.mul_one, DeedG.row, Z45, Z2j, Z1v, Z3q, Z3d, idx_LA, Z3s, Z3r, idx_LI, Z3u, Z3t]
    refine ⟨fun e => ⟨⟨by omega, by omega⟩, fun e2 => ?_, fun e2 => ?_⟩, fun e => ?_⟩
    · unfold smallF
      rw [all_at (l := order) (i := k) (by omega) (decide_eq_false (by omega))]; simp
    · rw [wrap_succ (n := order.length) (by omega) h2]
      exact Z2v.mk [] (k + 1) (by simp) (by simp) (by simp only [State.can, AV.can, AV.canL, HO.can, Z25, idx, Z02, Z00, Heap.at, Nat.reduceBEq, ↓reduceIte, Nat.reduceEqDiff, Option.getD_some, Option.map_some, List.map_cons, List.map_nil, List.getD_cons_zero, List.getD_cons_succ]) ⟨by omega, fun j hj' => by
        by_cases h : j = k
        · rw [h]; omega
        · exact hq j (by omega)⟩ (by omega)
    · unfold smallF
      rw [all_yes (l := acts) (fun j hj' => decide_eq_true (hj j (by omega))), all_yes (l := order) (fun j hj' => decide_eq_true (hq j (by omega)))]
      rw [decide_eq_true (show l.length ≤ 20 by omega), decide_eq_true (show acts.length ≤ 5 by omega), decide_eq_true (show fr.length ≤ 100 by omega), decide_eq_true (show order.length ≤ 20 by omega)]; rfl
/-! ### awake -/
def awl : List LocG := [⟨false, 0⟩]
def awacts : List (List ActG × Bool) := [([⟨2, 0, 0, 1⟩], false), ([⟨1, 0, 1, 0⟩, ⟨1, 0, 0, 0⟩], false)]
def awfr : List Int := [1, 0]
def aword : List (List Int × Bool) := [([1], false)]
def awD : List DeedG := [⟨-1, ⟨2, 0, 0, 0⟩⟩, ⟨0, ⟨2, 0, 0, 1⟩⟩, ⟨1, ⟨1, 0, 1, 0⟩⟩, ⟨1, ⟨1, 0, 0, 0⟩⟩]
def awX : WG := ⟨awl, false, awD, false, [8#64, 4#64, 0#64, 0#64], false, [2#64, 0#64, 0#64, 0#64], false⟩
theorem aw_sort : sortI [1] = [1] := by unfold sortI; simp
theorem aw_deeds : deedsG awl awacts = (awD, 0) := by decide +kernel
theorem aw_rd : rdG awD awfr 4 = some ([], [⟨1, 2⟩, ⟨0, 3⟩]) := by decide +kernel
theorem aw_co : coG awD 1 aword 1 = some [⟨0, 1⟩] := by
  unfold coG
  have h : coG awD 1 aword 0 = some [] := rfl
  rw [h]
  have h2 : (aword.getD 0 default).1 = [1] := rfl
  simp only [h2, aw_sort]
  rw [if_pos (by decide +kernel)]
  decide +kernel
theorem aw_rf : ofG 4 [⟨1, 2⟩, ⟨0, 3⟩] = [8#64, 4#64, 0#64, 0#64] := by decide +kernel
theorem aw_co2 : ofG 4 [⟨0, 1⟩] = [2#64, 0#64, 0#64, 0#64] := by decide +kernel
theorem aw_build : buildG awl awacts awfr aword = (awX, 0) := by
  unfold buildG
  rw [aw_deeds]
  simp only [show awD.length = 4 from rfl, aw_rd, show awl.length = 1 from rfl, show aword.length = 1 from rfl, aw_co]
  simp only [ne_eq, not_true, if_false, or_self]
  rw [show ((4 : Nat) : Int) = 4 from rfl, aw_rf, aw_co2]; rfl
theorem aw_ok : awX.Ok := ⟨by decide, ⟨by decide +kernel⟩, ⟨by decide +kernel⟩⟩
theorem aw_chk : chkW awX = 0 := by decide +kernel
theorem aw_fr : hasI (frW awX) 3 1 = true := by decide +kernel
theorem aw_ord : hasI (ordW awX) 2 3 = true := by decide +kernel
theorem aw_small : smallB awl awacts awfr aword := by
  refine ⟨⟨by decide, by decide, by decide⟩, by decide, by decide, by decide⟩
theorem aw_at : sp_Build.at [.d (.list [[.bool false, .int .i64 0]] false), .d (.list [[.list [[.int .i64 2, .int .i64 0, .int .i64 0, .int .i64 1]] false], [.list [[.int .i64 1, .int .i64 0, .int .i64 1, .int .i64 0], [.int .i64 1, .int .i64 0, .int .i64 0, .int .i64 0]] false]] false),
    .d (.list [[.int .i64 1], [.int .i64 0]] false), .d (.list [[.list [[.int .i64 1]] false]] false)] =
    .data True (.tup [.agg [.d (.list (awX.locs.map LocG.row) awX.lf), .d (.list (awX.deeds.map DeedG.row) awX.df), .d (.list (awX.rf.map rowW) awX.rff), .d (.list (awX.co.map rowW) awX.cof)], .d (.int .i64 0)]) false := by
  have h := at_Build awl false awacts false awfr false aword false
  rw [aw_build, show smallB awl awacts awfr aword = True from eq_true aw_small] at h
  exact h
theorem at_chkWX (x : WG) : sp_chkW.at [.agg [.d (.list (x.locs.map LocG.row) x.lf), .d (.list (x.deeds.map DeedG.row) x.df), .d (.list (x.rf.map rowW) x.rff), .d (.list (x.co.map rowW) x.cof)]] = .data x.Ok (.d (.int .i64 (chkW x))) true := at_chkW x
theorem aw_dl : awX.deeds.length = 4 := rfl
theorem body_law23_awake {T : Tab} {n1 n2 n3 n4 n5 : Nat} (k1 : Knows T n1 sp_Build) (k2 : Knows T n2 sp_chkW) (k3 : Knows T n3 sp_orderW) (k4 : Knows T n4 sp_frW) (k5 : Knows T n5 sp_Has) : sp_true.Body T V_law23_awake (L_law23_awake n1 n2 n3 n4 n5) R_law23_awake := by
  have F1 := k1.F; have G1 := k1.G; have F2 := k2.F; have G2 := k2.G; have F3 := k3.F; have G3 := k3.G; have F4 := k4.F; have G4 := k4.G; have F5 := k5.F; have G5 := k5.G
  rintro x -
  refine .inl ⟨rfl, ?_⟩
  unfold V_law23_awake L_law23_awake R_law23_awake
  simp (maxSteps := 3000000) only [↓Z0p, ↓Z1l, ↓Z1t, ↓Z04, ↓Z2u, ↓Z2t, nilG_d, nilG_r, ↓Z0z, ↓Z0o, ↓Z0f, ↓Z1u, ↓Z0e, ↓Z0x, ↓Z36, ↓Z2p, ↓Z1w, ↓Z1p, ↓Z2y, ↓Z2d, ↓Z0w, ↓Z3c, ↓retK_n, ↓Z3y, ↓Z40, ↓Z3z, ↓Z49, ↓Z44, ↓Z4i, ↓Z0h, ↓Z08, ↓Z0s, ↓Z0d, ↓Z1q, Z47, Z07, Z1i, Z2k, Z1f, Z2n, evN, Z2g, Z0v, Z2m, Z4c, Z0u, Z0n, Z0q, Z35, Z2o, Z2c, Z1r, Z26, evT, Opd.ev, Z02, Z00, Z2l, Z4a, Z3l, Z29, Z1x, Z1s, Z27, Z3w, Z0y, Z0a, Z3e, LOp.isNew, State.prune, Z3p, Z2w, AV.leaf, Heap.at, Z0g, Z09, Z1j, Z0k, Z03, idx_I, idx_W, rowW, Z2i, Z37, Z2a, Z1o, rowB, Z3a, Z38, rowN, lens_W, Z41, Z1k, Z0t, w_or, w_and, Z3b, w_and1, w_shl, Z4g, w_shr, w_sub1, w_neg, w_add, w_bit, w_eq0, w_eq1, w_eq, Bool.decide_eq_true, Z3o, Z3j, Z3v, Z2z, Z1y, Z05, Z0c, Z0r, Z01, Z1m, rowI, RatG.row, LocG.row, ActG.row, StepG.row, StampG.row, ActG.av, ActG.eta, RatG.eta, LocG.eta, beq_true, beq_false, Z2q, Z34, Z2x, Z33, Z1e, Z12, Z1c, Z1d, Z11, Z10, Z0i, List.length_set, List.length_replicate, Z06, Int.reduceToNat, evLen, Z2h, Z48, Src.all, Src.len, Src.leaf, Src.leafN, Z3i, Z4h, joinV, Z0m, Z13, Z14, Z15, Z16, Z17, Z18, Z19, mkVec, drows, evMk, List.length_map, Z28, Z2b, List.take_length, List.take_left, List.length_append, Nat.le_add_right, ite_self, List.take_of_length_le, Z3n, intOr, Z4e, Option.isSome_none, Option.isSome_some, Nat.sub_zero, Z4f, loadT, Z4j, evUn, Z1g, Z1h, binT, binQ, chk, Z42, List.contains_cons, List.contains_nil, Bool.or_false, Bool.false_or, Bool.and_self, resQ, resV, resT, pickV, Z2f, Z4k, Z3k, fnOf, Z3g, isD, HO.drow, Z4m, Z46, evEq, eqV, eqK, eqC1, Z4d, Z4b, Z3h, Z3f, lens_I, Z3x, Z32, Z21, Z31, Z20, Z30, Z1z, Z22, Z1a, Z1b, Z0j, List.mem_cons, List.not_mem_nil, or_false, forall_eq, putRow, Z3m, Z1n, RetS, RetF, RetD, AV.frz, AV.frzL, AV.freshP, AV.freshL, DV.less, Z2r, Z23, Z2s, Z24, Z0l, Z0b, Option.some.injEq, AV.tup.injEq, AV.agg.injEq, List.cons.injEq, DV.list.injEq, List.isEmpty_nil, Nat.le_refl, AV.d.injEq, DV.int.injEq, DV.bool.injEq, ↓reduceIte, Nat.reduceEqDiff, Nat.reduceAdd, Nat.reduceBEq, List.length_cons, List.length_nil, List.replicate_succ, List.replicate_zero, List.nil_append, List.cons_append, List.append_nil, List.foldl_cons, List.foldl_nil, List.map_cons, List.map_nil, List.all_cons, List.all_nil, List.set_cons_zero, List.set_cons_succ, List.getD_cons_zero, List.getD_cons_succ, List.drop_zero, List.drop_succ_cons, List.take_succ_cons, List.take_zero, List.flatten_cons, List.flatten_nil, Bool.true_and, Bool.and_true, Bool.not_true, Bool.not_false, true_and, and_true, true_or, or_true, Option.bind_some, Option.map_some, decide_true, decide_false, beq_self_eq_true, true_implies, false_implies, implies_true, not_true_eq_false, not_false_eq_true, and_self, Bool.and_false, Bool.false_and, Nat.reduceLT, Nat.reduceLeDiff, List.reverse_cons, List.reverse_nil, Nat.zero_add, Nat.add_zero, Bool.false_eq_true, List.getElem?_cons_zero, Nat.reduceMul, Nat.mul_one, DeedG.row, Z45, Z2j, Z1v, Z3q, Z3d, idx_LA, Z3s, Z3r, idx_LI, Z3u, Z3t, Option.bind_none, Option.bind_some, vrowsT, vcellsT, vcellT, List.take_succ_cons, List.take_zero, List.drop_zero, aw_at, at_chkWX, at_orderWX, at_frWX, at_Has, aw_ok, aw_chk, aw_fr, aw_ord, aw_dl, sp_true, F1, G1, F2, G2, F3, G3, F4, G4, F5, G5]
  have e1 : (frW awX).length = 4 := by unfold frW; rw [mkR_len]; rfl
  have e2 : (ordW awX).length = 4 := by unfold ordW plusG; rw [mkR_len]; rfl
  exact ⟨⟨by omega, by omega, roomy_of (by omega) (by omega)⟩, fun _ => ⟨by rw [e1]; decide, by rw [e2]; decide⟩, fun h => h rfl⟩
end Go.Ago

/- The law AxiomTurns. Conditions: none. -/
set_option maxRecDepth 100000
set_option linter.unusedSimpArgs false
set_option linter.unusedVariables false
namespace Go.Ago
attribute [local irreducible] vck
abbrev shLA : Sh := .sl shAct
abbrev shLI : Sh := .sl (.int .i64)
theorem has_LA {r : List DV} (h : shLA.has r) : ∃ x : List ActG × Bool, r = rowLA x ∧ (x.1.length ≤ maxLen ∧ ∀ a ∈ x.1, a.inn) := by
  obtain ⟨l, f, rfl, h1, hl⟩ := has_list (f := ActG.row) (ok := ActG.inn) (fun _ h => has_act h) h
  exact ⟨(l, f), rfl, hl, h1⟩
theorem has_LI {r : List DV} (h : shLI.has r) : ∃ x : List Int × Bool, r = rowLI x ∧ (x.1.length ≤ maxLen ∧ ∀ a ∈ x.1, inI a) := by
  obtain ⟨l, f, rfl, h1, hl⟩ := has_list (f := rowI) (ok := inI) (fun _ h => has_i64 h) h
  exact ⟨(l, f), rfl, hl, h1⟩
end Go.Ago

/- The reference of layer 23: the deeds. Conditions: none. -/
set_option maxRecDepth 100000
set_option linter.unusedSimpArgs false
set_option linter.unusedVariables false
namespace Go.Ago
attribute [local irreducible] vck
def eSt1 (l : List LocG) (f : Bool) (acts : List (List ActG × Bool)) (g : Bool) (i : Nat) : State :=
  ⟨[(0, .d (.list (l.map LocG.row) f)), (1, .d (.list (acts.map rowLA) g)), (6, .ref 0 5 0 (initL l i).length true), (7, .d (.int .i64 i))], [.dvec 5 ((initL l i).map DeedG.row)]⟩
def eSt2 (l : List LocG) (f : Bool) (acts : List (List ActG × Bool)) (g : Bool) (x : Nat × List DeedG) : State :=
  ⟨[(0, .d (.list (l.map LocG.row) f)), (1, .d (.list (acts.map rowLA) g)), (6, .ref 0 5 0 x.2.length true), (9, .d (.int .i64 x.1))], [.dvec 5 (x.2.map DeedG.row)]⟩
def eSt3 (l : List LocG) (f : Bool) (acts : List (List ActG × Bool)) (g : Bool) (t : Nat) (x : Nat × List DeedG) : State :=
  ⟨[(0, .d (.list (l.map LocG.row) f)), (1, .d (.list (acts.map rowLA) g)), (6, .ref 0 5 0 x.2.length true), (9, .d (.int .i64 t)), (10, .d (.int .i64 x.1))], [.dvec 5 (x.2.map DeedG.row)]⟩
def eInv2 (l : List LocG) (acts : List (List ActG × Bool)) (x : Nat × List DeedG) : Prop :=
  x.1 ≤ acts.length ∧ (∀ i, i < x.1 → (acts.getD i default).1.all (fun a => a.right l) = true) ∧ x.2 = initL l l.length ++ keptTo acts x.1
def eInv3 (l : List LocG) (acts : List (List ActG × Bool)) (t : Nat) (x : Nat × List DeedG) : Prop :=
  x.1 ≤ (acts.getD t default).1.length ∧ (∀ i, i < x.1 → ((acts.getD t default).1.getD i default).right l = true) ∧ x.2 = initL l l.length ++ (keptTo acts t ++ keepD t ((acts.getD t default).1.take x.1))
set_option maxHeartbeats 4000000 in
theorem body_ref23_Deeds {T : Tab} {n1 : Nat} (k1 : Knows T n1 sp_act_Right) : sp_Deeds.Body T V_ref23_Deeds (L_ref23_Deeds n1) R_ref23_Deeds := by
  have F1 := k1.F; have G1 := k1.G
  rintro ⟨l, f, acts, g⟩ ⟨h1, h2, h3⟩
  have h1 : l.length ≤ 20 := h1
  have h2 : acts.length ≤ 5 := h2
  have h3 : ∀ x ∈ acts, x.1.length ≤ 70 := h3
  refine ⟨rfl, ?_⟩
  unfold V_ref23_Deeds L_ref23_Deeds R_ref23_Deeds
  simp (maxSteps := 3000000) only [↓Z0p, ↓Z1l, ↓Z1t, ↓Z04, ↓Z2u, ↓Z2t, nilG_d, nilG_r, ↓Z0z, ↓Z0o, ↓Z0f, ↓Z1u, ↓Z0e, ↓Z0x, ↓Z36, ↓Z2p, ↓Z1w, ↓Z1p, ↓Z2y, ↓Z2d, ↓Z0w, ↓Z3c, ↓retK_n, ↓Z3y, ↓Z40, ↓Z3z, ↓Z49, ↓Z44, ↓Z4i, ↓Z0h, ↓Z08, ↓Z0s, ↓Z0d, ↓Z1q, Z47, Z07, Z1i, Z2k, Z1f, Z2n, evN, Z2g, Z0v, Z2m, Z4c, Z0u, Z0n, Z0q, Z35, Z2o, Z2c, Z1r, Z26, evT, Opd.ev, Z02, Z00, Z2l, Z4a, Z3l, Z29, Z1x, Z1s, Z27, Z3w, Z0y, Z0a, Z3e, LOp.isNew, State.prune, Z3p, Z2w, AV.leaf, Heap.at, Z0g, Z09, Z1j, Z0k, Z03, idx_I, idx_W, rowW, Z2i, Z37, Z2a, Z1o, rowB, Z3a, Z38, rowN, lens_W, Z41, Z1k, Z0t, w_or, w_and, Z3b, w_and1, w_shl, Z4g, w_shr, w_sub1, w_neg, w_add, w_bit, w_eq0, w_eq1, w_eq, Bool.decide_eq_true, Z3o, Z3j, Z3v, Z2z, Z1y, Z05, Z0c, Z0r, Z01, Z1m, rowI, RatG.row, LocG.row, ActG.row, StepG.row, StampG.row, ActG.av, ActG.eta, RatG.eta, LocG.eta, beq_true, beq_false, Z2q, Z34, Z2x, Z33, Z1e, Z12, Z1c, Z1d, Z11, Z10, Z0i, List.length_set, List.length_replicate, Z06, Int.reduceToNat, evLen, Z2h, Z48, Src.all, Src.len, Src.leaf, Src.leafN, Z3i, Z4h, joinV, Z0m, Z13, Z14, Z15, Z16, Z17, Z18, Z19, mkVec, drows, evMk, List.length_map, Z28, Z2b, List.take_length, List.take_left, List.length_append, Nat.le_add_right, ite_self, List.take_of_length_le, Z3n, intOr, Z4e, Option.isSome_none, Option.isSome_some, Nat.sub_zero, Z4f, loadT, Z4j, evUn, Z1g, Z1h, binT, binQ, chk, Z42, List.contains_cons, List.contains_nil, Bool.or_false, Bool.false_or, Bool.and_self, resQ, resV, resT, pickV, Z2f, Z4k, Z3k, fnOf, Z3g, isD, HO.drow, Z4m, Z46, evEq, eqV, eqK, eqC1, Z4d, Z4b, Z3h, Z3f, lens_I, Z3x, Z32, Z21, Z31, Z20, Z30, Z1z, Z22, Z1a, Z1b, Z0j, List.mem_cons, List.not_mem_nil, or_false, forall_eq, putRow, Z3m, Z1n, RetS, RetF, RetD, AV.frz, AV.frzL, AV.freshP, AV.freshL, DV.less, Z2r, Z23, Z2s, Z24, Z0l, Z0b, Option.some.injEq, AV.tup.injEq, AV.agg.injEq, List.cons.injEq, DV.list.injEq, List.isEmpty_nil, Nat.le_refl, AV.d.injEq, DV.int.injEq, DV.bool.injEq, ↓reduceIte, Nat.reduceEqDiff, Nat.reduceAdd, Nat.reduceBEq, List.length_cons, List.length_nil, List.replicate_succ, List.replicate_zero, List.nil_append, List.cons_append, List.append_nil, List.foldl_cons, List.foldl_nil, List.map_cons, List.map_nil, List.all_cons, List.all_nil, List.set_cons_zero, List.set_cons_succ, List.getD_cons_zero, List.getD_cons_succ, List.drop_zero, List.drop_succ_cons, List.take_succ_cons, List.take_zero, List.flatten_cons, List.flatten_nil, Bool.true_and, Bool.and_true, Bool.not_true, Bool.not_false, true_and, and_true, true_or, or_true, Option.bind_some, Option.map_some, decide_true, decide_false, beq_self_eq_true, true_implies, false_implies, implies_true, not_true_eq_false, not_false_eq_true, and_self, Bool.and_false, Bool.false_and, Nat.reduceLT, Nat.reduceLeDiff, List.reverse_cons, List.reverse_nil, Nat.zero_add, Nat.add_zero, Bool.false_eq_true, List.getElem?_cons_zero, Nat.reduceMul, Nat.mul_one, DeedG.row, Z45, Z2j, Z1v, Z3q, Z3d, idx_LA, Z3s, Z3r, idx_LI, Z3u, Z3t, sp_Deeds, F1, G1, at_act_Right]
  have e16 : 16 < l.length → deedsG l acts = ([], 1) := fun h => by unfold deedsG; rw [if_pos (.inl h)]
  have e3 : 3 < acts.length → deedsG l acts = ([], 1) := fun h => by unfold deedsG; rw [if_pos (.inr h)]
  refine ⟨fun c => by rw [e16 (by omega)]; exact ⟨rfl, rfl⟩, fun c => ⟨fun c2 => by rw [e3 (by omega)]; exact ⟨rfl, rfl⟩, fun c2 => ?_⟩⟩
  have c : l.length ≤ 16 := by omega
  have c2 : acts.length ≤ 3 := by omega
  refine Loop.nilref 6 5 rfl (Nat.zero_le _) ?_
  refine Loop.fam [0, 1, 6, 7] (eSt1 l f acts g) (fun i => i ≤ l.length) (fun i => l.length - i) 0 [0] (by simp) (by simp) (by simp only [List.length_nil, List.nil_append, State.can, AV.can, AV.canL, HO.can, Z25, idx, Z02, Z00, Heap.at, Nat.reduceBEq, ↓reduceIte, Nat.reduceEqDiff, Option.getD_some, Option.map_some, List.map_cons, List.map_nil, List.getD_cons_zero, List.getD_cons_succ, eSt1]; rfl) (by omega) ?_
  intro i hi
  have hi : i ≤ l.length := hi
  simp (maxSteps := 3000000) only [↓Z0p, ↓Z1l, ↓Z1t, ↓Z04, ↓Z2u, ↓Z2t, nilG_d, nilG_r, ↓Z0z, ↓Z0o, ↓Z0f, ↓Z1u, ↓Z0e, ↓Z0x, ↓Z36, ↓Z2p, ↓Z1w, ↓Z1p, ↓Z2y, ↓Z2d, ↓Z0w, ↓Z3c, ↓retK_n, ↓Z3y, ↓Z40, ↓Z3z, ↓Z49, ↓Z44, ↓Z4i, ↓Z0h, ↓Z08, ↓Z0s, ↓Z0d, ↓Z1q, Z47, Z07, Z1i, Z2k, Z1f, Z2n, evN, Z2g, Z0v, Z2m, Z4c, Z0u, Z0n, Z0q, Z35, Z2o, Z2c, Z1r, Z26, evT, Opd.ev, Z02, Z00, Z2l, Z4a, Z3l, Z29, Z1x, Z1s, Z27, Z3w, Z0y, Z0a, Z3e, LOp.isNew, State.prune, Z3p, Z2w, AV.leaf, Heap.at, Z0g, Z09, Z1j, Z0k, Z03, idx_I, idx_W, rowW, Z2i, Z37, Z2a, Z1o, rowB, Z3a, Z38, rowN, lens_W, Z41, Z1k, Z0t, w_or, w_and, Z3b, w_and1, w_shl, Z4g, w_shr, w_sub1, w_neg, w_add, w_bit, w_eq0, w_eq1, w_eq, Bool.decide_eq_true, Z3o, Z3j, Z3v, Z2z, Z1y, Z05, Z0c, Z0r, Z01, Z1m, rowI, RatG.row, LocG.row, ActG.row, StepG.row, StampG.row, ActG.av, ActG.eta, RatG.eta, LocG.eta, beq_true, beq_false, Z2q, Z34, Z2x, Z33, Z1e, Z12, Z1c, Z1d, Z11, Z10, Z0i, List.length_set, List.length_replicate, Z06, Int.reduceToNat, evLen, Z2h, Z48, Src.all, Src.len, Src.leaf, Src.leafN, Z3i, Z4h, joinV, Z0m, Z13, Z14, Z15, Z16, Z17, Z18, Z19, mkVec, drows, evMk, List.length_map, Z28, Z2b, List.take_length, List.take_left, List.length_append, Nat.le_add_right, ite_self, List.take_of_length_le, Z3n, intOr, Z4e, Option.isSome_none, Option.isSome_some, Nat.sub_zero, Z4f, loadT, Z4j, evUn, Z1g, Z1h, binT, binQ, chk, Z42, List.contains_cons, List.contains_nil, Bool.or_false, Bool.false_or, Bool.and_self, resQ, resV, resT, pickV, Z2f, Z4k, Z3k, fnOf, Z3g, isD, HO.drow, Z4m, Z46, evEq, eqV, eqK, eqC1, Z4d, Z4b, Z3h, Z3f, lens_I, Z3x, Z32, Z21, Z31, Z20, Z30, Z1z, Z22, Z1a, Z1b, Z0j, List.mem_cons, List.not_mem_nil, or_false, forall_eq, putRow, Z3m, Z1n, RetS, RetF, RetD, AV.frz, AV.frzL, AV.freshP, AV.freshL, DV.less, Z2r, Z23, Z2s, Z24, Z0l, Z0b, Option.some.injEq, AV.tup.injEq, AV.agg.injEq, List.cons.injEq, DV.list.injEq, List.isEmpty_nil, Nat.le_refl, AV.d.injEq, DV.int.injEq, DV.bool.injEq, ↓reduceIte, Nat.reduceEqDiff, Nat.reduceAdd, Nat.reduceBEq, List.length_cons, List.length_nil, List.replicate_succ, List.replicate_zero, List.nil_append, List.cons_append, List.append_nil, List.foldl_cons, List.foldl_nil, List.map_cons, List.map_nil, List.all_cons, List.all_nil, List.set_cons_zero, List.set_cons_succ, List.getD_cons_zero, List.getD_cons_succ, List.drop_zero, List.drop_succ_cons, List.take_succ_cons, List.take_zero, List.flatten_cons, List.flatten_nil, Bool.true_and, Bool.and_true, Bool.not_true, Bool.not_false, true_and, and_true, true_or, or_true, Option.bind_some, Option.map_some, decide_true, decide_false, beq_self_eq_true, true_implies, false_implies, implies_true, not_true_eq_false, not_false_eq_true, and_self, Bool.and_false, Bool.false_and, Nat.reduceLT, Nat.reduceLeDiff, List.reverse_cons, List.reverse_nil, Nat.zero_add, Nat.add_zero, Bool.false_eq_true, List.getElem?_cons_zero, Nat.reduceMul, Nat.mul_one, DeedG.row, Z45, Z2j, Z1v, Z3q, Z3d, idx_LA, Z3s, Z3r, idx_LI, Z3u, Z3t, eSt1, F1, G1, at_act_Right]
  refine ⟨fun d => ⟨⟨by omega, by omega⟩, ?_⟩, fun d => ?_⟩
  · have d' : i < l.length := by omega
    have hb1 : (0 ≤ (i : Int) ∧ (i : Int) < l.length) := by omega
    have hr : roomy ((initL l i).length + 1) 40 := roomy_of (by rw [initL_len]; omega) (by omega)
    have w1 : IntKind.i64.wrap ((i : Int) + 1) = ((i + 1 : Nat) : Int) := by rw [wrap_id (by omega) (by omega)]; omega
    rw [w1]
    have next : ∀ {S : State}, (2 < S.heap.length) → S.can [2] [0, 1, 6, 7] = ⟨[(0, .d (.list (l.map LocG.row) f)), (1, .d (.list (acts.map rowLA) g)), (6, .ref 0 5 0 (initL l i ++ [initD (l.getD i default) i]).length true), (7, .d (.int .i64 (i + 1 : Nat)))],
        [.dvec 5 ((initL l i ++ [initD (l.getD i default) i]).map DeedG.row)]⟩ → Z2v [0, 1, 6, 7] (eSt1 l f acts g) (fun i => i ≤ l.length) (fun i => l.length - i) (l.length - i) S := fun {S} hl hS =>
      Z2v.mk [2] (i + 1) (by simp) (by simpa using hl) (by rw [hS]; unfold eSt1; rw [initL_succ]) (by show i + 1 ≤ l.length; omega) (by show l.length - (i + 1) < l.length - i; omega)
    refine ⟨fun hb => ⟨hb1, hr, next (by simp) ?_⟩, fun hb => ⟨hb1, hr, next (by simp) ?_⟩⟩
    · unfold initD; rw [hb, if_pos rfl]
      simp only [State.can, AV.can, AV.canL, HO.can, Z25, idx, Z02, Z00, Heap.at, Nat.reduceBEq, ↓reduceIte, Nat.reduceEqDiff, Option.getD_some, Option.map_some, List.map_cons, List.map_nil, List.getD_cons_zero, List.getD_cons_succ, List.length_append, List.length_singleton]
    · unfold initD; rw [hb, if_neg (by simp)]
      simp only [State.can, AV.can, AV.canL, HO.can, Z25, idx, Z02, Z00, Heap.at, Nat.reduceBEq, ↓reduceIte, Nat.reduceEqDiff, Option.getD_some, Option.map_some, List.map_cons, List.map_nil, List.getD_cons_zero, List.getD_cons_succ, List.length_append, List.length_singleton]
  · have d' : i = l.length := by omega
    subst d'
    have hL := initL_len l l.length
    refine Loop.fam [0, 1, 6, 9] (eSt2 l f acts g) (eInv2 l acts) (fun x => acts.length - x.1) (0, initL l l.length) [0] (by simp) (by simp) (by simp only [State.can, AV.can, AV.canL, HO.can, Z25, idx, Z02, Z00, Heap.at, Nat.reduceBEq, ↓reduceIte, Nat.reduceEqDiff, Option.getD_some, Option.map_some, List.map_cons, List.map_nil, List.getD_cons_zero, List.getD_cons_succ, eSt2]; rfl)
      ⟨Nat.zero_le _, fun i hi => by omega, by simp [keptTo]⟩ ?_
    rintro ⟨t, O⟩ ⟨i1, i2, i4⟩
    have i1 : t ≤ acts.length := i1
    have i2 : ∀ i, i < t → (acts.getD i default).1.all (fun a => a.right l) = true := i2
    have i4 : O = initL l l.length ++ keptTo acts t := i4
    have hkt := keptTo_le h3 t i1
    simp (maxSteps := 3000000) only [↓Z0p, ↓Z1l, ↓Z1t, ↓Z04, ↓Z2u, ↓Z2t, nilG_d, nilG_r, ↓Z0z, ↓Z0o, ↓Z0f, ↓Z1u, ↓Z0e, ↓Z0x, ↓Z36, ↓Z2p, ↓Z1w, ↓Z1p, ↓Z2y, ↓Z2d, ↓Z0w, ↓Z3c, ↓retK_n, ↓Z3y, ↓Z40, ↓Z3z, ↓Z49, ↓Z44, ↓Z4i, ↓Z0h, ↓Z08, ↓Z0s, ↓Z0d, ↓Z1q, Z47, Z07, Z1i, Z2k, Z1f, Z2n, evN, Z2g, Z0v, Z2m, Z4c, Z0u, Z0n, Z0q, Z35, Z2o, Z2c, Z1r, Z26, evT, Opd.ev, Z02, Z00, Z2l, Z4a, Z3l, Z29, Z1x, Z1s, Z27, Z3w, Z0y, Z0a, Z3e, LOp.isNew, State.prune, Z3p, Z2w, AV.leaf, Heap.at, Z0g, Z09, Z1j, Z0k, Z03, idx_I, idx_W, rowW, Z2i, Z37, Z2a, Z1o, rowB, Z3a, Z38, rowN, lens_W, Z41, Z1k, Z0t, w_or, w_and, Z3b, w_and1, w_shl, Z4g, w_shr, w_sub1, w_neg, w_add, w_bit, w_eq0, w_eq1, w_eq, Bool.decide_eq_true, Z3o, Z3j, Z3v, Z2z, Z1y, Z05, Z0c, Z0r, Z01, Z1m, rowI, RatG.row, LocG.row, ActG.row, StepG.row, StampG.row, ActG.av, ActG.eta, RatG.eta, LocG.eta, beq_true, beq_false, Z2q, Z34, Z2x, Z33, Z1e, Z12, Z1c, Z1d, Z11, Z10, Z0i, List.length_set, List.length_replicate, Z06, Int.reduceToNat, evLen, Z2h, Z48, Src.all, Src.len, Src.leaf, Src.leafN, Z3i, Z4h, joinV, Z0m, Z13, Z14, Z15, Z16, Z17, Z18, Z19, mkVec, drows, evMk, List.length_map, Z28, Z2b, List.take_length, List.take_left, List.length_append, Nat.le_add_right, ite_self, List.take_of_length_le, Z3n, intOr, Z4e, Option.isSome_none, Option.isSome_some, Nat.sub_zero, Z4f, loadT, Z4j, evUn, Z1g, Z1h, binT, binQ, chk, Z42, List.contains_cons, List.contains_nil, Bool.or_false, Bool.false_or, Bool.and_self, resQ, resV, resT, pickV, Z2f, Z4k, Z3k, fnOf, Z3g, isD, HO.drow, Z4m, Z46, evEq, eqV, eqK, eqC1, Z4d, Z4b, Z3h, Z3f, lens_I, Z3x, Z32, Z21, Z31, Z20, Z30, Z1z, Z22, Z1a, Z1b, Z0j, List.mem_cons, List.not_mem_nil, or_false, forall_eq, putRow, Z3m, Z1n, RetS, RetF, RetD, AV.frz, AV.frzL, AV.freshP, AV.freshL, DV.less, Z2r, Z23, Z2s, Z24, Z0l, Z0b, Option.some.injEq, AV.tup.injEq, AV.agg.injEq, List.cons.injEq, DV.list.injEq, List.isEmpty_nil, Nat.le_refl, AV.d.injEq, DV.int.injEq, DV.bool.injEq, ↓reduceIte, Nat.reduceEqDiff, Nat.reduceAdd, Nat.reduceBEq, List.length_cons, List.length_nil, List.replicate_succ, List.replicate_zero, List.nil_append, List.cons_append, List.append_nil, List.foldl_cons, List.foldl_nil, List.map_cons, List.map_nil, List.all_cons, List.all_nil, List.set_cons_zero, List.set_cons_succ, List.getD_cons_zero, List.getD_cons_succ, List.drop_zero, List.drop_succ_cons, List.take_succ_cons, List.take_zero, List.flatten_cons, List.flatten_nil, Bool.true_and, Bool.and_true, Bool.not_true, Bool.not_false, true_and, and_true, true_or, or_true, Option.bind_some, Option.map_some, decide_true, decide_false, beq_self_eq_true, true_implies, false_implies, implies_true, not_true_eq_false, not_false_eq_true, and_self, Bool.and_false, Bool.false_and, Nat.reduceLT, Nat.reduceLeDiff, List.reverse_cons, List.reverse_nil, Nat.zero_add, Nat.add_zero, Bool.false_eq_true, List.getElem?_cons_zero, Nat.reduceMul, Nat.mul_one, DeedG.row, Z45, Z2j, Z1v, Z3q, Z3d, idx_LA, Z3s, Z3r, idx_LI, Z3u, Z3t, eSt2, F1, G1, at_act_Right]
    refine ⟨fun d => ?_, fun d => ?_⟩
    · have d' : t < acts.length := by omega
      have has : (acts.getD t default).1.length ≤ 70 := h3 (acts.getD t default) (by rw [getD_lt d']; exact List.getElem_mem d')
      refine Loop.fam [0, 1, 6, 9, 10] (eSt3 l f acts g t) (eInv3 l acts t) (fun x => (acts.getD t default).1.length - x.1) (0, O) [0] (by simp) (by simp) (by simp only [State.can, AV.can, AV.canL, HO.can, Z25, idx, Z02, Z00, Heap.at, Nat.reduceBEq, ↓reduceIte, Nat.reduceEqDiff, Option.getD_some, Option.map_some, List.map_cons, List.map_nil, List.getD_cons_zero, List.getD_cons_succ, eSt3]; rfl)
        ⟨Nat.zero_le _, fun i hi => by omega, by rw [i4]; simp [keepD]⟩ ?_
      rintro ⟨j, Q⟩ ⟨j1, j2, j4⟩
      have j1 : j ≤ (acts.getD t default).1.length := j1
      have j2 : ∀ i, i < j → ((acts.getD t default).1.getD i default).right l = true := j2
      have j4 : Q = initL l l.length ++ (keptTo acts t ++ keepD t ((acts.getD t default).1.take j)) := j4
      simp (maxSteps := 3000000) only [↓Z0p, ↓Z1l, ↓Z1t, ↓Z04, ↓Z2u, ↓Z2t, nilG_d, nilG_r, ↓Z0z, ↓Z0o, ↓Z0f, ↓Z1u, ↓Z0e, ↓Z0x, ↓Z36, ↓Z2p, ↓Z1w, ↓Z1p, ↓Z2y, ↓Z2d, ↓Z0w, ↓Z3c, ↓retK_n, ↓Z3y, ↓Z40, ↓Z3z, ↓Z49, ↓Z44, ↓Z4i, ↓Z0h, ↓Z08, ↓Z0s, ↓Z0d, ↓Z1q, Z47, Z07, Z1i, Z2k, Z1f, Z2n, evN, Z2g, Z0v, Z2m, Z4c, Z0u, Z0n, Z0q, Z35, Z2o, Z2c, Z1r, Z26, evT, Opd.ev, Z02, Z00, Z2l, Z4a, Z3l, Z29, Z1x, Z1s, Z27, Z3w, Z0y, Z0a, Z3e, LOp.isNew, State.prune, Z3p, Z2w, AV.leaf, Heap.at, Z0g, Z09, Z1j, Z0k, Z03, idx_I, idx_W, rowW, Z2i, Z37, Z2a, Z1o, rowB, Z3a, Z38, rowN, lens_W, Z41, Z1k, Z0t, w_or, w_and, Z3b, w_and1, w_shl, Z4g, w_shr, w_sub1, w_neg, w_add, w_bit, w_eq0, w_eq1, w_eq, Bool.decide_eq_true, Z3o, Z3j, Z3v, Z2z, Z1y, Z05, Z0c, Z0r, Z01, Z1m, rowI, RatG.row, LocG.row, ActG.row, StepG.row, StampG.row, ActG.av, ActG.eta, RatG.eta, LocG.eta, beq_true, beq_false, Z2q, Z34, Z2x, Z33, Z1e, Z12, Z1c, Z1d, Z11, Z10, Z0i, List.length_set, List.length_replicate, Z06, Int.reduceToNat, evLen, Z2h, Z48, Src.all, Src.len, Src.leaf, Src.leafN, Z3i, Z4h, joinV, Z0m, Z13, Z14, Z15, Z16, Z17, Z18, Z19, mkVec, drows, evMk, List.length_map, Z28, Z2b, List.take_length, List.take_left, List.length_append, Nat.le_add_right, ite_self, List.take_of_length_le, Z3n, intOr, Z4e, Option.isSome_none, Option.isSome_some, Nat.sub_zero, Z4f, loadT, Z4j, evUn, Z1g, Z1h, binT, binQ, chk, Z42, List.contains_cons, List.contains_nil, Bool.or_false, Bool.false_or, Bool.and_self, resQ, resV, resT, pickV, Z2f, Z4k, Z3k, fnOf, Z3g, isD, HO.drow, Z4m, Z46, evEq, eqV, eqK, eqC1, Z4d, Z4b, Z3h, Z3f, lens_I, Z3x, Z32, Z21, Z31, Z20, Z30, Z1z, Z22, Z1a, Z1b, Z0j, List.mem_cons, List.not_mem_nil, or_false, forall_eq, putRow, Z3m, Z1n, RetS, RetF, RetD, AV.frz, AV.frzL, AV.freshP, AV.freshL, DV.less, Z2r, Z23, Z2s, Z24, Z0l, Z0b, Option.some.injEq, AV.tup.injEq, AV.agg.injEq, List.cons.injEq, DV.list.injEq, List.isEmpty_nil, Nat.le_refl, AV.d.injEq, DV.int.injEq, DV.bool.injEq, ↓reduceIte, Nat.reduceEqDiff, Nat.reduceAdd, Nat.reduceBEq, List.length_cons, List.length_nil, List.replicate_succ, List.replicate_zero, List.nil_append, List.cons_append, List.append_nil, List.foldl_cons, List.foldl_nil, List.map_cons, List.map_nil, List.all_cons, List.all_nil, List.set_cons_zero, List.set_cons_succ, List.getD_cons_zero, List.getD_cons_succ, List.drop_zero, List.drop_succ_cons, List.take_succ_cons, List.take_zero, List.flatten_cons, List.flatten_nil, Bool.true_and, Bool.and_true, Bool.not_true, Bool.not_false, true_and, and_true, true_or, or_true, Option.bind_some, Option.map_some, decide_true, decide_false, beq_self_eq_true, true_implies, false_implies, implies_true, not_true_eq_false, not_false_eq_true, and_self, Bool.and_false, Bool.false_and, Nat.reduceLT, Nat.reduceLeDiff, List.reverse_cons, List.reverse_nil, Nat.zero_add, Nat.add_zero, Bool.false_eq_true, List.getElem?_cons_zero, Nat.reduceMul, Nat.mul_one, DeedG.row, Z45, Z2j, Z1v, Z3q, Z3d, idx_LA, Z3s, Z3r, idx_LI, Z3u, Z3t, eSt3, F1, G1, at_act_Right]
      have hkj := keepD_le t ((acts.getD t default).1.take j)
      have hkl : ((acts.getD t default).1.take j).length ≤ 70 := by rw [List.length_take]; omega
      have hQ : Q.length ≤ 20 + 70 * 3 + 70 := by rw [j4, List.length_append, List.length_append, hL]; omega
      have w1 : IntKind.i64.wrap ((j : Int) + 1) = ((j + 1 : Nat) : Int) := by rw [wrap_id (by omega) (by omega)]; omega
      have w3 : IntKind.i64.wrap ((t : Int) + 1) = ((t + 1 : Nat) : Int) := by rw [wrap_id (by omega) (by omega)]; omega
      rw [w1, w3]
      have ht2 : (0 ≤ (t : Int) ∧ (t : Int) < acts.length) := by omega
      refine ⟨ht2, fun e => ?_, fun e => ?_⟩
      · have e' : j < (acts.getD t default).1.length := by omega
        have hj2 : (0 ≤ (j : Int) ∧ (j : Int) < (acts.getD t default).1.length) := by omega
        refine ⟨ht2, hj2, fun hr => ⟨ht2, hj2, fun hk => ?_, fun hk => ⟨ht2, hj2, roomy_of (by omega) (by omega), ?_⟩⟩, fun hr => ?_⟩
        · refine Z2v.mk [0] (j + 1, Q) (by simp) (by simp) (by simp only [State.can, AV.can, AV.canL, HO.can, Z25, idx, Z02, Z00, Heap.at, Nat.reduceBEq, ↓reduceIte, Nat.reduceEqDiff, Option.getD_some, Option.map_some, List.map_cons, List.map_nil, List.getD_cons_zero, List.getD_cons_succ, eSt3]) ⟨by show j + 1 ≤ _; omega, fun i hi => ?_, ?_⟩ (by show _ - (j + 1) < _ - j; omega)
          · by_cases h : i = j
            · rw [h]; exact hr
            · exact j2 i (by have : i < j + 1 := hi; omega)
          · show Q = initL l l.length ++ (keptTo acts t ++ keepD t ((acts.getD t default).1.take (j + 1)))
            rw [keep_kept e', if_pos hk, List.append_nil, j4]
        · refine Z2v.mk [2] (j + 1, Q ++ [⟨t, (acts.getD t default).1.getD j default⟩]) (by simp) (by simp) (by simp only [State.can, AV.can, AV.canL, HO.can, Z25, idx, Z02, Z00, Heap.at, Nat.reduceBEq, ↓reduceIte, Nat.reduceEqDiff, Option.getD_some, Option.map_some, List.map_cons, List.map_nil, List.getD_cons_zero, List.getD_cons_succ, eSt3, List.length_append, List.length_singleton]) ⟨by show j + 1 ≤ _; omega, fun i hi => ?_, ?_⟩ (by show _ - (j + 1) < _ - j; omega)
          · by_cases h : i = j
            · rw [h]; exact hr
            · exact j2 i (by have : i < j + 1 := hi; omega)
          · show Q ++ [_] = initL l l.length ++ (keptTo acts t ++ keepD t ((acts.getD t default).1.take (j + 1)))
            rw [keep_kept e', if_neg hk, j4]; simp only [List.append_assoc]
        · have hno : rightA l acts = false := rightA_no d' e' hr
          unfold deedsG
          rw [if_neg (by omega), if_pos hno]
          exact ⟨rfl, rfl⟩
      · have e' : j = (acts.getD t default).1.length := by omega
        rw [e', List.take_length] at j4
        refine Z2v.mk [0] (t + 1, Q) (by simp) (by simp) (by simp only [State.can, AV.can, AV.canL, HO.can, Z25, idx, Z02, Z00, Heap.at, Nat.reduceBEq, ↓reduceIte, Nat.reduceEqDiff, Option.getD_some, Option.map_some, List.map_cons, List.map_nil, List.getD_cons_zero, List.getD_cons_succ, eSt2]) ⟨by show t + 1 ≤ _; omega, fun i hi => ?_, ?_⟩ (by show acts.length - (t + 1) < acts.length - t; omega)
        · by_cases h : i = t
          · rw [h, List.all_eq_true]
            intro x hx
            obtain ⟨k, hk, rfl⟩ := List.getElem_of_mem hx
            have := j2 k (by omega)
            rwa [getD_lt hk] at this
          · exact i2 i (by have : i < t + 1 := hi; omega)
        · show Q = initL l l.length ++ keptTo acts (t + 1)
          rw [keptTo_succ, j4]
    · have d' : t = acts.length := by omega
      subst d'
      unfold deedsG
      have hr : rightA l acts = true := rightA_yes i2
      have hD : (deedsAll l acts).length = O.length := by rw [i4]; rfl
      rw [if_neg (by omega), hr, if_neg (by simp)]
      refine ⟨fun e => ?_, fun e => ?_⟩
      · rw [if_pos (by omega)]; exact ⟨rfl, rfl⟩
      · rw [if_neg (by omega), i4]
        exact ⟨rfl, rfl⟩
end Go.Ago

/- Contracts of the reference of layer 2: its small functions, Put, Of, Lay, Then, Back. Conditions: none. -/
set_option maxRecDepth 100000
set_option linter.unusedSimpArgs false
set_option linter.unusedVariables false
namespace Go.Ago

theorem body_ref02_Size {T : Tab} : sp_size.Body T V_ref02_Size L_ref02_Size R_ref02_Size := by
  rintro ⟨l, f⟩ h
  refine .inl ⟨rfl, ?_⟩
  unfold V_ref02_Size L_ref02_Size R_ref02_Size
  simp only [↓Z0p, ↓Z1l, ↓Z04, ↓Z0z, ↓Z0o, ↓Z0e, ↓Z0x, ↓Z2p, ↓Z0w, ↓Z3c, ↓Z0d, Z47, Z07, Z2k, Z2n, evN, Z0v, Z2m, Z0u, Z0q, Z26, evT, Opd.ev, Z02, Z00, Z2l, Z1s, Z27, Z0y, Z0a, Z3e, LOp.isNew, State.prune, evLen, List.length_map, Z4j, binT, binQ, resQ, resV, resT, Z1n, RetS, AV.d.injEq, DV.int.injEq, ↓reduceIte, Nat.reduceBEq, List.length_nil, List.replicate_zero, List.append_nil, List.map_cons, List.map_nil, true_and, Nat.add_zero, Bool.false_eq_true, sp_size]
  unfold szR
  refine ⟨fun h => by omega, fun h => by omega⟩

theorem one_shl_nat {k : Nat} (h : k < 64) : (1#64 <<< k).toNat = 2 ^ k := by
  rw [BitVec.toNat_shiftLeft, Nat.shiftLeft_eq]
  have : 2 ^ k < 2 ^ 64 := Nat.pow_lt_pow_right (by omega) h
  have e1 : (1#64).toNat = 1 := rfl
  rw [e1, Nat.one_mul]; exact Nat.mod_eq_of_lt this
theorem one_shl_ne {k : Nat} (h : k < 64) : ¬ (1#64 <<< k = 0#64) := fun e => by
  have := congrArg BitVec.toNat e
  rw [one_shl_nat h] at this
  have h2 : 0 < 2 ^ k := Nat.pow_pos (by omega)
  have h3 : (0#64).toNat = 0 := rfl
  omega
theorem has_quo {x : W} {k : Nat} (h : k < 64) : (Int.tmod (IntKind.u64.wrap (Int.tdiv (x.toNat : Int) ((1#64 <<< k).toNat : Int))) 2 = 1) = (x.getLsbD k = true) := by
  rw [one_shl_nat h, ← Int.ofNat_tdiv, wrapU (Nat.lt_of_le_of_lt (Nat.div_le_self _ _) (wlt x))]
  have e2 : Int.tmod ((x.toNat / 2 ^ k : Nat) : Int) 2 = ((x.toNat / 2 ^ k % 2 : Nat) : Int) := by
    generalize x.toNat / 2 ^ k = m
    rw [Int.tmod_eq_emod_of_nonneg (by omega)]; omega
  rw [e2]
  apply propext
  rw [show x.getLsbD k = x.toNat.testBit k from rfl, Nat.testBit_eq_decide_div_mod_eq, decide_eq_true_eq]
  omega
theorem body_ref02_Has {T : Tab} {n1 : Nat} (k1 : Knows T n1 sp_size) : sp_Has.Body T V_ref02_Has (L_ref02_Has n1) R_ref02_Has := by
  have F1 := k1.F; have G1 := k1.G
  rintro ⟨l, f, i, k⟩ h2
  have h2 : l.length ≤ maxLen := h2
  have := szR_le l
  have := szR_len l
  refine .inl ⟨rfl, ?_⟩
  unfold V_ref02_Has L_ref02_Has R_ref02_Has
  simp only [↓Z0p, ↓Z1l, ↓Z04, ↓Z0z, ↓Z0o, ↓Z0e, ↓Z0x, ↓Z2p, ↓Z0w, ↓Z3c, ↓Z0h, ↓Z08, ↓Z0d, Z47, Z07, Z2k, Z1f, Z2n, evN, Z2g, Z0v, Z2m, Z0u, Z0n, Z0q, Z2c, Z26, evT, Opd.ev, Z02, Z00, Z2l, Z29, Z1s, Z27, Z0y, Z0a, Z3e, LOp.isNew, State.prune, Z09, idx_W, rowW, Z0t, Z4g, Z1m, Z4f, Z4j, binT, binQ, resQ, resV, resT, pickV, Z2f, Z3k, fnOf, Z3g, Z4m, Z1n, RetS, AV.d.injEq, DV.bool.injEq, ↓reduceIte, Nat.reduceAdd, Nat.reduceBEq, List.length_cons, List.length_nil, List.replicate_zero, List.append_nil, List.map_cons, List.map_nil, List.getD_cons_zero, List.flatten_cons, List.flatten_nil, true_and, Nat.reduceLT, Nat.zero_add, Nat.add_zero, Bool.false_eq_true, sp_Has, F1, G1, at_size]
  refine ⟨h2, fun c1 => ?_, fun c1 => ⟨fun c2 => ?_, fun c2 => ⟨fun c3 => ?_, fun c3 => ⟨fun c4 => ?_, fun c4 => ?_⟩⟩⟩⟩
  · rw [hasI_no (by omega)]
  · rw [hasI_no (by omega)]
  · rw [hasI_no (by omega)]
  · rw [hasI_no (by omega)]
  · obtain ⟨i, rfl⟩ := Int.eq_ofNat_of_zero_le (by omega : 0 ≤ i)
    obtain ⟨k, rfl⟩ := Int.eq_ofNat_of_zero_le (by omega : 0 ≤ k)
    rw [wrapU (k := k) (by omega)]
    have hk : k < 64 := by omega
    have hq : ∀ x : W, _ := fun x => has_quo (x := x) hk
    simp only [Z06, Z4g, hq, w_eq0, Bool.decide_eq_true]
    refine ⟨by omega, by omega, fun e => one_shl_ne hk (by rw [← w_eq0]; exact e), by decide, ?_⟩
    rw [hasI_nat]
    unfold hasN
    rw [decide_eq_true (by omega : i < szR l), decide_eq_true (by omega : k < szR l)]
    simp

/-! ### Put -/
def putR (R : List W) (i k : Nat) : List W := R.set i (R.getD i 0#64 ||| 1#64 <<< k)
def ef_Put : Ef where
  A := List W × Nat × Bool × Int × Int
  args := fun x id => [.ref id 1 0 x.2.1 x.2.2.1, .d (.int .i64 x.2.2.2.1), .d (.int .i64 x.2.2.2.2)]
  sz := 1
  rows := fun x => x.1.map rowW
  ok := fun x => (x.2.1 = x.1.length ∧ x.1.length ≤ 64) ∧ (0 ≤ x.2.2.2.1 ∧ x.2.2.2.1 < szR x.1) ∧ (0 ≤ x.2.2.2.2 ∧ x.2.2.2.2 < szR x.1)
  val := fun _ => .tup []
  rows' := fun x => (putR x.1 x.2.2.2.1.toNat x.2.2.2.2.toNat).map rowW
open Classical in
noncomputable def putE (o : HO) (id n : Nat) (i k : Int) : Option Eff := if h : ∃ R, o = .dvec 1 (R.map rowW) then some ⟨(n = h.choose.length ∧ h.choose.length ≤ 64) ∧ (0 ≤ i ∧ i < szR h.choose) ∧ (0 ≤ k ∧ k < szR h.choose), .tup [], [(id, .dvec 1 ((putR h.choose i.toNat k.toNat).map rowW))], [], none⟩ else none
theorem putE_d {R : List W} {id n : Nat} {i k : Int} : putE (.dvec 1 (R.map rowW)) id n i k = some ⟨(n = R.length ∧ R.length ≤ 64) ∧ (0 ≤ i ∧ i < szR R) ∧ (0 ≤ k ∧ k < szR R), .tup [], [(id, .dvec 1 ((putR R i.toNat k.toNat).map rowW))], [], none⟩ := by
  have h : ∃ R' : List W, HO.dvec 1 (R.map rowW) = .dvec 1 (R'.map rowW) := ⟨R, rfl⟩
  unfold putE
  rw [dif_pos h]
  have e : R = h.choose := by
    have h1 := h.choose_spec
    injection h1 with _ h2
    exact Z39 rowW_inj h2
  rw [← e]
theorem at_Put {id n : Nat} {room : Bool} {i k : Int} {H : Heap} : ef_Put.at [.ref id 1 0 n room, .d (.int .i64 i), .d (.int .i64 k)] H = putE (H.at id) id n i k := by
  by_cases h : ∃ R : List W, H.at id = .dvec 1 (R.map rowW)
  · obtain ⟨R, hR⟩ := h
    rw [hR, putE_d]
    refine (Ef.at_fits (e := ef_Put) (p := ((R, n, room, i, k), id)) ?_ ⟨rfl, hR⟩).trans rfl
    · rintro ⟨⟨a, b, c, d, e⟩, p⟩ ⟨⟨a', b', c', d', e'⟩, p'⟩ args H ⟨h1, h2⟩ ⟨h3, h4⟩
      simp only [ef_Put] at h1 h2 h3 h4
      rw [← h1] at h3
      simp only [List.cons.injEq, AV.ref.injEq, AV.d.injEq, DV.int.injEq, and_true, true_and] at h3
      obtain ⟨⟨e1, e2, e3⟩, e4, e5⟩ := h3
      subst e1
      rw [h2] at h4
      simp only [HO.dvec.injEq, true_and] at h4
      rw [Z39 rowW_inj h4, e2, e3, e4, e5]
  · have h1 : putE (H.at id) id n i k = none := by unfold putE; rw [dif_neg h]
    rw [h1]
    unfold Ef.at
    rw [dif_neg]
    rintro ⟨⟨⟨a, b, c, d, e⟩, p⟩, h2, h3⟩
    simp only [ef_Put, List.cons.injEq, AV.ref.injEq] at h2 h3
    obtain ⟨⟨rfl, -⟩, -⟩ := h2
    exact h ⟨a, h3⟩

theorem add_or {x : W} {k : Nat} (h : x.getLsbD k = false) (hk : k < 64) : x + 1#64 <<< k = x ||| 1#64 <<< k := by
  apply BitVec.add_eq_or_of_and_eq_zero
  apply W.ext
  intro j hj
  rw [BitVec.getLsbD_and, one_shl hk]
  by_cases e : k = j
  · subst e; simp [h]
  · simp [e]
theorem or_same {x : W} {k : Nat} (h : x.getLsbD k = true) (hk : k < 64) : x ||| 1#64 <<< k = x := by
  apply W.ext
  intro j hj
  rw [BitVec.getLsbD_or, one_shl hk]
  by_cases e : k = j
  · subst e; simp [h]
  · simp [e]
theorem eff_ref02_Put {T : Tab} {n1 : Nat} (k1 : Knows T n1 sp_Has) : ef_Put.Body T V_ref02_Put (L_ref02_Put n1) R_ref02_Put := by
  have F1 := k1.F; have G1 := k1.G
  refine ⟨fun x ρ => rfl, fun x ρ => rfl, ?_⟩
  rintro ⟨R, n, room, i, k⟩ ⟨⟨h1, h4⟩, h2, h3⟩
  have h1 : n = R.length := h1
  have h4 : R.length ≤ 64 := h4
  have h2 : 0 ≤ i ∧ i < szR R := h2
  have h3 : 0 ≤ k ∧ k < szR R := h3
  subst h1
  have := szR_le R
  have := szR_len R
  obtain ⟨i, rfl⟩ := Int.eq_ofNat_of_zero_le h2.1
  obtain ⟨k, rfl⟩ := Int.eq_ofNat_of_zero_le h3.1
  unfold V_ref02_Put L_ref02_Put R_ref02_Put
  simp only [↓Z0p, ↓Z04, ↓Z0z, ↓Z0o, ↓Z0e, ↓Z0x, ↓Z0w, ↓retK_n, ↓Z0s, Z47, Z07, Z2k, Z2n, evN, Z2g, Z0v, Z2m, Z0u, Z0n, Z0q, Z26, evT, Opd.ev, Z02, Z00, Z2l, Z4a, Z3l, Z1s, Z27, Z0y, Z0a, Z3e, LOp.isNew, State.prune, Heap.at, Z0g, Z03, rowW, Z2i, Z0t, Z4g, w_add, Z05, Z0c, Z01, Z1m, Z06, List.length_map, List.take_of_length_le, Z4f, Z4j, evUn, binT, binQ, resQ, resV, Z2f, Z3k, fnOf, Z3g, Z4m, putRow, Nat.le_refl, ↓reduceIte, Nat.reduceAdd, Nat.reduceBEq, List.length_cons, List.length_nil, List.replicate_zero, List.nil_append, List.append_nil, List.map_cons, List.map_nil, List.set_cons_zero, List.getD_cons_zero, List.drop_zero, List.drop_succ_cons, List.take_zero, List.flatten_cons, List.flatten_nil, true_and, and_true, and_self, Nat.reduceLT, Nat.zero_add, Nat.add_zero, Bool.false_eq_true, ef_Put, F1, G1, at_Has]
  have hk : k < 64 := by omega
  have hi : hasI R i k = (R.getD i 0#64).getLsbD k := by
    rw [hasI_nat]
    unfold hasN
    rw [decide_eq_true (by omega : i < szR R), decide_eq_true (by omega : k < szR R)]
    simp
  rw [hi, wrapU (k := k) (by omega)]
  refine ⟨by unfold maxLen; omega, fun hb => ?_, fun hb => ⟨by omega, by omega, by omega, by omega, by omega, ?_⟩⟩
  · have e : putR R i k = R := by
      unfold putR
      rw [or_same hb hk]
      have : R.getD i 0#64 = R[i] := getD_lt (by omega)
      rw [this]; exact List.set_getElem_self (by omega)
    rw [e]
    exact RetG.mk [0] (by simp) (by simp) (fun i hi => by have : i = 0 := by omega
                                                          subst this; rfl) (by simp [AV.can, AV.canL]) (by simp [HO.can, Heap.at])
  · simp only [Z06]
    rw [add_or hb hk]
    exact RetG.mk [0] (by simp) (by simp) (fun i hi => by have : i = 0 := by omega
                                                          subst this; rfl) (by simp [AV.can, AV.canL]) (by simp [HO.can, Heap.at, putR])
end Go.Ago

/- Contracts of the reference of layer 2: most, Copy, Same, Of, Lay, Then, Back. Conditions: none. -/
set_option maxRecDepth 100000
set_option linter.unusedSimpArgs false
set_option linter.unusedVariables false
namespace Go.Ago

theorem putR_mk {n : Nat} {p : Nat → Nat → Bool} {i k : Nat} (hn : n ≤ 64) (hi : i < n) (hk : k < n) : putR (mkR n p) i k = mkR n fun a b => p a b || (decide (a = i) && decide (b = k)) := by
  unfold putR
  rw [mkR_set (q := fun a b => p a b || (decide (a = i) && decide (b = k))) hi]
  · intro j hj
    rw [BitVec.getLsbD_or, mkR_get hi, one_shl (by omega)]
    by_cases hjn : j < n
    · by_cases e : k = j
      · subst e; simp [hj, hjn]
      · have : ¬ j = k := fun h => e h.symm
        simp [hj, hjn, e, this]
    · have : ¬ k = j := by omega
      simp [hjn, this]
  · intro a j ha hj hne
    simp [hne]

def sp_sameW : Sp := sp_same rowW
theorem at_sameW (a b : List W) (f g : Bool) : sp_sameW.at [.d (.list (a.map rowW) f), .d (.list (b.map rowW) g)] = .data (a.length ≤ maxLen) (.d (.bool (decide (a = b)))) true := at_same rowW_inj a b f g
theorem body_ref02_Same {T : Tab} : sp_sameW.Body T V_ref02_Same L_ref02_Same R_ref02_Same := by
  rintro ⟨a, f, b, g⟩ hlen
  refine .inl ⟨rfl, ?_⟩
  unfold V_ref02_Same L_ref02_Same R_ref02_Same
  simp only [↓Z0p, ↓Z1l, ↓Z04, ↓Z0z, ↓Z0o, ↓Z0f, ↓Z1u, ↓Z0e, ↓Z0x, ↓Z2p, ↓Z0w, ↓Z3c, ↓Z0s, ↓Z0d, Z47, Z07, Z2k, Z2n, evN, Z0v, Z2m, Z0u, Z0q, Z26, evT, Opd.ev, Z02, Z00, Z2l, Z1s, Z27, Z0y, Z0a, Z3e, LOp.isNew, State.prune, evLen, List.length_map, Z4j, binT, binQ, resQ, resV, resT, Z1n, RetS, AV.d.injEq, DV.bool.injEq, ↓reduceIte, Nat.reduceBEq, List.length_nil, List.replicate_zero, List.append_nil, List.map_cons, List.map_nil, true_and, Nat.zero_add, Nat.add_zero, Bool.false_eq_true, sp_sameW, sp_same]
  have hm : maxLen = 9223372036854775807 := rfl
  have hlen : a.length ≤ maxLen := hlen
  refine ⟨fun h => ?_, fun h => ?_⟩
  · have hab : a.length = b.length := by omega
    refine Loop.fam [0, 1, 5] (fun i : Nat => ⟨[(0, .d (.list (a.map rowW) f)), (1, .d (.list (b.map rowW) g)), (5, .d (.int .i64 (i : Nat)))], []⟩) (fun i => i ≤ a.length ∧ a.take i = b.take i) (fun i => a.length - i) 0 [] (by simp) (by simp)
      (by simp only [State.can, AV.can, HO.can, Z02, Z00, Heap.at, Nat.reduceBEq, Option.getD_some, List.map_cons, List.map_nil]; rfl) ⟨by omega, by simp⟩ ?_
    rintro i ⟨h1, h2⟩
    simp only [↓Z0p, ↓Z1l, ↓Z1t, ↓Z04, ↓Z0z, ↓Z0o, ↓Z0f, ↓Z0e, ↓Z0x, ↓Z36, ↓Z2p, ↓Z1w, ↓Z1p, ↓Z2d, ↓Z0w, ↓Z3c, ↓Z49, ↓Z44, ↓Z4i, ↓Z0s, ↓Z0d, Z47, Z07, Z1i, Z2k, Z2n, evN, Z0v, Z2m, Z4c, Z0u, Z0q, Z26, evT, Opd.ev, Z02, Z00, Z2l, Z1s, Z27, Z0a, Z3e, LOp.isNew, State.prune, Z09, idx_W, rowW, Z0t, w_eq, Z1m, Z06, evLen, List.length_map, Z4f, Z4j, binT, binQ, chk, Z42, resQ, resV, resT, Z1n, RetS, AV.d.injEq, DV.bool.injEq, ↓reduceIte, Nat.reduceBEq, List.length_cons, List.length_nil, List.replicate_zero, List.nil_append, List.cons_append, List.append_nil, List.map_cons, List.map_nil, List.all_nil, List.getD_cons_zero, true_and, Nat.reduceLT, List.reverse_cons, List.reverse_nil, Nat.zero_add, Nat.add_zero, Bool.false_eq_true]
    refine ⟨fun h3 => ?_, fun h3 => ?_⟩
    · have h3 : i < a.length := by omega
      rw [wrap_succ h3 hlen]
      refine ⟨by omega, by omega, fun h4 => ?_, fun h4 => ?_⟩
      · exact Z2v.mk [] (i + 1) (by simp) (by simp) (by simp only [State.can, AV.can, HO.can, Z02, Z00, Heap.at, Nat.reduceBEq, Option.getD_some, List.map_cons, List.map_nil]) ⟨by omega, take_next (d := 0#64) h2 h3 (by omega) h4⟩ (by omega)
      · simp only [Bool.false_eq, decide_eq_false_iff_not]
        intro e; subst e; exact h4 rfl
    · have : i = a.length := by omega
      subst this
      exact (decide_eq_true (take_all h2 hab)).symm
  · simp only [Bool.false_eq, decide_eq_false_iff_not]
    intro e; subst e; exact h rfl
end Go.Ago

/- Contracts of the reference of layer 2: Lay, Then, Back. Conditions: none. -/
set_option maxRecDepth 100000
set_option linter.unusedSimpArgs false
set_option linter.unusedVariables false
namespace Go.Ago

/-! Row by row, place by place: what lies ahead of (i, k). -/
/-! ### Lay -/
/-! ### Back -/
/-! ### Then -/
end Go.Ago

/- The document's answer for layer 23: what is atomic, who is read, the order. Conditions: none. -/
set_option maxRecDepth 100000
set_option linter.unusedSimpArgs false
set_option linter.unusedVariables false
namespace Go.Ago
attribute [local irreducible] vck
/-- The first number below m of which it is true; -1: none. -/
def firstN (m : Nat) (p : Nat → Bool) : Int := match (List.range m).find? p with
  | some i => i
  | none => -1
theorem first_at {m i : Nat} {p : Nat → Bool} (hi : i < m) (h : p i = true) (hno : ∀ j, j < i → p j = false) : firstN m p = i := by
  have : (List.range m).find? p = some i := List.find?_range_eq_some.2 ⟨h, by simpa using hi, fun j hj => by rw [hno j hj]; rfl⟩
  unfold firstN; rw [this]
theorem first_no {m : Nat} {p : Nat → Bool} (hno : ∀ j, j < m → p j = false) : firstN m p = -1 := by
  have : (List.range m).find? p = none := List.find?_range_eq_none.2 fun j hj => by rw [hno j hj]; rfl
  unfold firstN; rw [this]
theorem first_cases (m : Nat) (p : Nat → Bool) : (∃ i, i < m ∧ p i = true ∧ (∀ j, j < i → p j = false) ∧ firstN m p = i) ∨ (∀ j, j < m → p j = false) ∧ firstN m p = -1 := by
  rcases h : (List.range m).find? p with _ | i
  · refine .inr ⟨fun j hj => ?_, by unfold firstN; rw [h]⟩
    have := List.find?_range_eq_none.1 h j hj
    simpa using this
  · obtain ⟨h1, h2, h3⟩ := List.find?_range_eq_some.1 h
    exact .inl ⟨i, by simpa using h2, h1, fun j hj => by have := h3 j hj; simpa using this, by unfold firstN; rw [h]⟩
def placeG (l : List Int) (n : Int) : Int := firstN l.length fun i => decide (l.getD i default = n)
def sp_place : Sp := ⟨List Int × Bool × Int, fun x => [.d (.list (x.1.map rowI) x.2.1), .d (.int .i64 x.2.2)], fun x => .data (x.1.length ≤ maxLen) (.d (.int .i64 (placeG x.1 x.2.2))) true⟩
theorem at_place (l : List Int) (f : Bool) (n : Int) : sp_place.at [.d (.list (l.map rowI) f), .d (.int .i64 n)] = .data (l.length ≤ maxLen) (.d (.int .i64 (placeG l n))) true :=
  Sp.at_enc (s := sp_place) (fun x y h => by
    obtain ⟨a, b, c⟩ := x; obtain ⟨a', b', c'⟩ := y
    simp only [sp_place, List.cons.injEq, AV.d.injEq, DV.list.injEq, DV.int.injEq, and_true, true_and] at h
    obtain ⟨⟨h1, h2⟩, h3⟩ := h
    rw [Z39 rowI_inj h1, h2, h3]) (l, f, n)
theorem body_ref23_place {T : Tab} : sp_place.Body T V_ref23_place L_ref23_place R_ref23_place := by
  rintro ⟨l, f, n⟩ h
  have h : l.length ≤ maxLen := h
  refine .inl ⟨rfl, ?_⟩
  unfold V_ref23_place L_ref23_place R_ref23_place
  simp (maxSteps := 3000000) only [↓Z0p, ↓Z1l, ↓Z1t, ↓Z04, ↓Z2u, ↓Z2t, nilG_d, nilG_r, ↓Z0z, ↓Z0o, ↓Z0f, ↓Z1u, ↓Z0e, ↓Z0x, ↓Z36, ↓Z2p, ↓Z1w, ↓Z1p, ↓Z2y, ↓Z2d, ↓Z0w, ↓Z3c, ↓retK_n, ↓Z3y, ↓Z40, ↓Z3z, ↓Z49, ↓Z44, ↓Z4i, ↓Z0h, ↓Z08, ↓Z0s, ↓Z0d, ↓Z1q, Z47, Z07, Z1i, Z2k, Z1f, Z2n, evN, Z2g, Z0v, Z2m, Z4c, Z0u, Z0n, Z0q, Z35, Z2o, Z2c, Z1r, Z26, evT, Opd.ev, Z02, Z00, Z2l, Z4a, Z3l, Z29, Z1x, Z1s, Z27, Z3w, Z0y, Z0a, Z3e, LOp.isNew, State.prune, Z3p, Z2w, AV.leaf, Heap.at, Z0g, Z09, Z1j, Z0k, Z03, idx_I, idx_W, rowW, Z2i, Z37, Z2a, Z1o, rowB, Z3a, Z38, rowN, lens_W, Z41, Z1k, Z0t, w_or, w_and, Z3b, w_and1, w_shl, Z4g, w_shr, w_sub1, w_neg, w_add, w_bit, w_eq0, w_eq1, w_eq, Bool.decide_eq_true, Z3o, Z3j, Z3v, Z2z, Z1y, Z05, Z0c, Z0r, Z01, Z1m, rowI, RatG.row, LocG.row, ActG.row, StepG.row, StampG.row, ActG.av, ActG.eta, RatG.eta, LocG.eta, beq_true, beq_false, Z2q, Z34, Z2x, Z33, Z1e, Z12, Z1c, Z1d, Z11, Z10, Z0i, List.length_set, List.length_replicate, Z06, Int.reduceToNat, evLen, Z2h, Z48, Src.all, Src.len, Src.leaf, Src.leafN, Z3i, Z4h, joinV, Z0m, Z13, Z14, Z15, Z16, Z17, Z18, Z19, mkVec, drows, evMk, List.length_map, Z28, Z2b, List.take_length, List.take_left, List.length_append, Nat.le_add_right, ite_self, List.take_of_length_le, Z3n, intOr, Z4e, Option.isSome_none, Option.isSome_some, Nat.sub_zero, Z4f, loadT, Z4j, evUn, Z1g, Z1h, binT, binQ, chk, Z42, List.contains_cons, List.contains_nil, Bool.or_false, Bool.false_or, Bool.and_self, resQ, resV, resT, pickV, Z2f, Z4k, Z3k, fnOf, Z3g, isD, HO.drow, Z4m, Z46, evEq, eqV, eqK, eqC1, Z4d, Z4b, Z3h, Z3f, lens_I, Z3x, Z32, Z21, Z31, Z20, Z30, Z1z, Z22, Z1a, Z1b, Z0j, List.mem_cons, List.not_mem_nil, or_false, forall_eq, putRow, Z3m, Z1n, RetS, RetF, RetD, AV.frz, AV.frzL, AV.freshP, AV.freshL, DV.less, Z2r, Z23, Z2s, Z24, Z0l, Z0b, Option.some.injEq, AV.tup.injEq, AV.agg.injEq, List.cons.injEq, DV.list.injEq, List.isEmpty_nil, Nat.le_refl, AV.d.injEq, DV.int.injEq, DV.bool.injEq, ↓reduceIte, Nat.reduceEqDiff, Nat.reduceAdd, Nat.reduceBEq, List.length_cons, List.length_nil, List.replicate_succ, List.replicate_zero, List.nil_append, List.cons_append, List.append_nil, List.foldl_cons, List.foldl_nil, List.map_cons, List.map_nil, List.all_cons, List.all_nil, List.set_cons_zero, List.set_cons_succ, List.getD_cons_zero, List.getD_cons_succ, List.drop_zero, List.drop_succ_cons, List.take_succ_cons, List.take_zero, List.flatten_cons, List.flatten_nil, Bool.true_and, Bool.and_true, Bool.not_true, Bool.not_false, true_and, and_true, true_or, or_true, Option.bind_some, Option.map_some, decide_true, decide_false, beq_self_eq_true, true_implies, false_implies, implies_true, not_true_eq_false, not_false_eq_true, and_self, Bool.and_false, Bool.false_and, Nat.reduceLT, Nat.reduceLeDiff, List.reverse_cons, List.reverse_nil, Nat.zero_add, Nat.add_zero, Bool.false_eq_true, List.getElem?_cons_zero, Nat.reduceMul, Nat.mul_one, sp_place]
  refine Loop.fam [0, 1, 5] (fun i : Nat => ⟨[(0, .d (.list (l.map rowI) f)), (1, .d (.int .i64 n)), (5, .d (.int .i64 i))], []⟩) (fun i => i ≤ l.length ∧ ∀ j, j < i → decide (l.getD j default = n) = false) (fun i => l.length - i) 0 [] (by simp) (by simp) (by simp only [State.can, AV.can, AV.canL, HO.can, Z25, idx, Z02, Z00, Heap.at, Nat.reduceBEq, ↓reduceIte, Nat.reduceEqDiff, Option.getD_some, Option.map_some, List.map_cons, List.map_nil, List.getD_cons_zero, List.getD_cons_succ]; rfl) ⟨by omega, by omega⟩ ?_
  rintro i ⟨hi, hj⟩
  simp (maxSteps := 3000000) only [↓Z0p, ↓Z1l, ↓Z1t, ↓Z04, ↓Z2u, ↓Z2t, nilG_d, nilG_r, ↓Z0z, ↓Z0o, ↓Z0f, ↓Z1u, ↓Z0e, ↓Z0x, ↓Z36, ↓Z2p, ↓Z1w, ↓Z1p, ↓Z2y, ↓Z2d, ↓Z0w, ↓Z3c, ↓retK_n, ↓Z3y, ↓Z40, ↓Z3z, ↓Z49, ↓Z44, ↓Z4i, ↓Z0h, ↓Z08, ↓Z0s, ↓Z0d, ↓Z1q, Z47, Z07, Z1i, Z2k, Z1f, Z2n, evN, Z2g, Z0v, Z2m, Z4c, Z0u, Z0n, Z0q, Z35, Z2o, Z2c, Z1r, Z26, evT, Opd.ev, Z02, Z00, Z2l, Z4a, Z3l, Z29, Z1x, Z1s, Z27, Z3w, Z0y, Z0a, Z3e, LOp.isNew, State.prune, Z3p, Z2w, AV.leaf, Heap.at, Z0g, Z09, Z1j, Z0k, Z03, idx_I, idx_W, rowW, Z2i, Z37, Z2a, Z1o, rowB, Z3a, Z38, rowN, lens_W, Z41, Z1k, Z0t, w_or, w_and, Z3b, w_and1, w_shl, Z4g, w_shr, w_sub1, w_neg, w_add, w_bit, w_eq0, w_eq1, w_eq, Bool.decide_eq_true, Z3o, Z3j, Z3v, Z2z, Z1y, Z05, Z0c, Z0r, Z01, Z1m, rowI, RatG.row, LocG.row, ActG.row, StepG.row, StampG.row, ActG.av, ActG.eta, RatG.eta, LocG.eta, beq_true, beq_false, Z2q, Z34, Z2x, Z33, Z1e, Z12, Z1c, Z1d, Z11, Z10, Z0i, List.length_set, List.length_replicate, Z06, Int.reduceToNat, evLen, Z2h, Z48, Src.all, Src.len, Src.leaf, Src.leafN, Z3i, Z4h, joinV, Z0m, Z13, Z14, Z15, Z16, Z17, Z18, Z19, mkVec, drows, evMk, List.length_map, Z28, Z2b, List.take_length, List.take_left, List.length_append, Nat.le_add_right, ite_self, List.take_of_length_le, Z3n, intOr, Z4e, Option.isSome_none, Option.isSome_some, Nat.sub_zero, Z4f, loadT, Z4j, evUn, Z1g, Z1h, binT, binQ, chk, Z42, List.contains_cons, List.contains_nil, Bool.or_false, Bool.false_or, Bool.and_self, resQ, resV, resT, pickV, Z2f, Z4k, Z3k, fnOf, Z3g, isD, HO.drow, Z4m, Z46, evEq, eqV, eqK, eqC1, Z4d, Z4b, Z3h, Z3f, lens_I, Z3x, Z32, Z21, Z31, Z20, Z30, Z1z, Z22, Z1a, Z1b, Z0j, List.mem_cons, List.not_mem_nil, or_false, forall_eq, putRow, Z3m, Z1n, RetS, RetF, RetD, AV.frz, AV.frzL, AV.freshP, AV.freshL, DV.less, Z2r, Z23, Z2s, Z24, Z0l, Z0b, Option.some.injEq, AV.tup.injEq, AV.agg.injEq, List.cons.injEq, DV.list.injEq, List.isEmpty_nil, Nat.le_refl, AV.d.injEq, DV.int.injEq, DV.bool.injEq, ↓reduceIte, Nat.reduceEqDiff, Nat.reduceAdd, Nat.reduceBEq, List.length_cons, List.length_nil, List.replicate_succ, List.replicate_zero, List.nil_append, List.cons_append, List.append_nil, List.foldl_cons, List.foldl_nil, List.map_cons, List.map_nil, List.all_cons, List.all_nil, List.set_cons_zero, List.set_cons_succ, List.getD_cons_zero, List.getD_cons_succ, List.drop_zero, List.drop_succ_cons, List.take_succ_cons, List.take_zero, List.flatten_cons, List.flatten_nil, Bool.true_and, Bool.and_true, Bool.not_true, Bool.not_false, true_and, and_true, true_or, or_true, Option.bind_some, Option.map_some, decide_true, decide_false, beq_self_eq_true, true_implies, false_implies, implies_true, not_true_eq_false, not_false_eq_true, and_self, Bool.and_false, Bool.false_and, Nat.reduceLT, Nat.reduceLeDiff, List.reverse_cons, List.reverse_nil, Nat.zero_add, Nat.add_zero, Bool.false_eq_true, List.getElem?_cons_zero, Nat.reduceMul, Nat.mul_one]
  refine ⟨fun e => ⟨⟨by omega, by omega⟩, fun e2 => ?_, fun e2 => ?_⟩, fun e => ?_⟩
  · unfold placeG; rw [first_at (i := i) (by omega) (decide_eq_true e2) hj]
  · rw [wrap_succ (n := l.length) (by omega) h]
    exact Z2v.mk [] (i + 1) (by simp) (by simp) (by simp only [State.can, AV.can, AV.canL, HO.can, Z25, idx, Z02, Z00, Heap.at, Nat.reduceBEq, ↓reduceIte, Nat.reduceEqDiff, Option.getD_some, Option.map_some, List.map_cons, List.map_nil, List.getD_cons_zero, List.getD_cons_succ]) ⟨by omega, fun j hj' => by
      by_cases h : j = i
      · rw [h]; exact decide_eq_false e2
      · exact hj j (by omega)⟩ (by omega)
  · unfold placeG; rw [first_no fun j hj' => hj j (by omega)]
/-! ### What is atomic, who is read -/
def WG.atR (x : WG) (i : Nat) : Bool := decide (3 ≤ (x.deeds.getD i default).act.kind)
/-! ### Order -/
def befR (a b : DeedG) (i k : Nat) : Bool := decide (a.th = -1) && !decide (b.th = -1) || !decide (a.th = -1) && decide (a.th = b.th) && decide ((i : Int) < k)
def WG.stepR (x : WG) (i k : Nat) : Bool := befR (x.deeds.getD i default) (x.deeds.getD k default) i k || x.atR i && (hasN x.rf i k || hasN x.co i k)
/-! ### Fr -/
end Go.Ago

/- The document's answer for layer 23: how a world is judged. Conditions: none. -/
set_option maxRecDepth 100000
set_option linter.unusedSimpArgs false
set_option linter.unusedVariables false
namespace Go.Ago
attribute [local irreducible] vck
end Go.Ago

/- Contracts of package hist. Conditions: none. -/
set_option maxRecDepth 100000
set_option linter.unusedSimpArgs false
set_option linter.unusedVariables false
namespace Go.Ago

/-! ### slices.BinarySearchFunc over stamps -/
end Go.Ago

/- The contracts of the reference of layer 1: those of package rat. Conditions: none. -/
set_option maxRecDepth 100000
set_option linter.unusedSimpArgs false
set_option linter.unusedVariables false
namespace Go.Ago

end Go.Ago

/- Contracts of the reference of layer 20, its small words. Conditions: none. -/
set_option maxRecDepth 100000
set_option linter.unusedSimpArgs false
set_option linter.unusedVariables false
namespace Go.Ago

def sp_sameLoc : Sp := sp_same LocG.row
theorem at_sameLoc (a b : List LocG) (f g : Bool) : sp_sameLoc.at [.d (.list (a.map LocG.row) f), .d (.list (b.map LocG.row) g)] = .data (a.length ≤ maxLen) (.d (.bool (decide (a = b)))) true := at_same LocG.row_inj a b f g
theorem body_ref08_SameLocs {T : Tab} : sp_sameLoc.Body T V_ref08_SameLocs L_ref08_SameLocs R_ref08_SameLocs := by
  rintro ⟨a, f, b, g⟩ hlen
  refine .inl ⟨rfl, ?_⟩
  unfold V_ref08_SameLocs L_ref08_SameLocs R_ref08_SameLocs
  simp only [↓Z0p, ↓Z1l, ↓Z04, ↓Z0z, ↓Z0o, ↓Z0f, ↓Z1u, ↓Z0e, ↓Z0x, ↓Z2p, ↓Z0w, ↓Z3c, ↓Z0s, ↓Z0d, Z47, Z07, Z2k, Z2n, evN, Z0v, Z2m, Z0u, Z0q, Z26, evT, Opd.ev, Z02, Z00, Z2l, Z1s, Z27, Z0y, Z0a, Z3e, LOp.isNew, State.prune, evLen, List.length_map, Z4j, binT, binQ, resQ, resV, resT, Z1n, RetS, AV.d.injEq, DV.bool.injEq, ↓reduceIte, Nat.reduceBEq, List.length_nil, List.replicate_zero, List.append_nil, List.map_cons, List.map_nil, true_and, Nat.zero_add, Nat.add_zero, Bool.false_eq_true, sp_sameLoc, sp_same]
  have hm : maxLen = 9223372036854775807 := rfl
  have hlen : a.length ≤ maxLen := hlen
  refine ⟨fun h => ?_, fun h => ?_⟩
  · have hab : a.length = b.length := by omega
    refine Loop.fam [0, 1, 5] (fun i : Nat => ⟨[(0, .d (.list (a.map LocG.row) f)), (1, .d (.list (b.map LocG.row) g)), (5, .d (.int .i64 (i : Nat)))], []⟩) (fun i => i ≤ a.length ∧ a.take i = b.take i) (fun i => a.length - i) 0 [] (by simp) (by simp)
      (by simp only [State.can, AV.can, HO.can, Z02, Z00, Heap.at, Nat.reduceBEq, Option.getD_some, List.map_cons, List.map_nil]; rfl) ⟨by omega, by simp⟩ ?_
    rintro i ⟨h1, h2⟩
    simp only [↓Z0p, ↓Z1l, ↓Z1t, ↓Z04, ↓Z0z, ↓Z0o, ↓Z0f, ↓Z0e, ↓Z0x, ↓Z36, ↓Z2p, ↓Z1w, ↓Z1p, ↓Z2d, ↓Z0w, ↓Z3c, ↓Z49, ↓Z44, ↓Z4i, ↓Z0s, ↓Z0d, ↓Z1q, Z47, Z07, Z1i, Z2k, Z2n, evN, Z0v, Z2m, Z4c, Z0u, Z0q, Z26, evT, Opd.ev, Z02, Z00, Z2l, Z1s, Z27, Z0a, Z3e, LOp.isNew, State.prune, Z09, Z3j, LocG.row, Z2q, Int.toNat_natCast, evLen, List.length_map, List.take_of_length_le, Z4f, Z4j, binT, binQ, chk, Z42, resQ, resV, resT, evEq, eqV, eqK, eqC1, Z1n, RetS, Nat.le_refl, AV.d.injEq, DV.bool.injEq, ↓reduceIte, Nat.reduceAdd, Nat.reduceBEq, List.length_cons, List.length_nil, List.replicate_zero, List.nil_append, List.cons_append, List.append_nil, List.map_cons, List.map_nil, List.all_nil, List.drop_zero, Bool.and_true, true_and, Option.bind_some, Option.map_some, List.reverse_cons, List.reverse_nil, Nat.zero_add, Nat.add_zero, Bool.false_eq_true, Int.toNat_natCast]
    refine ⟨fun h3 => ?_, fun h3 => ?_⟩
    · have h3 : i < a.length := by omega
      rw [wrap_succ h3 hlen]
      refine ⟨⟨by omega, by omega⟩, ⟨by omega, by omega⟩, fun h4 => ?_, fun h4 => ?_⟩
      · have h5 : a.getD i default = b.getD i default := by
          generalize a.getD i default = x at h4 ⊢
          generalize b.getD i default = y at h4 ⊢
          obtain ⟨x1, x2⟩ := x; obtain ⟨y1, y2⟩ := y; simp only [beq_iff_eq, decide_eq_true_eq] at h4; rw [h4.1, h4.2]
        exact Z2v.mk [] (i + 1) (by simp) (by simp) (by simp only [State.can, AV.can, HO.can, Z02, Z00, Heap.at, Nat.reduceBEq, Option.getD_some, List.map_cons, List.map_nil]) ⟨by omega, take_next h2 h3 (by omega) h5⟩ (by omega)
      · simp only [Bool.false_eq, decide_eq_false_iff_not]
        intro e; subst e; simp at h4
    · have : i = a.length := by omega
      subst this
      exact (decide_eq_true (take_all h2 hab)).symm
  · simp only [Bool.false_eq, decide_eq_false_iff_not]
    intro e; subst e; exact h rfl

/-! ### Lists of lists -/
end Go.Ago

/- The document's answer for layer 23: the order of writes, told from the lists. Conditions: none. -/
set_option maxRecDepth 100000
set_option linter.unusedSimpArgs false
set_option linter.unusedVariables false
namespace Go.Ago
theorem perm_of_sub : ∀ (a b : List Int), a.Nodup → (∀ x ∈ a, x ∈ b) → a.length = b.length → a.Perm b := by
  intro a
  induction a with
  | nil => 
    intro b _ _ h
    have : b = [] := List.eq_nil_of_length_eq_zero (by simpa using h.symm)
    subst this; exact .nil
  | cons x a ih =>
    intro b hn hs hl
    rw [List.nodup_cons] at hn
    have hx : x ∈ b := hs x (by simp)
    have h1 := List.perm_cons_erase hx
    refine List.Perm.trans (List.Perm.cons x (ih (b.erase x) hn.2 (fun y hy => ?_) ?_)) h1.symm
    · have : y ≠ x := fun e => hn.1 (by rw [← e]; exact hy)
      exact (List.mem_erase_of_ne this).2 (hs y (by simp [hy]))
    · rw [List.length_erase_of_mem hx]; simp at hl; omega
theorem want_sorted {D : List DeedG} {n loc : Nat} : ∀ {i : Nat}, (wantTo D n loc i).Pairwise (fun a b => decide (a ≤ b) = true) := by
  intro i
  induction i with
  | zero => exact List.Pairwise.nil
  | succ i ih =>
    unfold wantTo
    split
    · rw [List.pairwise_append]
      refine ⟨ih, by simp, fun a ha b hb => ?_⟩
      obtain ⟨k, h1, h2, _⟩ := mem_want.1 ha
      simp at hb
      exact decide_eq_true (by omega)
    · exact ih
theorem sort_of_perm {lst w : List Int} (hp : lst.Perm w) (hw : w.Pairwise (fun a b => decide (a ≤ b) = true)) : sortI lst = w := by
  unfold sortI
  refine List.Perm.eq_of_pairwise (le := fun a b => decide (a ≤ b) = true) (fun a b _ _ h1 h2 => ?_) ?_ hw ((List.mergeSort_perm lst _).trans hp)
  · simp only [decide_eq_true_eq] at h1 h2; omega
  · exact List.pairwise_mergeSort (fun a b c h1 h2 => by simp only [decide_eq_true_eq] at *; omega) (fun a b => by simp only [Bool.or_eq_true, decide_eq_true_eq]; omega) lst
/-- Where a number stands. -/
theorem place_cases (l : List Int) (n : Int) : (∃ i : Nat, i < l.length ∧ l.getD i default = n ∧ placeG l n = i) ∨ n ∉ l ∧ placeG l n = -1 := by
  unfold placeG
  rcases first_cases l.length (fun i => decide (l.getD i default = n)) with ⟨i, h1, h2, _, h4⟩ | ⟨h1, h2⟩
  · exact .inl ⟨i, h1, of_decide_eq_true h2, h4⟩
  · refine .inr ⟨fun hm => ?_, h2⟩
    obtain ⟨i, hi, e⟩ := List.mem_iff_getElem.1 hm
    have := h1 i hi
    rw [decide_eq_false_iff_not, getD_of hi] at this
    exact this e
theorem place_nodup {l : List Int} (hn : l.Nodup) {i : Nat} (hi : i < l.length) : placeG l (l.getD i default) = i := by
  rcases place_cases l (l.getD i default) with ⟨j, h1, h2, h3⟩ | ⟨h1, _⟩
  · rw [getD_of hi, getD_of h1] at h2
    have := (List.getElem_inj hn).1 h2
    rw [h3, this]
  · exact absurd (by rw [getD_of hi]; exact List.getElem_mem _) h1

def inR (n : Nat) (j : Int) : Bool := decide (0 ≤ j) && decide (j < n)
def filtP (n : Nat) (lst : List Int) (i : Nat) : Nat → List RatG
  | 0 => []
  | k + 1 => if inR n (lst.getD k default) = true then filtP n lst i k ++ [⟨lst.getD k default, i⟩] else filtP n lst i k
def qW (D : List DeedG) (n t : Nat) (lst : List Int) : Nat → List RatG
  | 0 => []
  | i + 1 => if n ≤ i ∧ (D.getD i default).act.isW = true ∧ (D.getD i default).act.loc = t then qW D n t lst i ++ (⟨t, i⟩ :: filtP D.length lst i (placeG lst i).toNat) else qW D n t lst i
def qO (D : List DeedG) (n : Nat) (order : List (List Int × Bool)) : Nat → List RatG
  | 0 => []
  | t + 1 => qO D n order t ++ qW D n t (order.getD t default).1 D.length
theorem qW_0 {D : List DeedG} {n t : Nat} {lst : List Int} : ∀ {i : Nat}, i ≤ n → qW D n t lst i = [] := by
  intro i
  induction i with
  | zero => intro _; rfl
  | succ i ih => intro h; unfold qW; rw [if_neg (by omega), ih (by omega)]
theorem want_0 {D : List DeedG} {n t : Nat} : ∀ {i : Nat}, i ≤ n → wantTo D n t i = [] := by
  intro i
  induction i with
  | zero => intro _; rfl
  | succ i ih => intro h; unfold wantTo; rw [if_neg (by omega), ih (by omega)]
theorem mem_filtP {n : Nat} {lst : List Int} {i : Nat} {p : RatG} : ∀ {k : Nat}, p ∈ filtP n lst i k ↔ ∃ m, m < k ∧ inR n (lst.getD m default) = true ∧ p = ⟨lst.getD m default, i⟩ := by
  intro k
  induction k with
  | zero => simp [filtP]
  | succ k ih =>
    unfold filtP
    split
    · rename_i h
      rw [List.mem_append, ih]
      constructor
      · rintro (⟨m, h1, h2⟩ | h1)
        · exact ⟨m, by omega, h2⟩
        · exact ⟨k, by omega, h, by simpa using h1⟩
      · rintro ⟨m, h1, h2, h3⟩
        by_cases e : m = k
        · subst e; exact .inr (by simp [h3])
        · exact .inl ⟨m, by omega, h2, h3⟩
    · rename_i h
      rw [ih]
      constructor
      · rintro ⟨m, h1, h2⟩; exact ⟨m, by omega, h2⟩
      · rintro ⟨m, h1, h2, h3⟩
        by_cases e : m = k
        · subst e; exact absurd h2 h
        · exact ⟨m, by omega, h2, h3⟩
theorem mem_qW {D : List DeedG} {n t : Nat} {lst : List Int} {p : RatG} : ∀ {i : Nat}, p ∈ qW D n t lst i ↔ ∃ j : Nat, j < i ∧ n ≤ j ∧ (D.getD j default).act.isW = true ∧ (D.getD j default).act.loc = t ∧
    (p = ⟨t, j⟩ ∨ ∃ m : Nat, m < (placeG lst j).toNat ∧ inR D.length (lst.getD m default) = true ∧ p = ⟨lst.getD m default, j⟩) := by
  intro i
  induction i with
  | zero => simp [qW]
  | succ i ih =>
    unfold qW
    split
    · rename_i h
      rw [List.mem_append, ih, List.mem_cons, mem_filtP]
      constructor
      · rintro (⟨j, h1, h2⟩ | h1)
        · exact ⟨j, by omega, h2⟩
        · exact ⟨i, by omega, h.1, h.2.1, h.2.2, h1⟩
      · rintro ⟨j, h1, h2, h3, h4, h5⟩
        by_cases e : j = i
        · subst e; exact .inr h5
        · exact .inl ⟨j, by omega, h2, h3, h4, h5⟩
    · rename_i h
      rw [ih]
      constructor
      · rintro ⟨j, h1, h2⟩; exact ⟨j, by omega, h2⟩
      · rintro ⟨j, h1, h2, h3, h4, h5⟩
        by_cases e : j = i
        · subst e; exact absurd ⟨h2, h3, h4⟩ h
        · exact ⟨j, by omega, h2, h3, h4, h5⟩
theorem mem_qO {D : List DeedG} {n : Nat} {order : List (List Int × Bool)} {p : RatG} : ∀ {m : Nat}, p ∈ qO D n order m ↔ ∃ t, t < m ∧ p ∈ qW D n t (order.getD t default).1 D.length := by
  intro m
  induction m with
  | zero => simp [qO]
  | succ m ih =>
    unfold qO
    rw [List.mem_append, ih]
    constructor
    · rintro (⟨t, h1, h2⟩ | h1)
      · exact ⟨t, by omega, h2⟩
      · exact ⟨m, by omega, h1⟩
    · rintro ⟨t, h1, h2⟩
      by_cases e : t = m
      · subst e; exact .inr h2
      · exact .inl ⟨t, by omega, h2⟩
theorem ofP_iff {ps : List RatG} {a b : Nat} : ofP ps a b = true ↔ (⟨a, b⟩ : RatG) ∈ ps := by
  unfold ofP
  simp only [List.any_eq_true, Bool.and_eq_true, decide_eq_true_eq]
  constructor
  · rintro ⟨p, hp, h1, h2⟩
    have : p = ⟨a, b⟩ := by cases p; simp only at h1 h2; rw [h1, h2]
    rw [← this]; exact hp
  · exact fun h => ⟨_, h, rfl, rfl⟩
theorem ofG_in {n : Nat} (hn : n ≤ 64) {ps : List RatG} (h : ∀ p ∈ ps, 0 ≤ p.num ∧ p.num < n ∧ 0 ≤ p.den ∧ p.den < n) : ofG n ps = mkR n (ofP ps) := by
  have he : ofErr n ps = 0 := by
    unfold ofErr
    rw [if_neg (by omega), if_neg]
    rw [Bool.not_eq_true, List.any_eq_false]
    intro p hp
    obtain ⟨a, b, c, d⟩ := h p hp
    unfold ofBad
    rw [decide_eq_false (show ¬ p.num < 0 by omega), decide_eq_false (show ¬ (n : Int) ≤ p.num by omega), decide_eq_false (show ¬ p.den < 0 by omega), decide_eq_false (show ¬ (n : Int) ≤ p.den by omega)]
    simp
  unfold ofG
  rw [if_pos he, Int.toNat_natCast]
theorem line_get0 {order : List (List Int × Bool)} {t : Nat} : (lineG order t).getD 0 default = t := rfl
theorem line_getS {order : List (List Int × Bool)} {t k : Nat} : (lineG order t).getD (k + 1) default = (order.getD t default).1.getD k default := rfl
theorem line_len {order : List (List Int × Bool)} {t : Nat} : (lineG order t).length = (order.getD t default).1.length + 1 := rfl
section
variable {l : List LocG} {acts : List (List ActG × Bool)} {fr : List Int} {order : List (List Int × Bool)} {x : WG} (B : BuiltG l acts fr order x)
include B
/-- The pairs that the document tells are those of the order. -/
theorem BuiltG.told {ps : List RatG} (h : coG x.deeds l.length order l.length = some ps) (p : RatG) : p ∈ qO x.deeds l.length order l.length ↔ p ∈ ps := by
  rw [mem_qO, (co_mem h).1]
  constructor
  · rintro ⟨t, ht, hp⟩
    obtain ⟨j, h1, h2, h3, h4, h5⟩ := mem_qW.1 hp
    have hm : (j : Int) ∈ lineG order t := (B.line_mem ht).2 ⟨by omega, by omega, by rw [Int.toNat_natCast]; exact h3, by rw [Int.toNat_natCast]; exact h4⟩
    unfold lineG at hm
    rw [List.mem_cons] at hm
    rcases hm with hm | hm
    · omega
    · rcases place_cases (order.getD t default).1 j with ⟨y, q1, q2, q3⟩ | ⟨q1, _⟩
      · rcases h5 with h5 | ⟨m, h5, h6, h7⟩
        · exact ⟨t, 0, y + 1, ht, by omega, by rw [line_len]; omega, by rw [h5, line_get0, line_getS, q2]⟩
        · exact ⟨t, m + 1, y + 1, ht, by omega, by rw [line_len]; omega, by rw [h7, line_getS, line_getS, q2]⟩
      · exact absurd hm q1
  · rintro ⟨t, a, b, ht, h1, h2, h3⟩
    refine ⟨t, ht, ?_⟩
    obtain ⟨y, rfl⟩ : ∃ y, b = y + 1 := ⟨b - 1, by omega⟩
    rw [line_len] at h2
    have hn := B.line_nodup ht
    unfold lineG at hn
    rw [List.nodup_cons] at hn
    have hmem : (lineG order t).getD (y + 1) default ∈ lineG order t := by rw [getD_of (by rw [line_len]; omega)]; exact List.getElem_mem _
    have hwl := (B.line_mem ht).1 hmem
    rw [line_getS] at hwl
    have hne : (order.getD t default).1.getD y default ≠ (t : Int) := fun e => hn.1 (by rw [← e, getD_of (l := (order.getD t default).1) (i := y) (by omega)]; exact List.getElem_mem _)
    obtain ⟨g1, g2, g3, g4⟩ := hwl
    generalize hj : (order.getD t default).1.getD y default = j at *
    have hpl : placeG (order.getD t default).1 j = y := by rw [← hj]; exact place_nodup hn.2 (by omega)
    obtain ⟨j', rfl⟩ := Int.eq_ofNat_of_zero_le g1
    rw [Int.toNat_natCast] at g3 g4
    refine mem_qW.2 ⟨j', by omega, ?_, g3, g4, ?_⟩
    · apply Classical.byContradiction
      intro hlt
      rw [B.deeds, deeds_loc0 (by omega)] at g4
      exact hne (by omega)
    · rw [h3, hpl, line_getS, hj, Int.toNat_natCast]
      rcases a with _ | m
      · left; rw [line_get0]
      · right
        refine ⟨m, by omega, ?_, by rw [line_getS]⟩
        have hmem2 : (lineG order t).getD (m + 1) default ∈ lineG order t := by rw [getD_of (by rw [line_len]; omega)]; exact List.getElem_mem _
        have := (B.line_mem ht).1 hmem2
        rw [line_getS] at this
        unfold inR
        rw [decide_eq_true this.1, decide_eq_true this.2.1]; rfl
theorem BuiltG.told_co {ps : List RatG} (h : coG x.deeds l.length order l.length = some ps) : mkR x.deeds.length (ofP (qO x.deeds l.length order l.length)) = ofG x.deeds.length ps := by
  rw [ofG_in B.le (B.co_ok h)]
  exact mkR_congr fun a b _ _ => beq_of_iff (by rw [ofP_iff, ofP_iff, B.told h])
theorem BuiltG.told_rf {ps : List RatG} (h : rdG x.deeds fr x.deeds.length = some ([], ps)) : mkR x.deeds.length (ofP ps) = ofG x.deeds.length ps := by
  rw [ofG_in B.le (B.rd_ok h)]
end
/-- One location more. -/
theorem co_next {D : List DeedG} {n : Nat} {order : List (List Int × Bool)} {t : Nat} {ps : List RatG} (h : coG D n order t = some ps) (hs : ∀ j ∈ wantTo D n t D.length, j ∈ (order.getD t default).1) (hl : (wantTo D n t D.length).length = (order.getD t default).1.length) :
    ∃ ps', coG D n order (t + 1) = some ps' := by
  have hp := perm_of_sub _ _ want_nodup hs hl
  have hso := sort_of_perm hp.symm want_sorted
  unfold coG
  rw [h]
  simp only [hso, if_true]
  exact ⟨_, rfl⟩
theorem co_stop {D : List DeedG} {n : Nat} {order : List (List Int × Bool)} {t : Nat} {ps : List RatG} (h : coG D n order t = some ps) (hs : ¬ sortI (order.getD t default).1 = wantTo D n t D.length) : coG D n order (t + 1) = none := by
  unfold coG
  rw [h]
  simp only
  rw [if_neg hs]
end Go.Ago

/- The document's answer for layer 23: two worlds are the same; a world is built. Conditions: none. -/
set_option maxRecDepth 100000
set_option linter.unusedSimpArgs false
set_option linter.unusedVariables false
namespace Go.Ago
attribute [local irreducible] vck
def sameWG (a b : WG) : Bool := decide (a.locs = b.locs) && decide (a.deeds = b.deeds) && (decide (a.rf = b.rf) && decide (a.co = b.co))
structure WG.Few (x : WG) : Prop where
  locs : x.locs.length ≤ maxLen
  deeds : x.deeds.length ≤ maxLen
  rf : x.rf.length ≤ maxLen
  co : x.co.length ≤ maxLen
def sp_sameWG : Sp := ⟨WG × WG, fun x => [x.1.av, x.2.av], fun x => .data x.1.Few (.d (.bool (sameWG x.1 x.2))) true⟩
theorem at_sameWG (x y : WG) : sp_sameWG.at [.agg [.d (.list (x.locs.map LocG.row) x.lf), .d (.list (x.deeds.map DeedG.row) x.df), .d (.list (x.rf.map rowW) x.rff), .d (.list (x.co.map rowW) x.cof)], .agg [.d (.list (y.locs.map LocG.row) y.lf), .d (.list (y.deeds.map DeedG.row) y.df), .d (.list (y.rf.map rowW) y.rff), .d (.list (y.co.map rowW) y.cof)]] = .data x.Few (.d (.bool (sameWG x y))) true :=
  Sp.at_enc (s := sp_sameWG) (fun (x y : WG × WG) h => by
    simp only [sp_sameWG, List.cons.injEq, and_true] at h
    exact Prod.ext (WG.av_inj _ _ h.1) (WG.av_inj _ _ h.2)) (x, y)
theorem body_ref23_Same {T : Tab} {n1 n2 : Nat} (k1 : Knows T n1 sp_sameW) (k2 : Knows T n2 sp_sameLoc) : sp_sameWG.Body T V_ref23_Same (L_ref23_Same n1 n2) R_ref23_Same := by
  have F1 := k1.F; have G1 := k1.G; have F2 := k2.F; have G2 := k2.G
  rintro ⟨x, y⟩ hx
  have hx : x.Few := hx
  refine .inl ⟨rfl, ?_⟩
  unfold V_ref23_Same L_ref23_Same R_ref23_Same
  simp (maxSteps := 3000000) only [↓Z0p, ↓Z1l, ↓Z1t, ↓Z04, ↓Z2u, ↓Z2t, nilG_d, nilG_r, ↓Z0z, ↓Z0o, ↓Z0f, ↓Z1u, ↓Z0e, ↓Z0x, ↓Z36, ↓Z2p, ↓Z1w, ↓Z1p, ↓Z2y, ↓Z2d, ↓Z0w, ↓Z3c, ↓retK_n, ↓Z3y, ↓Z40, ↓Z3z, ↓Z49, ↓Z44, ↓Z4i, ↓Z0h, ↓Z08, ↓Z0s, ↓Z0d, ↓Z1q, Z47, Z07, Z1i, Z2k, Z1f, Z2n, evN, Z2g, Z0v, Z2m, Z4c, Z0u, Z0n, Z0q, Z35, Z2o, Z2c, Z1r, Z26, evT, Opd.ev, Z02, Z00, Z2l, Z4a, Z3l, Z29, Z1x, Z1s, Z27, Z3w, Z0y, Z0a, Z3e, LOp.isNew, State.prune, Z3p, Z2w, AV.leaf, Heap.at, Z0g, Z09, Z1j, Z0k, Z03, idx_I, idx_W, rowW, Z2i, Z37, Z2a, Z1o, rowB, Z3a, Z38, rowN, lens_W, Z41, Z1k, Z0t, w_or, w_and, Z3b, w_and1, w_shl, Z4g, w_shr, w_sub1, w_neg, w_add, w_bit, w_eq0, w_eq1, w_eq, Bool.decide_eq_true, Z3o, Z3j, Z3v, Z2z, Z1y, Z05, Z0c, Z0r, Z01, Z1m, rowI, RatG.row, LocG.row, ActG.row, StepG.row, StampG.row, ActG.av, ActG.eta, RatG.eta, LocG.eta, beq_true, beq_false, Z2q, Z34, Z2x, Z33, Z1e, Z12, Z1c, Z1d, Z11, Z10, Z0i, List.length_set, List.length_replicate, Z06, Int.reduceToNat, evLen, Z2h, Z48, Src.all, Src.len, Src.leaf, Src.leafN, Z3i, Z4h, joinV, Z0m, Z13, Z14, Z15, Z16, Z17, Z18, Z19, mkVec, drows, evMk, List.length_map, Z28, Z2b, List.take_length, List.take_left, List.length_append, Nat.le_add_right, ite_self, List.take_of_length_le, Z3n, intOr, Z4e, Option.isSome_none, Option.isSome_some, Nat.sub_zero, Z4f, loadT, Z4j, evUn, Z1g, Z1h, binT, binQ, chk, Z42, List.contains_cons, List.contains_nil, Bool.or_false, Bool.false_or, Bool.and_self, resQ, resV, resT, pickV, Z2f, Z4k, Z3k, fnOf, Z3g, isD, HO.drow, Z4m, Z46, evEq, eqV, eqK, eqC1, Z4d, Z4b, Z3h, Z3f, lens_I, Z3x, Z32, Z21, Z31, Z20, Z30, Z1z, Z22, Z1a, Z1b, Z0j, List.mem_cons, List.not_mem_nil, or_false, forall_eq, putRow, Z3m, Z1n, RetS, RetF, RetD, AV.frz, AV.frzL, AV.freshP, AV.freshL, DV.less, Z2r, Z23, Z2s, Z24, Z0l, Z0b, Option.some.injEq, AV.tup.injEq, AV.agg.injEq, List.cons.injEq, DV.list.injEq, List.isEmpty_nil, Nat.le_refl, AV.d.injEq, DV.int.injEq, DV.bool.injEq, ↓reduceIte, Nat.reduceEqDiff, Nat.reduceAdd, Nat.reduceBEq, List.length_cons, List.length_nil, List.replicate_succ, List.replicate_zero, List.nil_append, List.cons_append, List.append_nil, List.foldl_cons, List.foldl_nil, List.map_cons, List.map_nil, List.all_cons, List.all_nil, List.set_cons_zero, List.set_cons_succ, List.getD_cons_zero, List.getD_cons_succ, List.drop_zero, List.drop_succ_cons, List.take_succ_cons, List.take_zero, List.flatten_cons, List.flatten_nil, Bool.true_and, Bool.and_true, Bool.not_true, Bool.not_false, true_and, and_true, true_or, or_true, Option.bind_some, Option.map_some, decide_true, decide_false, beq_self_eq_true, true_implies, false_implies, implies_true, not_true_eq_false, not_false_eq_true, and_self, Bool.and_false, Bool.false_and, Nat.reduceLT, Nat.reduceLeDiff, List.reverse_cons, List.reverse_nil, Nat.zero_add, Nat.add_zero, Bool.false_eq_true, List.getElem?_cons_zero, Nat.reduceMul, Nat.mul_one, DeedG.row, Z45, sp_sameWG, WG.av, at_sameW, at_sameLoc, F1, G1, F2, G2]
  refine ⟨hx.locs, fun hl => ⟨fun hd => ?_, fun hd => ?_⟩, fun hl => by unfold sameWG; rw [decide_eq_false hl]; rfl⟩
  · have hd : x.deeds.length = y.deeds.length := by omega
    refine Loop.fam [2, 3, 5] (fun i : Nat => ⟨[(2, .ptr 0 4 0 0), (3, .ptr 1 4 0 0), (5, .d (.int .i64 i))], [x.hv, y.hv]⟩) (fun i => i ≤ x.deeds.length ∧ ∀ j, j < i → x.deeds.getD j default = y.deeds.getD j default) (fun i => x.deeds.length - i) 0 [0, 1] (by simp) (by simp) (by simp only [State.can, AV.can, AV.canL, HO.can, Z25, idx, Z02, Z00, Heap.at, Nat.reduceBEq, ↓reduceIte, Nat.reduceEqDiff, Option.getD_some, Option.map_some, List.map_cons, List.map_nil, List.getD_cons_zero, List.getD_cons_succ, WG.hv]; rfl) ⟨by omega, by omega⟩ ?_
    rintro i ⟨hi, hj⟩
    simp (maxSteps := 3000000) only [↓Z0p, ↓Z1l, ↓Z1t, ↓Z04, ↓Z2u, ↓Z2t, nilG_d, nilG_r, ↓Z0z, ↓Z0o, ↓Z0f, ↓Z1u, ↓Z0e, ↓Z0x, ↓Z36, ↓Z2p, ↓Z1w, ↓Z1p, ↓Z2y, ↓Z2d, ↓Z0w, ↓Z3c, ↓retK_n, ↓Z3y, ↓Z40, ↓Z3z, ↓Z49, ↓Z44, ↓Z4i, ↓Z0h, ↓Z08, ↓Z0s, ↓Z0d, ↓Z1q, Z47, Z07, Z1i, Z2k, Z1f, Z2n, evN, Z2g, Z0v, Z2m, Z4c, Z0u, Z0n, Z0q, Z35, Z2o, Z2c, Z1r, Z26, evT, Opd.ev, Z02, Z00, Z2l, Z4a, Z3l, Z29, Z1x, Z1s, Z27, Z3w, Z0y, Z0a, Z3e, LOp.isNew, State.prune, Z3p, Z2w, AV.leaf, Heap.at, Z0g, Z09, Z1j, Z0k, Z03, idx_I, idx_W, rowW, Z2i, Z37, Z2a, Z1o, rowB, Z3a, Z38, rowN, lens_W, Z41, Z1k, Z0t, w_or, w_and, Z3b, w_and1, w_shl, Z4g, w_shr, w_sub1, w_neg, w_add, w_bit, w_eq0, w_eq1, w_eq, Bool.decide_eq_true, Z3o, Z3j, Z3v, Z2z, Z1y, Z05, Z0c, Z0r, Z01, Z1m, rowI, RatG.row, LocG.row, ActG.row, StepG.row, StampG.row, ActG.av, ActG.eta, RatG.eta, LocG.eta, beq_true, beq_false, Z2q, Z34, Z2x, Z33, Z1e, Z12, Z1c, Z1d, Z11, Z10, Z0i, List.length_set, List.length_replicate, Z06, Int.reduceToNat, evLen, Z2h, Z48, Src.all, Src.len, Src.leaf, Src.leafN, Z3i, Z4h, joinV, Z0m, Z13, Z14, Z15, Z16, Z17, Z18, Z19, mkVec, drows, evMk, List.length_map, Z28, Z2b, List.take_length, List.take_left, List.length_append, Nat.le_add_right, ite_self, List.take_of_length_le, Z3n, intOr, Z4e, Option.isSome_none, Option.isSome_some, Nat.sub_zero, Z4f, loadT, Z4j, evUn, Z1g, Z1h, binT, binQ, chk, Z42, List.contains_cons, List.contains_nil, Bool.or_false, Bool.false_or, Bool.and_self, resQ, resV, resT, pickV, Z2f, Z4k, Z3k, fnOf, Z3g, isD, HO.drow, Z4m, Z46, evEq, eqV, eqK, eqC1, Z4d, Z4b, Z3h, Z3f, lens_I, Z3x, Z32, Z21, Z31, Z20, Z30, Z1z, Z22, Z1a, Z1b, Z0j, List.mem_cons, List.not_mem_nil, or_false, forall_eq, putRow, Z3m, Z1n, RetS, RetF, RetD, AV.frz, AV.frzL, AV.freshP, AV.freshL, DV.less, Z2r, Z23, Z2s, Z24, Z0l, Z0b, Option.some.injEq, AV.tup.injEq, AV.agg.injEq, List.cons.injEq, DV.list.injEq, List.isEmpty_nil, Nat.le_refl, AV.d.injEq, DV.int.injEq, DV.bool.injEq, ↓reduceIte, Nat.reduceEqDiff, Nat.reduceAdd, Nat.reduceBEq, List.length_cons, List.length_nil, List.replicate_succ, List.replicate_zero, List.nil_append, List.cons_append, List.append_nil, List.foldl_cons, List.foldl_nil, List.map_cons, List.map_nil, List.all_cons, List.all_nil, List.set_cons_zero, List.set_cons_succ, List.getD_cons_zero, List.getD_cons_succ, List.drop_zero, List.drop_succ_cons, List.take_succ_cons, List.take_zero, List.flatten_cons, List.flatten_nil, Bool.true_and, Bool.and_true, Bool.not_true, Bool.not_false, true_and, and_true, true_or, or_true, Option.bind_some, Option.map_some, decide_true, decide_false, beq_self_eq_true, true_implies, false_implies, implies_true, not_true_eq_false, not_false_eq_true, and_self, Bool.and_false, Bool.false_and, Nat.reduceLT, Nat.reduceLeDiff, List.reverse_cons, List.reverse_nil, Nat.zero_add, Nat.add_zero, Bool.false_eq_true, List.getElem?_cons_zero, Nat.reduceMul, Nat.mul_one, DeedG.row, Z45, WG.hv, at_sameW, at_sameLoc, F1, G1, F2, G2]
    refine ⟨fun c => ⟨⟨by omega, by omega⟩, ⟨by omega, by omega⟩, fun h => ?_, fun h => ?_⟩, fun c => ?_⟩
    · rw [wrap_succ (n := x.deeds.length) (by omega) hx.deeds]
      refine Z2v.mk [0, 1] (i + 1) (by simp) (by simp) (by simp only [State.can, AV.can, AV.canL, HO.can, Z25, idx, Z02, Z00, Heap.at, Nat.reduceBEq, ↓reduceIte, Nat.reduceEqDiff, Option.getD_some, Option.map_some, List.map_cons, List.map_nil, List.getD_cons_zero, List.getD_cons_succ]) ⟨by omega, fun j hj' => ?_⟩ (by omega)
      by_cases e : j = i
      · subst e
        obtain ⟨h1, h2⟩ := h
        simp only [Bool.and_eq_true, decide_eq_true_eq] at h1 h2
        generalize x.deeds.getD j default = a at *
        generalize y.deeds.getD j default = b at *
        obtain ⟨ath, ak, al, ao, an⟩ := a
        obtain ⟨bth, bk, bl, bo, bn⟩ := b
        simp only at h1 h2
        obtain ⟨e1, e2, e3, e4⟩ := h2
        rw [h1, e1, e2, e3, e4]
      · exact hj j (by omega)
    · have : ¬ x.deeds = y.deeds := fun e => by rw [e] at h; simp at h
      unfold sameWG; rw [decide_eq_false this, Bool.and_false]; rfl
    · have he : x.deeds = y.deeds := by
        refine List.ext_getElem hd fun j a b => ?_
        have := hj j (by omega)
        rw [getD_of a, getD_of b] at this
        exact this
      refine ⟨hx.rf, fun e1 => ⟨hx.co, ?_⟩, fun e1 => ?_⟩
      · unfold sameWG; rw [decide_eq_true hl, decide_eq_true he, decide_eq_true e1]; simp
      · unfold sameWG; rw [decide_eq_false e1]; simp
  · have : ¬ x.deeds = y.deeds := fun h => hd (by rw [h])
    unfold sameWG; rw [decide_eq_false this, Bool.and_false]; rfl
def bM (n : Nat) (ps : List RatG) : List W := mkR n (ofP ps)
theorem bM_len (n : Nat) (ps : List RatG) : (bM n ps).length = n := by unfold bM; rw [mkR_len]
theorem bM_sz {n : Nat} (hn : n ≤ 64) (ps : List RatG) : szR (bM n ps) = n := by unfold szR; rw [bM_len]; omega
theorem ofP_app (ps : List RatG) (p : RatG) (i k : Nat) : ofP (ps ++ [p]) i k = (ofP ps i k || (decide (p.num = i) && decide (p.den = k))) := by unfold ofP; rw [List.any_append]; simp
theorem put_bM {n : Nat} (hn : n ≤ 64) {ps : List RatG} {i k : Nat} (hi : i < n) (hk : k < n) : putR (bM n ps) i k = bM n (ps ++ [⟨i, k⟩]) := by
  unfold bM
  rw [putR_mk hn hi hk]
  refine mkR_congr fun a b _ _ => ?_
  rw [ofP_app, show decide ((i : Int) = (a : Int)) = decide (a = i) from decide_eq_decide.2 ⟨fun h => by omega, fun h => by omega⟩, show decide ((k : Int) = (b : Int)) = decide (b = k) from decide_eq_decide.2 ⟨fun h => by omega, fun h => by omega⟩]
theorem bM_nil (n : Nat) : List.replicate n 0#64 = bM n [] := by unfold bM; exact mkR_zero fun _ _ _ _ => rfl
def wHv (l : List LocG) (f : Bool) (D : List DeedG) : HO := .vec 4 [[.d (.list (l.map LocG.row) f), .d (.list (D.map DeedG.row) false), .ref 1 1 0 D.length true, .ref 2 1 0 D.length true]]
def gSt1 (l : List LocG) (f : Bool) (D : List DeedG) (fr : List Int) (ff : Bool) (order : List (List Int × Bool)) (og : Bool) (x : Nat × Nat × List RatG) : State :=
  ⟨[(0, .d (.list (l.map LocG.row) f)), (2, .d (.list (fr.map rowI) ff)), (3, .d (.list (order.map rowLI) og)), (8, .ptr 0 4 0 0), (10, .d (.list (D.map DeedG.row) false)), (12, .d (.int .i64 D.length)), (13, .ptr 3 4 0 0), (14, .d (.int .i64 x.2.1)), (15, .d (.int .i64 x.1))],
    [nilW, .dvec 1 ((bM D.length x.2.2).map rowW), .dvec 1 ((bM D.length []).map rowW), wHv l f D]⟩
def gH (l : List LocG) (f : Bool) (D : List DeedG) (ps qs : List RatG) : Heap := [nilW, .dvec 1 ((bM D.length ps).map rowW), .dvec 1 ((bM D.length qs).map rowW), wHv l f D]
def gSt2 (l : List LocG) (f : Bool) (D : List DeedG) (order : List (List Int × Bool)) (og : Bool) (ps : List RatG) (x : Nat × List RatG) : State :=
  ⟨[(0, .d (.list (l.map LocG.row) f)), (3, .d (.list (order.map rowLI) og)), (8, .ptr 0 4 0 0), (10, .d (.list (D.map DeedG.row) false)), (12, .d (.int .i64 D.length)), (13, .ptr 3 4 0 0), (19, .d (.int .i64 x.1))], gH l f D ps x.2⟩
def gSt3 (l : List LocG) (f : Bool) (D : List DeedG) (order : List (List Int × Bool)) (og : Bool) (ps : List RatG) (t : Nat) (x : Nat × Nat × List RatG) : State :=
  ⟨[(0, .d (.list (l.map LocG.row) f)), (3, .d (.list (order.map rowLI) og)), (8, .ptr 0 4 0 0), (10, .d (.list (D.map DeedG.row) false)), (12, .d (.int .i64 D.length)), (13, .ptr 3 4 0 0), (19, .d (.int .i64 t)), (20, .d (.int .i64 x.2.1)), (21, .d (.int .i64 x.1))], gH l f D ps x.2.2⟩
def gSt4 (l : List LocG) (f : Bool) (D : List DeedG) (order : List (List Int × Bool)) (og : Bool) (ps : List RatG) (t i c p : Nat) (x : Nat × List RatG) : State :=
  ⟨[(0, .d (.list (l.map LocG.row) f)), (3, .d (.list (order.map rowLI) og)), (8, .ptr 0 4 0 0), (10, .d (.list (D.map DeedG.row) false)), (12, .d (.int .i64 D.length)), (13, .ptr 3 4 0 0), (19, .d (.int .i64 t)), (20, .d (.int .i64 c)), (21, .d (.int .i64 i)), (22, .d (.int .i64 p)), (23, .d (.int .i64 x.1))], gH l f D ps x.2⟩
def gInv2 (l : List LocG) (D : List DeedG) (order : List (List Int × Bool)) (x : Nat × List RatG) : Prop := x.1 ≤ l.length ∧ (∃ co, coG D l.length order x.1 = some co) ∧ x.2 = qO D l.length order x.1
def gInv3 (l : List LocG) (D : List DeedG) (order : List (List Int × Bool)) (t : Nat) (x : Nat × Nat × List RatG) : Prop :=
  (l.length ≤ x.1 ∧ x.1 ≤ D.length) ∧ x.2.1 = (wantTo D l.length t x.1).length ∧ x.2.2 = qO D l.length order t ++ qW D l.length t (order.getD t default).1 x.1 ∧ ∀ j ∈ wantTo D l.length t x.1, j ∈ (order.getD t default).1
def gInv4 (D : List DeedG) (lst : List Int) (t i p : Nat) (qs : List RatG) (x : Nat × List RatG) : Prop := x.1 ≤ p ∧ x.2 = qs ++ (⟨t, i⟩ :: filtP D.length lst i x.1)
def gInv1 (D : List DeedG) (fr : List Int) (x : Nat × Nat × List RatG) : Prop := x.1 ≤ D.length ∧ x.2.1 ≤ fr.length ∧ rdG D fr x.1 = some (fr.drop x.2.1, x.2.2)
set_option maxHeartbeats 4000000 in
theorem body_ref23_Build {T : Tab} {n1 n2 n3 n4 n5 : Nat} (k1 : Knows T n1 sp_Deeds) (k2 : Knows T n2 (sp_act_b ActG.isW)) (k3 : Knows T n3 (sp_act_b ActG.isR)) (k4 : KnowsG T n4 ef_Put.at) (k5 : Knows T n5 sp_place) : sp_Build.Body T V_ref23_Build (L_ref23_Build n1 n2 n3 n4 n5) R_ref23_Build := by
  have F1 := k1.F; have G1 := k1.G; have F2 := k2.F; have G2 := k2.G; have F3 := k3.F; have G3 := k3.G; have G4 := k4.G; have F5 := k5.F; have G5 := k5.G
  rintro ⟨⟨l, f, acts, g⟩, fr, ff, order, og⟩ hs
  have hs : smallB l acts fr order := hs
  obtain ⟨hA, h3, h4, h5⟩ := hs
  have hn := deeds_le l acts
  refine ⟨rfl, ?_⟩
  unfold V_ref23_Build L_ref23_Build R_ref23_Build
  simp (maxSteps := 3000000) only [sp_Build, ↓Z0p, ↓Z1l, ↓Z1t, ↓Z04, ↓Z2u, ↓Z2t, nilG_d, nilG_r, ↓Z0z, ↓Z0o, ↓Z0f, ↓Z1u, ↓Z0e, ↓Z0x, ↓Z36, ↓Z2p, ↓Z1w, ↓Z1p, ↓Z2y, ↓Z2d, ↓Z0w, ↓Z3c, ↓retK_n, ↓Z3y, ↓Z40, ↓Z3z, ↓Z49, ↓Z44, ↓Z4i, ↓Z0h, ↓Z08, ↓Z0s, ↓Z0d, ↓Z1q, Z47, Z07, Z1i, Z2k, Z1f, Z2n, evN, Z2g, Z0v, Z2m, Z4c, Z0u, Z0n, Z0q, Z35, Z2o, Z2c, Z1r, Z26, evT, Opd.ev, Z02, Z00, Z2l, Z4a, Z3l, Z29, Z1x, Z1s, Z27, Z3w, Z0y, Z0a, Z3e, LOp.isNew, State.prune, Z3p, Z2w, AV.leaf, Heap.at, Z0g, Z09, Z1j, Z0k, Z03, idx_I, idx_W, rowW, Z2i, Z37, Z2a, Z1o, rowB, Z3a, Z38, rowN, lens_W, Z41, Z1k, Z0t, w_or, w_and, Z3b, w_and1, w_shl, Z4g, w_shr, w_sub1, w_neg, w_add, w_bit, w_eq0, w_eq1, w_eq, Bool.decide_eq_true, Z3o, Z3j, Z3v, Z2z, Z1y, Z05, Z0c, Z0r, Z01, Z1m, rowI, RatG.row, LocG.row, ActG.row, StepG.row, StampG.row, ActG.av, ActG.eta, RatG.eta, LocG.eta, beq_true, beq_false, Z2q, Z34, Z2x, Z33, Z1e, Z12, Z1c, Z1d, Z11, Z10, Z0i, List.length_set, List.length_replicate, Z06, Int.reduceToNat, evLen, Z2h, Z48, Src.all, Src.len, Src.leaf, Src.leafN, Z3i, Z4h, joinV, Z0m, Z13, Z14, Z15, Z16, Z17, Z18, Z19, mkVec, drows, evMk, List.length_map, Z28, Z2b, List.take_length, List.take_left, List.length_append, Nat.le_add_right, ite_self, List.take_of_length_le, Z3n, intOr, Z4e, Option.isSome_none, Option.isSome_some, Nat.sub_zero, Z4f, loadT, Z4j, evUn, Z1g, Z1h, binT, binQ, chk, Z42, List.contains_cons, List.contains_nil, Bool.or_false, Bool.false_or, Bool.and_self, resQ, resV, resT, pickV, Z2f, Z4k, Z3k, fnOf, Z3g, isD, HO.drow, Z4m, Z46, evEq, eqV, eqK, eqC1, Z4d, Z4b, Z3h, Z3f, lens_I, Z3x, Z32, Z21, Z31, Z20, Z30, Z1z, Z22, Z1a, Z1b, Z0j, List.mem_cons, List.not_mem_nil, or_false, forall_eq, putRow, Z3m, Z1n, RetS, RetF, RetD, AV.frz, AV.frzL, AV.freshP, AV.freshL, DV.less, Z2r, Z23, Z2s, Z24, Z0l, Z0b, Option.some.injEq, AV.tup.injEq, AV.agg.injEq, List.cons.injEq, DV.list.injEq, List.isEmpty_nil, Nat.le_refl, AV.d.injEq, DV.int.injEq, DV.bool.injEq, ↓reduceIte, Nat.reduceEqDiff, Nat.reduceAdd, Nat.reduceBEq, List.length_cons, List.length_nil, List.replicate_succ, List.replicate_zero, List.nil_append, List.cons_append, List.append_nil, List.foldl_cons, List.foldl_nil, List.map_cons, List.map_nil, List.all_cons, List.all_nil, List.set_cons_zero, List.set_cons_succ, List.getD_cons_zero, List.getD_cons_succ, List.drop_zero, List.drop_succ_cons, List.take_succ_cons, List.take_zero, List.flatten_cons, List.flatten_nil, Bool.true_and, Bool.and_true, Bool.not_true, Bool.not_false, true_and, and_true, true_or, or_true, Option.bind_some, Option.map_some, decide_true, decide_false, beq_self_eq_true, true_implies, false_implies, implies_true, not_true_eq_false, not_false_eq_true, and_self, Bool.and_false, Bool.false_and, Nat.reduceLT, Nat.reduceLeDiff, List.reverse_cons, List.reverse_nil, Nat.zero_add, Nat.add_zero, Bool.false_eq_true, List.getElem?_cons_zero, Nat.reduceMul, Nat.mul_one, DeedG.row, Z45, Z2j, Z1v, Z3q, Z3d, idx_LA, Z3s, Z3r, idx_LI, Z3u, Z3t, at_Deeds, at_act_b, at_Put, at_place, F1, G1, F2, G2, F3, G3, G4, F5, G5, putE_d, Z06, mkR_len]
  refine ⟨hA, fun he => ?_, fun he => ?_⟩
  · generalize hD : (deedsG l acts).1 = D at hn ⊢
    have hroom : 0 ≤ (D.length : Int) ∧ (D.length : Int) ≤ D.length ∧ roomy D.length 8 := ⟨by omega, by omega, roomy_of (by omega) (by omega)⟩
    have hml : D.length ≤ maxLen := by unfold maxLen; omega
    refine ⟨hroom, hroom, ?_⟩
    refine Loop.fam [0, 2, 3, 8, 10, 12, 13, 14, 15] (gSt1 l f D fr ff order og) (gInv1 D fr) (fun x => D.length - x.1) (0, 0, []) [0, 1, 2, 3] (by simp) (by simp) (by
      simp only [State.can, AV.can, AV.canL, HO.can, Z25, idx, Z02, Z00, Heap.at, Nat.reduceBEq, ↓reduceIte, Nat.reduceEqDiff, Option.getD_some, Option.map_some, List.map_cons, List.map_nil, List.getD_cons_zero, List.getD_cons_succ, gSt1, wHv, nilW]
      rw [bM_nil]; rfl) ⟨Nat.zero_le _, Nat.zero_le _, rfl⟩ ?_
    rintro ⟨i, at_, ps⟩ ⟨i1, i2, i3⟩
    have i1 : i ≤ D.length := i1
    have i2 : at_ ≤ fr.length := i2
    have i3 : rdG D fr i = some (fr.drop at_, ps) := i3
    simp (maxSteps := 3000000) only [gSt1, wHv, nilW, ↓Z0p, ↓Z1l, ↓Z1t, ↓Z04, ↓Z2u, ↓Z2t, nilG_d, nilG_r, ↓Z0z, ↓Z0o, ↓Z0f, ↓Z1u, ↓Z0e, ↓Z0x, ↓Z36, ↓Z2p, ↓Z1w, ↓Z1p, ↓Z2y, ↓Z2d, ↓Z0w, ↓Z3c, ↓retK_n, ↓Z3y, ↓Z40, ↓Z3z, ↓Z49, ↓Z44, ↓Z4i, ↓Z0h, ↓Z08, ↓Z0s, ↓Z0d, ↓Z1q, Z47, Z07, Z1i, Z2k, Z1f, Z2n, evN, Z2g, Z0v, Z2m, Z4c, Z0u, Z0n, Z0q, Z35, Z2o, Z2c, Z1r, Z26, evT, Opd.ev, Z02, Z00, Z2l, Z4a, Z3l, Z29, Z1x, Z1s, Z27, Z3w, Z0y, Z0a, Z3e, LOp.isNew, State.prune, Z3p, Z2w, AV.leaf, Heap.at, Z0g, Z09, Z1j, Z0k, Z03, idx_I, idx_W, rowW, Z2i, Z37, Z2a, Z1o, rowB, Z3a, Z38, rowN, lens_W, Z41, Z1k, Z0t, w_or, w_and, Z3b, w_and1, w_shl, Z4g, w_shr, w_sub1, w_neg, w_add, w_bit, w_eq0, w_eq1, w_eq, Bool.decide_eq_true, Z3o, Z3j, Z3v, Z2z, Z1y, Z05, Z0c, Z0r, Z01, Z1m, rowI, RatG.row, LocG.row, ActG.row, StepG.row, StampG.row, ActG.av, ActG.eta, RatG.eta, LocG.eta, beq_true, beq_false, Z2q, Z34, Z2x, Z33, Z1e, Z12, Z1c, Z1d, Z11, Z10, Z0i, List.length_set, List.length_replicate, Z06, Int.reduceToNat, evLen, Z2h, Z48, Src.all, Src.len, Src.leaf, Src.leafN, Z3i, Z4h, joinV, Z0m, Z13, Z14, Z15, Z16, Z17, Z18, Z19, mkVec, drows, evMk, List.length_map, Z28, Z2b, List.take_length, List.take_left, List.length_append, Nat.le_add_right, ite_self, List.take_of_length_le, Z3n, intOr, Z4e, Option.isSome_none, Option.isSome_some, Nat.sub_zero, Z4f, loadT, Z4j, evUn, Z1g, Z1h, binT, binQ, chk, Z42, List.contains_cons, List.contains_nil, Bool.or_false, Bool.false_or, Bool.and_self, resQ, resV, resT, pickV, Z2f, Z4k, Z3k, fnOf, Z3g, isD, HO.drow, Z4m, Z46, evEq, eqV, eqK, eqC1, Z4d, Z4b, Z3h, Z3f, lens_I, Z3x, Z32, Z21, Z31, Z20, Z30, Z1z, Z22, Z1a, Z1b, Z0j, List.mem_cons, List.not_mem_nil, or_false, forall_eq, putRow, Z3m, Z1n, RetS, RetF, RetD, AV.frz, AV.frzL, AV.freshP, AV.freshL, DV.less, Z2r, Z23, Z2s, Z24, Z0l, Z0b, Option.some.injEq, AV.tup.injEq, AV.agg.injEq, List.cons.injEq, DV.list.injEq, List.isEmpty_nil, Nat.le_refl, AV.d.injEq, DV.int.injEq, DV.bool.injEq, ↓reduceIte, Nat.reduceEqDiff, Nat.reduceAdd, Nat.reduceBEq, List.length_cons, List.length_nil, List.replicate_succ, List.replicate_zero, List.nil_append, List.cons_append, List.append_nil, List.foldl_cons, List.foldl_nil, List.map_cons, List.map_nil, List.all_cons, List.all_nil, List.set_cons_zero, List.set_cons_succ, List.getD_cons_zero, List.getD_cons_succ, List.drop_zero, List.drop_succ_cons, List.take_succ_cons, List.take_zero, List.flatten_cons, List.flatten_nil, Bool.true_and, Bool.and_true, Bool.not_true, Bool.not_false, true_and, and_true, true_or, or_true, Option.bind_some, Option.map_some, decide_true, decide_false, beq_self_eq_true, true_implies, false_implies, implies_true, not_true_eq_false, not_false_eq_true, and_self, Bool.and_false, Bool.false_and, Nat.reduceLT, Nat.reduceLeDiff, List.reverse_cons, List.reverse_nil, Nat.zero_add, Nat.add_zero, Bool.false_eq_true, List.getElem?_cons_zero, Nat.reduceMul, Nat.mul_one, DeedG.row, Z45, Z2j, Z1v, Z3q, Z3d, idx_LA, Z3s, Z3r, idx_LI, Z3u, Z3t, at_Deeds, at_act_b, at_Put, at_place, F1, G1, F2, G2, F3, G3, G4, F5, G5, putE_d, Z06, mkR_len, bM_len, bM_sz hn]
    have hfail : rdG D fr (i + 1) = none → i < D.length → buildG l acts fr order = (WG.none, 3) := fun h hi => by
      unfold buildG
      rw [if_neg (by rw [he]; simp), hD, rd_none h (by omega)]
    have hq : (fr.drop at_).getD 0 default = fr.getD at_ default := by
      rw [List.getD_eq_getElem?_getD, List.getD_eq_getElem?_getD, List.getElem?_drop, Nat.add_zero]
    have hbad : (D.getD i default).act.isR = true → i < D.length → okR D (fr.getD at_ default) i = false → (AV.agg [AV.d (DV.list [] false), AV.d (DV.list [] false), AV.d (DV.list [] false), AV.d (DV.list [] false)] = (buildG l acts fr order).fst.av ∧ 3 = (buildG l acts fr order).snd) := fun hR hi hk => by
      rw [hfail (rd_bad i3 hR (by rw [hq]; exact hk)) hi]; exact ⟨rfl, rfl⟩
    refine ⟨fun e => ?_, fun e => ?_⟩
    · have e' : i < D.length := by omega
      have w1 : IntKind.i64.wrap ((i : Int) + 1) = ((i + 1 : Nat) : Int) := by rw [wrap_id (by omega) (by omega)]; omega
      rw [w1]
      refine ⟨⟨by omega, by omega⟩, fun hR => ⟨fun h0 => ?_, fun h0 => ⟨⟨by omega, by omega⟩, fun c1 => ?_, fun c1 => ⟨fun c2 => ?_, fun c2 => ⟨fun c3 => ?_, fun c3 => ⟨⟨by omega, by omega⟩, ⟨by omega, by omega⟩, fun c4 => ⟨fun c5 => ⟨fun c6 => ⟨⟨hn, ⟨by omega, by omega⟩, by omega, by omega⟩, ?_⟩, fun c6 => ?_⟩, fun c5 => ?_⟩, fun c4 => ?_⟩⟩⟩⟩⟩, fun hR => ?_⟩
      · have hr : fr.drop at_ = [] := List.drop_eq_nil_of_le (by omega)
        rw [hr] at i3
        rw [hfail (rd_end i3 hR) e']; exact ⟨rfl, rfl⟩
      · exact hbad hR e' (by unfold okR; rw [decide_eq_false (by omega)]; simp)
      · exact hbad hR e' (by unfold okR; rw [decide_eq_false (show ¬ fr.getD at_ default < (D.length : Int) by omega)]; simp)
      · exact hbad hR e' (by unfold okR; rw [decide_eq_true c3]; simp)
      · have hr0 : fr.drop at_ ≠ [] := fun h => by
          have := List.drop_eq_nil_iff.1 h
          omega
        have hk : okR D (fr.getD at_ default) i = true := by
          unfold okR
          rw [decide_eq_true (show 0 ≤ fr.getD at_ default by omega), decide_eq_true (show fr.getD at_ default < (D.length : Int) by omega), decide_eq_false c3, c4, decide_eq_true c5, decide_eq_true c6]; rfl
        have hy := rd_yes i3 hR hr0 (by rw [hq]; exact hk)
        rw [hq, List.drop_drop] at hy
        have w2 : IntKind.i64.wrap ((at_ : Int) + 1) = ((at_ + 1 : Nat) : Int) := by rw [wrap_id (by omega) (by omega)]; omega
        rw [w2, put_bM hn (by omega) e', Int.toNat_of_nonneg (by omega)]
        exact Z2v.mk [0, 1, 2, 3] (i + 1, at_ + 1, ps ++ [⟨fr.getD at_ default, i⟩]) (by simp) (by simp) (by simp only [State.can, AV.can, AV.canL, HO.can, Z25, idx, Z02, Z00, Heap.at, Nat.reduceBEq, ↓reduceIte, Nat.reduceEqDiff, Option.getD_some, Option.map_some, List.map_cons, List.map_nil, List.getD_cons_zero, List.getD_cons_succ, gSt1, wHv, nilW]) ⟨by show i + 1 ≤ _; omega, by show at_ + 1 ≤ _; omega, hy⟩ (by show D.length - (i + 1) < D.length - i; omega)
      · exact hbad hR e' (by unfold okR; rw [decide_eq_false c6]; simp)
      · exact hbad hR e' (by unfold okR; rw [decide_eq_false c5]; simp)
      · exact hbad hR e' (by unfold okR; rw [c4]; simp)
      · exact Z2v.mk [0, 1, 2, 3] (i + 1, at_, ps) (by simp) (by simp) (by simp only [State.can, AV.can, AV.canL, HO.can, Z25, idx, Z02, Z00, Heap.at, Nat.reduceBEq, ↓reduceIte, Nat.reduceEqDiff, Option.getD_some, Option.map_some, List.map_cons, List.map_nil, List.getD_cons_zero, List.getD_cons_succ, gSt1, wHv, nilW]) ⟨by show i + 1 ≤ _; omega, i2, rd_no i3 hR⟩ (by show D.length - (i + 1) < D.length - i; omega)
    · have e' : i = D.length := by omega
      subst e'
      have hb3 : (fr.drop at_ ≠ [] ∨ order.length ≠ l.length) → buildG l acts fr order = (WG.none, 3) := fun h => by
        unfold buildG
        rw [if_neg (by rw [he]; simp), hD, i3]
        simp only
        rw [if_pos h]
      refine ⟨fun c => ?_, fun c => ⟨fun hol => ?_, fun hol => ?_⟩⟩
      · rw [hb3 (.inl fun h => by have := List.drop_eq_nil_iff.1 h; omega)]; exact ⟨rfl, rfl⟩
      · have hol : order.length = l.length := by omega
        have hd0 : fr.drop at_ = [] := List.drop_eq_nil_of_le (by omega)
        rw [hd0] at i3
        have hll : l.length ≤ D.length := by
          have : D = deedsAll l acts := by
            rw [← hD]; unfold deedsG at he ⊢
            split at he
            · simp at he
            · split at he
              · simp at he
              · split at he
                · simp at he
                · rename_i q1 q2 q3
                  rw [if_neg q1, if_neg q2, if_neg q3]
          rw [this]; exact deeds_ge l acts
        have hco : coG D l.length order l.length = none → buildG l acts fr order = (WG.none, 3) := fun h => by
          unfold buildG
          rw [if_neg (by rw [he]; simp), hD, i3]
          simp only
          rw [if_neg (by simp [hol]), h]
        refine Loop.fam [0, 3, 8, 10, 12, 13, 19] (gSt2 l f D order og ps) (gInv2 l D order) (fun x => l.length - x.1) (0, []) [0, 1, 2, 3] (by simp) (by simp) (by simp only [State.can, AV.can, AV.canL, HO.can, Z25, idx, Z02, Z00, Heap.at, Nat.reduceBEq, ↓reduceIte, Nat.reduceEqDiff, Option.getD_some, Option.map_some, List.map_cons, List.map_nil, List.getD_cons_zero, List.getD_cons_succ, gSt2, gH, wHv, nilW]; rfl) ⟨Nat.zero_le _, ⟨[], rfl⟩, rfl⟩ ?_
        rintro ⟨t, qs⟩ ⟨t1, ⟨co, t2⟩, t3⟩
        have t1 : t ≤ l.length := t1
        have t2 : coG D l.length order t = some co := t2
        have t3 : qs = qO D l.length order t := t3
        simp (maxSteps := 3000000) only [gSt2, gH, wHv, nilW, ↓Z0p, ↓Z1l, ↓Z1t, ↓Z04, ↓Z2u, ↓Z2t, nilG_d, nilG_r, ↓Z0z, ↓Z0o, ↓Z0f, ↓Z1u, ↓Z0e, ↓Z0x, ↓Z36, ↓Z2p, ↓Z1w, ↓Z1p, ↓Z2y, ↓Z2d, ↓Z0w, ↓Z3c, ↓retK_n, ↓Z3y, ↓Z40, ↓Z3z, ↓Z49, ↓Z44, ↓Z4i, ↓Z0h, ↓Z08, ↓Z0s, ↓Z0d, ↓Z1q, Z47, Z07, Z1i, Z2k, Z1f, Z2n, evN, Z2g, Z0v, Z2m, Z4c, Z0u, Z0n, Z0q, Z35, Z2o, Z2c, Z1r, Z26, evT, Opd.ev, Z02, Z00, Z2l, Z4a, Z3l, Z29, Z1x, Z1s, Z27, Z3w, Z0y, Z0a, Z3e, LOp.isNew, State.prune, Z3p, Z2w, AV.leaf, Heap.at, Z0g, Z09, Z1j, Z0k, Z03, idx_I, idx_W, rowW, Z2i, Z37, Z2a, Z1o, rowB, Z3a, Z38, rowN, lens_W, Z41, Z1k, Z0t, w_or, w_and, Z3b, w_and1, w_shl, Z4g, w_shr, w_sub1, w_neg, w_add, w_bit, w_eq0, w_eq1, w_eq, Bool.decide_eq_true, Z3o, Z3j, Z3v, Z2z, Z1y, Z05, Z0c, Z0r, Z01, Z1m, rowI, RatG.row, LocG.row, ActG.row, StepG.row, StampG.row, ActG.av, ActG.eta, RatG.eta, LocG.eta, beq_true, beq_false, Z2q, Z34, Z2x, Z33, Z1e, Z12, Z1c, Z1d, Z11, Z10, Z0i, List.length_set, List.length_replicate, Z06, Int.reduceToNat, evLen, Z2h, Z48, Src.all, Src.len, Src.leaf, Src.leafN, Z3i, Z4h, joinV, Z0m, Z13, Z14, Z15, Z16, Z17, Z18, Z19, mkVec, drows, evMk, List.length_map, Z28, Z2b, List.take_length, List.take_left, List.length_append, Nat.le_add_right, ite_self, List.take_of_length_le, Z3n, intOr, Z4e, Option.isSome_none, Option.isSome_some, Nat.sub_zero, Z4f, loadT, Z4j, evUn, Z1g, Z1h, binT, binQ, chk, Z42, List.contains_cons, List.contains_nil, Bool.or_false, Bool.false_or, Bool.and_self, resQ, resV, resT, pickV, Z2f, Z4k, Z3k, fnOf, Z3g, isD, HO.drow, Z4m, Z46, evEq, eqV, eqK, eqC1, Z4d, Z4b, Z3h, Z3f, lens_I, Z3x, Z32, Z21, Z31, Z20, Z30, Z1z, Z22, Z1a, Z1b, Z0j, List.mem_cons, List.not_mem_nil, or_false, forall_eq, putRow, Z3m, Z1n, RetS, RetF, RetD, AV.frz, AV.frzL, AV.freshP, AV.freshL, DV.less, Z2r, Z23, Z2s, Z24, Z0l, Z0b, Option.some.injEq, AV.tup.injEq, AV.agg.injEq, List.cons.injEq, DV.list.injEq, List.isEmpty_nil, Nat.le_refl, AV.d.injEq, DV.int.injEq, DV.bool.injEq, ↓reduceIte, Nat.reduceEqDiff, Nat.reduceAdd, Nat.reduceBEq, List.length_cons, List.length_nil, List.replicate_succ, List.replicate_zero, List.nil_append, List.cons_append, List.append_nil, List.foldl_cons, List.foldl_nil, List.map_cons, List.map_nil, List.all_cons, List.all_nil, List.set_cons_zero, List.set_cons_succ, List.getD_cons_zero, List.getD_cons_succ, List.drop_zero, List.drop_succ_cons, List.take_succ_cons, List.take_zero, List.flatten_cons, List.flatten_nil, Bool.true_and, Bool.and_true, Bool.not_true, Bool.not_false, true_and, and_true, true_or, or_true, Option.bind_some, Option.map_some, decide_true, decide_false, beq_self_eq_true, true_implies, false_implies, implies_true, not_true_eq_false, not_false_eq_true, and_self, Bool.and_false, Bool.false_and, Nat.reduceLT, Nat.reduceLeDiff, List.reverse_cons, List.reverse_nil, Nat.zero_add, Nat.add_zero, Bool.false_eq_true, List.getElem?_cons_zero, Nat.reduceMul, Nat.mul_one, DeedG.row, Z45, Z2j, Z1v, Z3q, Z3d, idx_LA, Z3s, Z3r, idx_LI, Z3u, Z3t, at_Deeds, at_act_b, at_Put, at_place, F1, G1, F2, G2, F3, G3, G4, F5, G5, putE_d, Z06, mkR_len, bM_len, bM_sz hn]
        refine ⟨fun c2 => ?_, fun c2 => ?_⟩
        · refine Loop.fam [0, 3, 8, 10, 12, 13, 19, 20, 21] (gSt3 l f D order og ps t) (gInv3 l D order t) (fun x => D.length - x.1) (l.length, 0, qs) [0, 1, 2, 3] (by simp) (by simp) (by simp only [State.can, AV.can, AV.canL, HO.can, Z25, idx, Z02, Z00, Heap.at, Nat.reduceBEq, ↓reduceIte, Nat.reduceEqDiff, Option.getD_some, Option.map_some, List.map_cons, List.map_nil, List.getD_cons_zero, List.getD_cons_succ, gSt3, gH, wHv, nilW]; rfl) ⟨⟨Nat.le_refl _, hll⟩, by rw [want_0 (Nat.le_refl _)]; rfl, by rw [qW_0 (Nat.le_refl _), List.append_nil]; exact t3, by rw [want_0 (Nat.le_refl _)]; simp⟩ ?_
          rintro ⟨i, cnt, rs⟩ ⟨⟨j0, j1⟩, j2, j3, j4⟩
          have j0 : l.length ≤ i := j0
          have j1 : i ≤ D.length := j1
          have j2 : cnt = (wantTo D l.length t i).length := j2
          have j3 : rs = qO D l.length order t ++ qW D l.length t (order.getD t default).1 i := j3
          have j4 : ∀ j ∈ wantTo D l.length t i, j ∈ (order.getD t default).1 := j4
          have hwl : (wantTo D l.length t i).length ≤ i := want_le D l.length t i
          have ht : t < l.length := by omega
          have hlst : (order.getD t default).1.length ≤ 100 := h5 _ (by rw [getD_of (by omega)]; exact List.getElem_mem _)
          simp (maxSteps := 3000000) only [gSt3, gH, wHv, nilW, ↓Z0p, ↓Z1l, ↓Z1t, ↓Z04, ↓Z2u, ↓Z2t, nilG_d, nilG_r, ↓Z0z, ↓Z0o, ↓Z0f, ↓Z1u, ↓Z0e, ↓Z0x, ↓Z36, ↓Z2p, ↓Z1w, ↓Z1p, ↓Z2y, ↓Z2d, ↓Z0w, ↓Z3c, ↓retK_n, ↓Z3y, ↓Z40, ↓Z3z, ↓Z49, ↓Z44, ↓Z4i, ↓Z0h, ↓Z08, ↓Z0s, ↓Z0d, ↓Z1q, Z47, Z07, Z1i, Z2k, Z1f, Z2n, evN, Z2g, Z0v, Z2m, Z4c, Z0u, Z0n, Z0q, Z35, Z2o, Z2c, Z1r, Z26, evT, Opd.ev, Z02, Z00, Z2l, Z4a, Z3l, Z29, Z1x, Z1s, Z27, Z3w, Z0y, Z0a, Z3e, LOp.isNew, State.prune, Z3p, Z2w, AV.leaf, Heap.at, Z0g, Z09, Z1j, Z0k, Z03, idx_I, idx_W, rowW, Z2i, Z37, Z2a, Z1o, rowB, Z3a, Z38, rowN, lens_W, Z41, Z1k, Z0t, w_or, w_and, Z3b, w_and1, w_shl, Z4g, w_shr, w_sub1, w_neg, w_add, w_bit, w_eq0, w_eq1, w_eq, Bool.decide_eq_true, Z3o, Z3j, Z3v, Z2z, Z1y, Z05, Z0c, Z0r, Z01, Z1m, rowI, RatG.row, LocG.row, ActG.row, StepG.row, StampG.row, ActG.av, ActG.eta, RatG.eta, LocG.eta, beq_true, beq_false, Z2q, Z34, Z2x, Z33, Z1e, Z12, Z1c, Z1d, Z11, Z10, Z0i, List.length_set, List.length_replicate, Z06, Int.reduceToNat, evLen, Z2h, Z48, Src.all, Src.len, Src.leaf, Src.leafN, Z3i, Z4h, joinV, Z0m, Z13, Z14, Z15, Z16, Z17, Z18, Z19, mkVec, drows, evMk, List.length_map, Z28, Z2b, List.take_length, List.take_left, List.length_append, Nat.le_add_right, ite_self, List.take_of_length_le, Z3n, intOr, Z4e, Option.isSome_none, Option.isSome_some, Nat.sub_zero, Z4f, loadT, Z4j, evUn, Z1g, Z1h, binT, binQ, chk, Z42, List.contains_cons, List.contains_nil, Bool.or_false, Bool.false_or, Bool.and_self, resQ, resV, resT, pickV, Z2f, Z4k, Z3k, fnOf, Z3g, isD, HO.drow, Z4m, Z46, evEq, eqV, eqK, eqC1, Z4d, Z4b, Z3h, Z3f, lens_I, Z3x, Z32, Z21, Z31, Z20, Z30, Z1z, Z22, Z1a, Z1b, Z0j, List.mem_cons, List.not_mem_nil, or_false, forall_eq, putRow, Z3m, Z1n, RetS, RetF, RetD, AV.frz, AV.frzL, AV.freshP, AV.freshL, DV.less, Z2r, Z23, Z2s, Z24, Z0l, Z0b, Option.some.injEq, AV.tup.injEq, AV.agg.injEq, List.cons.injEq, DV.list.injEq, List.isEmpty_nil, Nat.le_refl, AV.d.injEq, DV.int.injEq, DV.bool.injEq, ↓reduceIte, Nat.reduceEqDiff, Nat.reduceAdd, Nat.reduceBEq, List.length_cons, List.length_nil, List.replicate_succ, List.replicate_zero, List.nil_append, List.cons_append, List.append_nil, List.foldl_cons, List.foldl_nil, List.map_cons, List.map_nil, List.all_cons, List.all_nil, List.set_cons_zero, List.set_cons_succ, List.getD_cons_zero, List.getD_cons_succ, List.drop_zero, List.drop_succ_cons, List.take_succ_cons, List.take_zero, List.flatten_cons, List.flatten_nil, Bool.true_and, Bool.and_true, Bool.not_true, Bool.not_false, true_and, and_true, true_or, or_true, Option.bind_some, Option.map_some, decide_true, decide_false, beq_self_eq_true, true_implies, false_implies, implies_true, not_true_eq_false, not_false_eq_true, and_self, Bool.and_false, Bool.false_and, Nat.reduceLT, Nat.reduceLeDiff, List.reverse_cons, List.reverse_nil, Nat.zero_add, Nat.add_zero, Bool.false_eq_true, List.getElem?_cons_zero, Nat.reduceMul, Nat.mul_one, DeedG.row, Z45, Z2j, Z1v, Z3q, Z3d, idx_LA, Z3s, Z3r, idx_LI, Z3u, Z3t, at_Deeds, at_act_b, at_Put, at_place, F1, G1, F2, G2, F3, G3, G4, F5, G5, putE_d, Z06, mkR_len, bM_len, bM_sz hn]
          have w1 : i < D.length → IntKind.i64.wrap ((i : Int) + 1) = ((i + 1 : Nat) : Int) := fun h => by rw [wrap_id (by omega) (by omega)]; omega
          have w2 : IntKind.i64.wrap ((cnt : Int) + 1) = ((cnt + 1 : Nat) : Int) := by rw [wrap_id (by omega) (by omega)]; omega
          have hstop : ¬ sortI (order.getD t default).1 = wantTo D l.length t D.length → buildG l acts fr order = (WG.none, 3) := fun h => hco (co_none (co_stop t2 h) (by omega))
          have hskip : i < D.length → ((D.getD i default).act.isW = false ∨ ¬ (D.getD i default).act.loc = t) → ∀ {S : State}, 4 ≤ S.heap.length → S.can [0, 1, 2, 3] [0, 3, 8, 10, 12, 13, 19, 20, 21] = gSt3 l f D order og ps t (i + 1, cnt, rs) → Z2v [0, 3, 8, 10, 12, 13, 19, 20, 21] (gSt3 l f D order og ps t) (gInv3 l D order t) (fun x => D.length - x.1) (D.length - i) S := fun hi hno S hS hc => by
            have hq : ¬ (l.length ≤ i ∧ (D.getD i default).act.isW = true ∧ (D.getD i default).act.loc = t) := by
              rintro ⟨_, h1, h2⟩
              rcases hno with h | h
              · rw [h] at h1; cases h1
              · exact h h2
            refine Z2v.mk [0, 1, 2, 3] (i + 1, cnt, rs) (by simp) (by simp; omega) hc ⟨⟨by show l.length ≤ i + 1; omega, by show i + 1 ≤ _; omega⟩, ?_, ?_, ?_⟩ (by show D.length - (i + 1) < D.length - i; omega)
            · show cnt = (wantTo D l.length t (i + 1)).length
              unfold wantTo; rw [if_neg hq]; exact j2
            · show rs = _ ++ qW D l.length t _ (i + 1)
              unfold qW; rw [if_neg hq]; exact j3
            · show ∀ j ∈ wantTo D l.length t (i + 1), _
              unfold wantTo; rw [if_neg hq]; exact j4
          refine ⟨fun e => ?_, fun e => ?_⟩
          · have e' : i < D.length := by omega
            rw [w1 e', w2]
            refine ⟨⟨by omega, by omega⟩, fun hW => ⟨⟨by omega, by omega⟩, fun hl => ⟨⟨by omega, by omega⟩, by unfold maxLen; omega, fun hp => ?_, fun hp => ⟨⟨hn, ⟨by omega, by omega⟩, by omega, by omega⟩, ?_⟩⟩, fun hl => ?_⟩, fun hW => ?_⟩
            · have hst := hstop fun hs => by
                rcases place_cases (order.getD t default).1 i with ⟨y, _, _, h3⟩ | ⟨h1, _⟩
                · omega
                · apply h1
                  have : (i : Int) ∈ wantTo D l.length t D.length := mem_want.2 ⟨i, rfl, e', j0, hW, hl⟩
                  rw [← hs] at this
                  exact (sort_perm _).mem_iff.1 this
              rw [hst]; exact ⟨rfl, rfl⟩
            · rcases place_cases (order.getD t default).1 i with ⟨y, y1, y2, y3⟩ | ⟨_, h2⟩
              rotate_left
              · omega
              rw [y3]
              rw [put_bM hn (show t < D.length by omega) e']
              refine Loop.fam [0, 3, 8, 10, 12, 13, 19, 20, 21, 22, 23] (gSt4 l f D order og ps t i (cnt + 1) y) (gInv4 D (order.getD t default).1 t i y rs) (fun x => y - x.1) (0, rs ++ [⟨t, i⟩]) [0, 1, 2, 3] (by simp) (by simp) (by simp only [State.can, AV.can, AV.canL, HO.can, Z25, idx, Z02, Z00, Heap.at, Nat.reduceBEq, ↓reduceIte, Nat.reduceEqDiff, Option.getD_some, Option.map_some, List.map_cons, List.map_nil, List.getD_cons_zero, List.getD_cons_succ, gSt4, gH, wHv, nilW]; rfl) ⟨Nat.zero_le _, rfl⟩ ?_
              rintro ⟨k, us⟩ ⟨q1, q2⟩
              have q1 : k ≤ y := q1
              have q2 : us = rs ++ (⟨t, i⟩ :: filtP D.length (order.getD t default).1 i k) := q2
              simp (maxSteps := 3000000) only [gSt4, gH, wHv, nilW, ↓Z0p, ↓Z1l, ↓Z1t, ↓Z04, ↓Z2u, ↓Z2t, nilG_d, nilG_r, ↓Z0z, ↓Z0o, ↓Z0f, ↓Z1u, ↓Z0e, ↓Z0x, ↓Z36, ↓Z2p, ↓Z1w, ↓Z1p, ↓Z2y, ↓Z2d, ↓Z0w, ↓Z3c, ↓retK_n, ↓Z3y, ↓Z40, ↓Z3z, ↓Z49, ↓Z44, ↓Z4i, ↓Z0h, ↓Z08, ↓Z0s, ↓Z0d, ↓Z1q, Z47, Z07, Z1i, Z2k, Z1f, Z2n, evN, Z2g, Z0v, Z2m, Z4c, Z0u, Z0n, Z0q, Z35, Z2o, Z2c, Z1r, Z26, evT, Opd.ev, Z02, Z00, Z2l, Z4a, Z3l, Z29, Z1x, Z1s, Z27, Z3w, Z0y, Z0a, Z3e, LOp.isNew, State.prune, Z3p, Z2w, AV.leaf, Heap.at, Z0g, Z09, Z1j, Z0k, Z03, idx_I, idx_W, rowW, Z2i, Z37, Z2a, Z1o, rowB, Z3a, Z38, rowN, lens_W, Z41, Z1k, Z0t, w_or, w_and, Z3b, w_and1, w_shl, Z4g, w_shr, w_sub1, w_neg, w_add, w_bit, w_eq0, w_eq1, w_eq, Bool.decide_eq_true, Z3o, Z3j, Z3v, Z2z, Z1y, Z05, Z0c, Z0r, Z01, Z1m, rowI, RatG.row, LocG.row, ActG.row, StepG.row, StampG.row, ActG.av, ActG.eta, RatG.eta, LocG.eta, beq_true, beq_false, Z2q, Z34, Z2x, Z33, Z1e, Z12, Z1c, Z1d, Z11, Z10, Z0i, List.length_set, List.length_replicate, Z06, Int.reduceToNat, evLen, Z2h, Z48, Src.all, Src.len, Src.leaf, Src.leafN, Z3i, Z4h, joinV, Z0m, Z13, Z14, Z15, Z16, Z17, Z18, Z19, mkVec, drows, evMk, List.length_map, Z28, Z2b, List.take_length, List.take_left, List.length_append, Nat.le_add_right, ite_self, List.take_of_length_le, Z3n, intOr, Z4e, Option.isSome_none, Option.isSome_some, Nat.sub_zero, Z4f, loadT, Z4j, evUn, Z1g, Z1h, binT, binQ, chk, Z42, List.contains_cons, List.contains_nil, Bool.or_false, Bool.false_or, Bool.and_self, resQ, resV, resT, pickV, Z2f, Z4k, Z3k, fnOf, Z3g, isD, HO.drow, Z4m, Z46, evEq, eqV, eqK, eqC1, Z4d, Z4b, Z3h, Z3f, lens_I, Z3x, Z32, Z21, Z31, Z20, Z30, Z1z, Z22, Z1a, Z1b, Z0j, List.mem_cons, List.not_mem_nil, or_false, forall_eq, putRow, Z3m, Z1n, RetS, RetF, RetD, AV.frz, AV.frzL, AV.freshP, AV.freshL, DV.less, Z2r, Z23, Z2s, Z24, Z0l, Z0b, Option.some.injEq, AV.tup.injEq, AV.agg.injEq, List.cons.injEq, DV.list.injEq, List.isEmpty_nil, Nat.le_refl, AV.d.injEq, DV.int.injEq, DV.bool.injEq, ↓reduceIte, Nat.reduceEqDiff, Nat.reduceAdd, Nat.reduceBEq, List.length_cons, List.length_nil, List.replicate_succ, List.replicate_zero, List.nil_append, List.cons_append, List.append_nil, List.foldl_cons, List.foldl_nil, List.map_cons, List.map_nil, List.all_cons, List.all_nil, List.set_cons_zero, List.set_cons_succ, List.getD_cons_zero, List.getD_cons_succ, List.drop_zero, List.drop_succ_cons, List.take_succ_cons, List.take_zero, List.flatten_cons, List.flatten_nil, Bool.true_and, Bool.and_true, Bool.not_true, Bool.not_false, true_and, and_true, true_or, or_true, Option.bind_some, Option.map_some, decide_true, decide_false, beq_self_eq_true, true_implies, false_implies, implies_true, not_true_eq_false, not_false_eq_true, and_self, Bool.and_false, Bool.false_and, Nat.reduceLT, Nat.reduceLeDiff, List.reverse_cons, List.reverse_nil, Nat.zero_add, Nat.add_zero, Bool.false_eq_true, List.getElem?_cons_zero, Nat.reduceMul, Nat.mul_one, DeedG.row, Z45, Z2j, Z1v, Z3q, Z3d, idx_LA, Z3s, Z3r, idx_LI, Z3u, Z3t, at_Deeds, at_act_b, at_Put, at_place, F1, G1, F2, G2, F3, G3, G4, F5, G5, putE_d, Z06, mkR_len, bM_len, bM_sz hn]
              have w3 : k < y → IntKind.i64.wrap ((k : Int) + 1) = ((k + 1 : Nat) : Int) := fun h => by rw [wrap_id (by omega) (by omega)]; omega
              have hno : k < y → inR D.length ((order.getD t default).1.getD k default) = false → ∀ {S : State}, 4 ≤ S.heap.length → S.can [0, 1, 2, 3] [0, 3, 8, 10, 12, 13, 19, 20, 21, 22, 23] = gSt4 l f D order og ps t i (cnt + 1) y (k + 1, us) → Z2v [0, 3, 8, 10, 12, 13, 19, 20, 21, 22, 23] (gSt4 l f D order og ps t i (cnt + 1) y) (gInv4 D (order.getD t default).1 t i y rs) (fun x => y - x.1) (y - k) S := fun hk hin S hS hc =>
                Z2v.mk [0, 1, 2, 3] (k + 1, us) (by simp) (by simp; omega) hc ⟨by show k + 1 ≤ y; omega, by
                  show us = rs ++ (_ :: filtP D.length _ i (k + 1))
                  unfold filtP; rw [if_neg (by rw [hin]; simp)]; exact q2⟩ (by show y - (k + 1) < y - k; omega)
              refine ⟨fun d => ?_, fun d => ?_⟩
              · have d' : k < y := by omega
                rw [w3 d']
                refine ⟨⟨by omega, by omega⟩, ⟨by omega, by omega⟩, fun g1 => ⟨fun g2 => ⟨⟨hn, ⟨by omega, by omega⟩, by omega, by omega⟩, ?_⟩, fun g2 => ?_⟩, fun g1 => ?_⟩
                · rw [put_bM hn (by omega) e', Int.toNat_of_nonneg g1]
                  refine Z2v.mk [0, 1, 2, 3] (k + 1, us ++ [⟨(order.getD t default).1.getD k default, i⟩]) (by simp) (by simp) (by simp only [State.can, AV.can, AV.canL, HO.can, Z25, idx, Z02, Z00, Heap.at, Nat.reduceBEq, ↓reduceIte, Nat.reduceEqDiff, Option.getD_some, Option.map_some, List.map_cons, List.map_nil, List.getD_cons_zero, List.getD_cons_succ, gSt4, gH, wHv, nilW]) ⟨by show k + 1 ≤ y; omega, ?_⟩ (by show y - (k + 1) < y - k; omega)
                  show us ++ [_] = rs ++ (_ :: filtP D.length _ i (k + 1))
                  unfold filtP
                  rw [if_pos (by unfold inR; rw [decide_eq_true g1, decide_eq_true g2]; rfl), q2]
                  simp
                · exact hno d' (by unfold inR; rw [decide_eq_false g2, Bool.and_false]) (by simp) (by simp only [State.can, AV.can, AV.canL, HO.can, Z25, idx, Z02, Z00, Heap.at, Nat.reduceBEq, ↓reduceIte, Nat.reduceEqDiff, Option.getD_some, Option.map_some, List.map_cons, List.map_nil, List.getD_cons_zero, List.getD_cons_succ, gSt4, gH, wHv, nilW])
                · exact hno d' (by unfold inR; rw [decide_eq_false g1, Bool.false_and]) (by simp) (by simp only [State.can, AV.can, AV.canL, HO.can, Z25, idx, Z02, Z00, Heap.at, Nat.reduceBEq, ↓reduceIte, Nat.reduceEqDiff, Option.getD_some, Option.map_some, List.map_cons, List.map_nil, List.getD_cons_zero, List.getD_cons_succ, gSt4, gH, wHv, nilW])
              · have ek : k = y := by omega
                subst ek
                rw [w1 e']
                refine Z2v.mk [0, 1, 2, 3] (i + 1, cnt + 1, us) (by simp) (by simp) (by simp only [State.can, AV.can, AV.canL, HO.can, Z25, idx, Z02, Z00, Heap.at, Nat.reduceBEq, ↓reduceIte, Nat.reduceEqDiff, Option.getD_some, Option.map_some, List.map_cons, List.map_nil, List.getD_cons_zero, List.getD_cons_succ, gSt3, gH, wHv, nilW]) ⟨⟨by show l.length ≤ i + 1; omega, by show i + 1 ≤ _; omega⟩, ?_, ?_, ?_⟩ (by show D.length - (i + 1) < D.length - i; omega)
                · show cnt + 1 = (wantTo D l.length t (i + 1)).length
                  unfold wantTo; rw [if_pos ⟨j0, hW, hl⟩, List.length_append, ← j2]; rfl
                · show us = qO D l.length order t ++ qW D l.length t _ (i + 1)
                  unfold qW
                  rw [if_pos ⟨j0, hW, hl⟩, y3, Int.toNat_natCast, ← List.append_assoc, ← j3]; exact q2
                · show ∀ j ∈ wantTo D l.length t (i + 1), _
                  unfold wantTo
                  rw [if_pos ⟨j0, hW, hl⟩]
                  intro j hj
                  rcases List.mem_append.1 hj with hj | hj
                  · exact j4 j hj
                  · rw [List.mem_singleton.1 hj, ← y2, getD_of y1]; exact List.getElem_mem _
            · exact hskip e' (.inr hl) (by simp) (by simp only [State.can, AV.can, AV.canL, HO.can, Z25, idx, Z02, Z00, Heap.at, Nat.reduceBEq, ↓reduceIte, Nat.reduceEqDiff, Option.getD_some, Option.map_some, List.map_cons, List.map_nil, List.getD_cons_zero, List.getD_cons_succ, gSt3, gH, wHv, nilW])
            · exact hskip e' (.inl hW) (by simp) (by simp only [State.can, AV.can, AV.canL, HO.can, Z25, idx, Z02, Z00, Heap.at, Nat.reduceBEq, ↓reduceIte, Nat.reduceEqDiff, Option.getD_some, Option.map_some, List.map_cons, List.map_nil, List.getD_cons_zero, List.getD_cons_succ, gSt3, gH, wHv, nilW])
          · have ei : i = D.length := by omega
            subst ei
            have w4 : IntKind.i64.wrap ((t : Int) + 1) = ((t + 1 : Nat) : Int) := by rw [wrap_id (by omega) (by omega)]; omega
            rw [w4]
            refine ⟨⟨by omega, by omega⟩, fun hc => ?_, fun hc => ?_⟩
            · refine Z2v.mk [0, 1, 2, 3] (t + 1, rs) (by simp) (by simp) (by simp only [State.can, AV.can, AV.canL, HO.can, Z25, idx, Z02, Z00, Heap.at, Nat.reduceBEq, ↓reduceIte, Nat.reduceEqDiff, Option.getD_some, Option.map_some, List.map_cons, List.map_nil, List.getD_cons_zero, List.getD_cons_succ, gSt2, gH, wHv, nilW]) ⟨by show t + 1 ≤ _; omega, co_next t2 j4 (by omega), ?_⟩ (by show l.length - (t + 1) < l.length - t; omega)
              show rs = qO D l.length order (t + 1)
              unfold qO; exact j3
            · rw [hstop fun hs => hc (by rw [j2, ← hs, sortI_len])]; exact ⟨rfl, rfl⟩
        · have et : t = l.length := by omega
          subst et
          have hb : buildG l acts fr order = (⟨l, false, D, false, ofG D.length ps, false, ofG D.length co, false⟩, 0) := by
            unfold buildG
            rw [if_neg (by rw [he]; simp), hD, i3]
            simp only
            rw [if_neg (by simp [hol]), t2]
          have B := built_of (l := l) (acts := acts) (fr := fr) (order := order) (by rw [hb])
          rw [hb] at B
          have r1 : bM D.length ps = ofG D.length ps := B.told_rf i3
          have r2 : bM D.length qs = ofG D.length co := by rw [t3]; exact B.told_co t2
          rw [hb, r1, r2]
          exact ⟨rfl, rfl⟩
      · rw [hb3 (.inr fun h => hol (by rw [h]))]; exact ⟨rfl, rfl⟩
  · have hb : buildG l acts fr order = (WG.none, (deedsG l acts).2) := by
      unfold buildG
      rw [if_pos he]
    rw [hb]; exact ⟨rfl, rfl⟩
end Go.Ago

/- The laws AxiomForms and AxiomJudges: a built world is judged alike. Conditions: none. -/
set_option maxRecDepth 100000
set_option linter.unusedSimpArgs false
set_option linter.unusedVariables false
namespace Go.Ago
attribute [local irreducible] vck
section
variable {l : List LocG} {acts : List (List ActG × Bool)} {fr : List Int} {order : List (List Int × Bool)} {x : WG} (B : BuiltG l acts fr order x)
include B
theorem BuiltG.atR {i : Nat} (hi : i < x.deeds.length) : x.atR i = x.atom i := by
  rw [B.atom hi]
  obtain ⟨g1, g2⟩ := B.good hi
  unfold WG.atR ActG.isA
  unfold ActG.right at g1
  rw [if_neg g2] at g1
  simp only [Bool.and_eq_true, decide_eq_true_eq] at g1
  have h1 := g1.1.1.1.1.1.1
  have h2 := g1.1.1.1.1.1.2
  apply beq_of_iff
  simp only [Bool.or_eq_true, decide_eq_true_eq]
  omega
theorem BuiltG.th {i : Nat} (hi : i < x.deeds.length) : -1 ≤ (x.deeds.getD i default).th := by
  rcases Nat.lt_or_ge i l.length with h | h
  · rw [B.deeds, deeds_th0 h]; omega
  · have := deeds_th (l := l) (acts := acts) h (by rw [← B.deeds]; exact hi)
    rw [B.deeds]; omega
theorem BuiltG.base : x.baseO = mkR x.deeds.length x.stepR := by
  unfold WG.baseO
  refine mkR_congr fun i k hi hk => ?_
  unfold WG.stepR WG.baseR
  rw [hasN_only (by rw [(sq_r B.ok).len]; exact B.le), hasN_or, B.atR hi, Bool.or_comm]
  congr 1
  unfold WG.bef befD befR
  have h1 := B.th hi
  have h2 := B.th hk
  apply beq_of_iff
  simp only [Bool.or_eq_true, Bool.and_eq_true, decide_eq_true_eq, Bool.not_eq_true', decide_eq_false_iff_not]
  omega
end

theorem sameWG_refl (x : WG) : sameWG x x = true := by unfold sameWG; simp
theorem WG.Few.built {x : WG} (h : x.Ok) (hl : x.locs.length ≤ maxLen) : x.Few := ⟨hl, by have := h.n; unfold maxLen; omega, by rw [h.rf.len]; have := h.n; unfold maxLen; omega, by rw [h.co.len]; have := h.n; unfold maxLen; omega⟩
theorem none_few : WG.none.Few := ⟨Nat.zero_le _, Nat.zero_le _, Nat.zero_le _, Nat.zero_le _⟩
theorem build_none {l : List LocG} {acts : List (List ActG × Bool)} {fr : List Int} {order : List (List Int × Bool)} (h : (buildG l acts fr order).2 ≠ 0) : (buildG l acts fr order).1 = WG.none := by
  unfold buildG at h ⊢
  split
  · rfl
  · rename_i h0
    rw [if_neg h0] at h
    revert h
    cases rdG (deedsG l acts).1 fr (deedsG l acts).1.length with
    | none => intro _; rfl
    | some p =>
      obtain ⟨rest, rf⟩ := p
      simp only
      by_cases h1 : rest ≠ [] ∨ order.length ≠ l.length
      · rw [if_pos h1]; intro _; rfl
      · rw [if_neg h1]
        cases coG (deedsG l acts).1 l.length order l.length with
        | none => intro _; rfl
        | some co => intro h; exact absurd rfl h
theorem build_few {l : List LocG} {acts : List (List ActG × Bool)} {fr : List Int} {order : List (List Int × Bool)} (hl : l.length ≤ maxLen) : (buildG l acts fr order).1.Few := by
  by_cases h : (buildG l acts fr order).2 = 0
  · have B := built_of h
    exact WG.Few.built B.ok (by rw [B.locs]; exact hl)
  · rw [build_none h]; exact none_few
set_option maxHeartbeats 4000000 in
theorem law_AxiomForms {T : Tab} {n1 n2 n3 n4 n5 n6 n7 : Nat} (k1 : Knows T n1 sp_true) (k2 : Knows T n2 sp_small) (k3 : Knows T n3 sp_Build) (k4 : Knows T n4 sp_Build) (k5 : Knows T n5 sp_Deeds) (k6 : Knows T n6 sp_Deeds) (k7 : Knows T n7 sp_sameWG) (l : List LocG) (f : Bool) (acts : List (List ActG × Bool)) (g : Bool) (fr : List Int) (ff : Bool) (order : List (List Int × Bool)) (og : Bool)
    (hl : l.length ≤ maxLen) (ha : acts.length ≤ maxLen) (ha2 : ∀ x ∈ acts, x.1.length ≤ maxLen) (hf : fr.length ≤ maxLen) (ho : order.length ≤ maxLen) (ho2 : ∀ x ∈ order, x.1.length ≤ maxLen) :
    Holds T V_law23_AxiomForms (L_law23_AxiomForms n1 n2 n3 n4 n5 n6 n7) R_law23_AxiomForms [.d (.list (l.map LocG.row) f), .d (.list (acts.map rowLA) g), .d (.list (fr.map rowI) ff), .d (.list (order.map rowLI) og)] := by
  have F1 := k1.F; have G1 := k1.G; have F2 := k2.F; have G2 := k2.G; have F3 := k3.F; have G3 := k3.G; have F4 := k4.F; have G4 := k4.G; have F5 := k5.F; have G5 := k5.G; have F6 := k6.F; have G6 := k6.G; have F7 := k7.F; have G7 := k7.G
  unfold V_law23_AxiomForms L_law23_AxiomForms R_law23_AxiomForms
  simp (maxSteps := 3000000) only [↓Z0p, ↓Z1l, ↓Z1t, ↓Z04, ↓Z2u, ↓Z2t, nilG_d, nilG_r, ↓Z0z, ↓Z0o, ↓Z0f, ↓Z1u, ↓Z0e, ↓Z0x, ↓Z36, ↓Z2p, ↓Z1w, ↓Z1p, ↓Z2y, ↓Z2d, ↓Z0w, ↓Z3c, ↓retK_n, ↓Z3y, ↓Z40, ↓Z3z, ↓Z49, ↓Z44, ↓Z4i, ↓Z0h, ↓Z08, ↓Z0s, ↓Z0d, ↓Z1q, Z47, Z07, Z1i, Z2k, Z1f, Z2n, evN, Z2g, Z0v, Z2m, Z4c, Z0u, Z0n, Z0q, Z35, Z2o, Z2c, Z1r, Z26, evT, Opd.ev, Z02, Z00, Z2l, Z4a, Z3l, Z29, Z1x, Z1s, Z27, Z3w, Z0y, Z0a, Z3e, LOp.isNew, State.prune, Z3p, Z2w, AV.leaf, Heap.at, Z0g, Z09, Z1j, Z0k, Z03, idx_I, idx_W, rowW, Z2i, Z37, Z2a, Z1o, rowB, Z3a, Z38, rowN, lens_W, Z41, Z1k, Z0t, w_or, w_and, Z3b, w_and1, w_shl, Z4g, w_shr, w_sub1, w_neg, w_add, w_bit, w_eq0, w_eq1, w_eq, Bool.decide_eq_true, Z3o, Z3j, Z3v, Z2z, Z1y, Z05, Z0c, Z0r, Z01, Z1m, rowI, RatG.row, LocG.row, ActG.row, StepG.row, StampG.row, ActG.av, ActG.eta, RatG.eta, LocG.eta, beq_true, beq_false, Z2q, Z34, Z2x, Z33, Z1e, Z12, Z1c, Z1d, Z11, Z10, Z0i, List.length_set, List.length_replicate, Z06, Int.reduceToNat, evLen, Z2h, Z48, Src.all, Src.len, Src.leaf, Src.leafN, Z3i, Z4h, joinV, Z0m, Z13, Z14, Z15, Z16, Z17, Z18, Z19, mkVec, drows, evMk, List.length_map, Z28, Z2b, List.take_length, List.take_left, List.length_append, Nat.le_add_right, ite_self, List.take_of_length_le, Z3n, intOr, Z4e, Option.isSome_none, Option.isSome_some, Nat.sub_zero, Z4f, loadT, Z4j, evUn, Z1g, Z1h, binT, binQ, chk, Z42, List.contains_cons, List.contains_nil, Bool.or_false, Bool.false_or, Bool.and_self, resQ, resV, resT, pickV, Z2f, Z4k, Z3k, fnOf, Z3g, isD, HO.drow, Z4m, Z46, evEq, eqV, eqK, eqC1, Z4d, Z4b, Z3h, Z3f, lens_I, Z3x, Z32, Z21, Z31, Z20, Z30, Z1z, Z22, Z1a, Z1b, Z0j, List.mem_cons, List.not_mem_nil, or_false, forall_eq, putRow, Z3m, Z1n, RetS, RetF, RetD, AV.frz, AV.frzL, AV.freshP, AV.freshL, DV.less, Z2r, Z23, Z2s, Z24, Z0l, Z0b, Option.some.injEq, AV.tup.injEq, AV.agg.injEq, List.cons.injEq, DV.list.injEq, List.isEmpty_nil, Nat.le_refl, AV.d.injEq, DV.int.injEq, DV.bool.injEq, ↓reduceIte, Nat.reduceEqDiff, Nat.reduceAdd, Nat.reduceBEq, List.length_cons, List.length_nil, List.replicate_succ, List.replicate_zero, List.nil_append, List.cons_append, List.append_nil, List.foldl_cons, List.foldl_nil, List.map_cons, List.map_nil, List.all_cons, List.all_nil, List.set_cons_zero, List.set_cons_succ, List.getD_cons_zero, List.getD_cons_succ, List.drop_zero, List.drop_succ_cons, List.take_succ_cons, List.take_zero, List.flatten_cons, List.flatten_nil, Bool.true_and, Bool.and_true, Bool.not_true, Bool.not_false, true_and, and_true, true_or, or_true, Option.bind_some, Option.map_some, decide_true, decide_false, beq_self_eq_true, true_implies, false_implies, implies_true, not_true_eq_false, not_false_eq_true, and_self, Bool.and_false, Bool.false_and, Nat.reduceLT, Nat.reduceLeDiff, List.reverse_cons, List.reverse_nil, Nat.zero_add, Nat.add_zero, Bool.false_eq_true, List.getElem?_cons_zero, Nat.reduceMul, Nat.mul_one, at_true, DeedG.row, Z45, at_small, at_Build, at_Deeds, at_sameWG, WG.av, F1, G1, F2, G2, F3, G3, F4, G4, F5, G5, F6, G6, F7, G7]
  exact ⟨⟨ha, ho⟩, fun hs => ⟨smallF_iff.1 hs, smallF_iff.1 hs, (smallF_iff.1 hs).1, (smallF_iff.1 hs).1, build_few hl, fun _ => trivial, fun h => by rw [sameWG_refl] at h; cases h⟩, fun _ => trivial⟩
end Go.Ago

/- rel.lay in a cut that lacks Minus, or Inter too. Conditions: none. -/
set_option maxRecDepth 100000
set_option linter.unusedVariables false
namespace Go.Ago
theorem bodyM_rel_lay {T : Tab} {n1 n2 n_rel_Union_1 n_rel_Inter_1 n_rel_Plus_1 : Nat} (k1 : Knows T n1 sp_size) (k2 : Knows T n2 sp_row) (k3 : Knows T n_rel_Union_1 (sp_h2 orW)) (k4 : Knows T n_rel_Inter_1 (sp_h2 andW))
    (k6 : Knows T n_rel_Plus_1 (sp_h2 fstW)) : (sp_lay (hs4 n_rel_Union_1 n_rel_Inter_1 n_rel_Union_1 n_rel_Plus_1)).Body T V_rel_lay (L_rel_lay n1 n2) R_rel_lay := by
  rintro ⟨A, e, B, f, g⟩
  simp only [sp_lay, hs4]
  split
  · rename_i h hh
    split at hh
    · rename_i e; cases hh; rw [e]; exact lay_body k1 k2 k3 A B _ f
    · rename_i h1
      split at hh
      · rename_i e; cases hh; rw [e]; exact lay_body k1 k2 k4 A B _ f
      · split at hh
        · rename_i e; cases hh; rw [e]; exact lay_body k1 k2 k6 A B _ f
        · cases hh
  · trivial
end Go.Ago
