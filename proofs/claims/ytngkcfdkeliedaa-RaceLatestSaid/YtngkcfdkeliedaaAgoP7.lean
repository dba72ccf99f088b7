/- Package race: runs that are played, and their order. Conditions: none. -/
import Derived.Test.YtngkcfdkeliedaaAgoP6
import Derived.Test.YtngkcfdkeliedaaAgoP4
import Derived.Test.YtngkcfdkeliedaaAgoP5
set_option maxRecDepth 100000
set_option linter.unusedSimpArgs false
set_option linter.unusedVariables false
namespace Go.Ago
/-! ### plain, atomic -/
def sp_rplain : Sp := ⟨ActG, fun a => [a.av], fun a => .data True (.d (.bool (isPl a.kind))) true⟩
theorem at_rplain (k o q v : Int) : sp_rplain.at [.agg [.d (.int .i64 k), .d (.int .i64 o), .d (.int .i64 q), .d (.int .i64 v)]] = .data True (.d (.bool (isPl k))) true :=
  Sp.at_enc (s := sp_rplain) (fun x y h => by
    obtain ⟨k, o, q, v⟩ := x; obtain ⟨k', o', q', v'⟩ := y
    simp only [sp_rplain, ActG.av, List.cons.injEq, AV.agg.injEq, AV.d.injEq, DV.int.injEq, and_true, true_and] at h
    obtain ⟨h1, h2, h3, h4⟩ := h
    rw [h1, h2, h3, h4]) ⟨k, o, q, v⟩
theorem body_race_plain {T : Tab} : sp_rplain.Body T V_race_plain L_race_plain R_race_plain := by
  rintro ⟨k, o, q, v⟩ -
  refine .inl ⟨rfl, ?_⟩
  unfold V_race_plain L_race_plain R_race_plain
  simp (maxSteps := 3000000) only [↓Z29, ↓Z33, ↓Z26, ↓Z0x, ↓Z28, ↓Z1x, Z3t, Z3u, ↓Z34, ↓Z25, ↓Z1d, ↓Z27, ↓Z24, ↓Z30, ↓Z32, ↓Z31, ↓Z1k, ↓Z1n, ↓Z1l, ↓Z1m, ↓Z2z, ↓Z3x, ↓Z3w, ↓Z2w, ↓Z2y, ↓Z2x, ↓Z3n, ↓Z3p, ↓Z3o, ↓Z0i, ↓Z08, ↓Z14, ↓Z13, ↓Z12, Z4h, Z0y, Z0z, Z3j, Z10, Z3v, evN, Z2j, Z2o, Z3q, Z3r, Z2m, Z1h, Z2k, Z23, Z1q, Z1p, Z15, Z2l, evT, Opd.ev, Z0e, Z06, Z3l, Z3k, Z3m, Z1j, Z11, Z2u, Z2t, Z2s, Z2a, Z1z, Z41, LOp.isNew, State.prune, Z3a, Z35, AV.leaf, Heap.at, Z0r, Z09, Z04, Z0c, Z01, Z4g, Z4j, Z2r, Z2q, Z2p, Z1r, Z16, Z03, Z0a, Z02, Z00, Z1v, rowI, rowU, RatG.row, LocG.row, ActG.row, StepG.row, StampG.row, ActG.av, ActG.eta, RatG.eta, LocG.eta, beq_true, beq_false, Z1w, Z22, Z2d, Z1i, Z2b, Z1y, Z2c, Z0w, Z0h, Z0u, Z0v, Z0g, Z0f, Z07, List.length_set, List.length_replicate, Int.toNat_natCast, Int.reduceToNat, Z4f, Z1g, Z3z, Src.all, Src.len, Src.leaf, Src.leafN, Z2h, Z3f, Z45, Z0j, Z0k, Z0l, Z0m, Z0n, Z0o, Z0p, Z0q, Z42, drows, evMk, List.length_map, Z1e, Z1o, List.take_length, List.take_left, List.length_append, Nat.le_add_right, ite_self, List.take_of_length_le, Z39, Z49, Z3y, Option.isSome_none, Option.isSome_some, Nat.sub_zero, Z47, Z4a, Z4e, evUn, binT, binQ, chk, Z3b, List.contains_cons, List.contains_nil, Bool.or_false, Bool.false_or, Bool.and_self, resQ, resV, resT, Z4c, Z2i, Z3i, Z3h, fnOf, Z3c, isD, HO.drow, Z48, Z3d, evEq, eqV, eqK, eqC1, Z3g, Z3e, Z2g, Z2e, Z3s, Z2v, Z40, Z38, Z1u, Z19, Z1t, Z18, Z1s, Z17, Z1a, Z0s, Z0t, Z0b, List.mem_cons, List.not_mem_nil, or_false, forall_eq, putRow, Z36, Z2n, RetS, RetF, RetD, AV.frz, AV.frzL, AV.freshP, AV.freshL, DV.less, Z20, Z1b, Z21, Z1c, Z1f, Z0d, Z05, Option.some.injEq, AV.tup.injEq, AV.agg.injEq, List.cons.injEq, DV.list.injEq, List.isEmpty_nil, Nat.le_refl, AV.d.injEq, DV.int.injEq, DV.bool.injEq, ↓reduceIte, Nat.reduceEqDiff, Nat.reduceAdd, Nat.reduceBEq, List.length_cons, List.length_nil, List.replicate_succ, List.replicate_zero, List.nil_append, List.cons_append, List.append_nil, List.foldl_cons, List.foldl_nil, List.map_cons, List.map_nil, List.all_cons, List.all_nil, List.set_cons_zero, List.set_cons_succ, List.getD_cons_zero, List.getD_cons_succ, List.drop_zero, List.drop_succ_cons, List.take_succ_cons, List.take_zero, List.flatten_cons, List.flatten_nil, Bool.true_and, Bool.and_true, Bool.not_true, Bool.not_false, true_and, and_true, true_or, or_true, Option.bind_some, Option.map_some, decide_true, decide_false, beq_self_eq_true, true_implies, false_implies, implies_true, not_true_eq_false, not_false_eq_true, and_self, Bool.and_false, Bool.false_and, Nat.reduceLT, Nat.reduceLeDiff, List.reverse_cons, List.reverse_nil, Nat.zero_add, Nat.add_zero, Bool.false_eq_true, List.getElem?_cons_zero, sp_rplain, ActG.av, Z04]
  refine ⟨fun h => ?_, fun h => ?_⟩
  · rw [isPl_iff.2 (.inl h)]
  · unfold isPl; rw [decide_eq_false h]; rfl
def isSet (k : Int) : Bool := decide (k = 4) || decide (k = 5)
def sp_ratomic : Sp := ⟨ActG, fun a => [a.av], fun a => .data True (.tup [.d (.bool (isAt a.kind)), .d (.bool (isSet a.kind))]) true⟩
theorem at_ratomic (k o q v : Int) : sp_ratomic.at [.agg [.d (.int .i64 k), .d (.int .i64 o), .d (.int .i64 q), .d (.int .i64 v)]] = .data True (.tup [.d (.bool (isAt k)), .d (.bool (isSet k))]) true :=
  Sp.at_enc (s := sp_ratomic) (fun x y h => by
    obtain ⟨k, o, q, v⟩ := x; obtain ⟨k', o', q', v'⟩ := y
    simp only [sp_ratomic, ActG.av, List.cons.injEq, AV.agg.injEq, AV.d.injEq, DV.int.injEq, and_true, true_and] at h
    obtain ⟨h1, h2, h3, h4⟩ := h
    rw [h1, h2, h3, h4]) ⟨k, o, q, v⟩
theorem body_race_atomic {T : Tab} : sp_ratomic.Body T V_race_atomic L_race_atomic R_race_atomic := by
  rintro ⟨k, o, q, v⟩ -
  refine .inl ⟨rfl, ?_⟩
  unfold V_race_atomic L_race_atomic R_race_atomic
  simp (maxSteps := 3000000) only [↓Z29, ↓Z33, ↓Z26, ↓Z0x, ↓Z28, ↓Z1x, Z3t, Z3u, ↓Z34, ↓Z25, ↓Z1d, ↓Z27, ↓Z24, ↓Z30, ↓Z32, ↓Z31, ↓Z1k, ↓Z1n, ↓Z1l, ↓Z1m, ↓Z2z, ↓Z3x, ↓Z3w, ↓Z2w, ↓Z2y, ↓Z2x, ↓Z3n, ↓Z3p, ↓Z3o, ↓Z0i, ↓Z08, ↓Z14, ↓Z13, ↓Z12, Z4h, Z0y, Z0z, Z3j, Z10, Z3v, evN, Z2j, Z2o, Z3q, Z3r, Z2m, Z1h, Z2k, Z23, Z1q, Z1p, Z15, Z2l, evT, Opd.ev, Z0e, Z06, Z3l, Z3k, Z3m, Z1j, Z11, Z2u, Z2t, Z2s, Z2a, Z1z, Z41, LOp.isNew, State.prune, Z3a, Z35, AV.leaf, Heap.at, Z0r, Z09, Z04, Z0c, Z01, Z4g, Z4j, Z2r, Z2q, Z2p, Z1r, Z16, Z03, Z0a, Z02, Z00, Z1v, rowI, rowU, RatG.row, LocG.row, ActG.row, StepG.row, StampG.row, ActG.av, ActG.eta, RatG.eta, LocG.eta, beq_true, beq_false, Z1w, Z22, Z2d, Z1i, Z2b, Z1y, Z2c, Z0w, Z0h, Z0u, Z0v, Z0g, Z0f, Z07, List.length_set, List.length_replicate, Int.toNat_natCast, Int.reduceToNat, Z4f, Z1g, Z3z, Src.all, Src.len, Src.leaf, Src.leafN, Z2h, Z3f, Z45, Z0j, Z0k, Z0l, Z0m, Z0n, Z0o, Z0p, Z0q, Z42, drows, evMk, List.length_map, Z1e, Z1o, List.take_length, List.take_left, List.length_append, Nat.le_add_right, ite_self, List.take_of_length_le, Z39, Z49, Z3y, Option.isSome_none, Option.isSome_some, Nat.sub_zero, Z47, Z4a, Z4e, evUn, binT, binQ, chk, Z3b, List.contains_cons, List.contains_nil, Bool.or_false, Bool.false_or, Bool.and_self, resQ, resV, resT, Z4c, Z2i, Z3i, Z3h, fnOf, Z3c, isD, HO.drow, Z48, Z3d, evEq, eqV, eqK, eqC1, Z3g, Z3e, Z2g, Z2e, Z3s, Z2v, Z40, Z38, Z1u, Z19, Z1t, Z18, Z1s, Z17, Z1a, Z0s, Z0t, Z0b, List.mem_cons, List.not_mem_nil, or_false, forall_eq, putRow, Z36, Z2n, RetS, RetF, RetD, AV.frz, AV.frzL, AV.freshP, AV.freshL, DV.less, Z20, Z1b, Z21, Z1c, Z1f, Z0d, Z05, Option.some.injEq, AV.tup.injEq, AV.agg.injEq, List.cons.injEq, DV.list.injEq, List.isEmpty_nil, Nat.le_refl, AV.d.injEq, DV.int.injEq, DV.bool.injEq, ↓reduceIte, Nat.reduceEqDiff, Nat.reduceAdd, Nat.reduceBEq, List.length_cons, List.length_nil, List.replicate_succ, List.replicate_zero, List.nil_append, List.cons_append, List.append_nil, List.foldl_cons, List.foldl_nil, List.map_cons, List.map_nil, List.all_cons, List.all_nil, List.set_cons_zero, List.set_cons_succ, List.getD_cons_zero, List.getD_cons_succ, List.drop_zero, List.drop_succ_cons, List.take_succ_cons, List.take_zero, List.flatten_cons, List.flatten_nil, Bool.true_and, Bool.and_true, Bool.not_true, Bool.not_false, true_and, and_true, true_or, or_true, Option.bind_some, Option.map_some, decide_true, decide_false, beq_self_eq_true, true_implies, false_implies, implies_true, not_true_eq_false, not_false_eq_true, and_self, Bool.and_false, Bool.false_and, Nat.reduceLT, Nat.reduceLeDiff, List.reverse_cons, List.reverse_nil, Nat.zero_add, Nat.add_zero, Bool.false_eq_true, List.getElem?_cons_zero, sp_ratomic, ActG.av, Z04]
  unfold isAt isSet
  refine ⟨fun h => ⟨fun h2 => absurd h2 (by omega), fun h2 => ⟨?_, ?_⟩⟩, fun h => ⟨fun h2 => ⟨fun _ => ⟨?_, ?_⟩, fun h3 => absurd h2 h3⟩, fun h2 => ⟨fun h3 => absurd h3 h2, fun _ => ⟨?_, ?_⟩⟩⟩⟩
  all_goals simp [h, h2]
/-! ### played -/
def rowMem (m : MemG) : List DV := [.list (m.locs.map LocG.row) m.lf, .list (m.past.map rowStamps) m.pf, .list (m.vals.map rowI) m.vf, .list (m.marks.map rowRats) m.mf, .list (m.fronts.map rowRats) m.ff]
/-- The error of a run: of the first step that isn't taken. -/
def firstBad (m : MemG) : List StepG → Int
  | [] => 0
  | s :: r => if doErr m.plain s = 0 then firstBad (stepM m s) r else doErr m.plain s
def playErr (l : List LocG) (t : Int) (ss : List StepG) : Int := if 64 < ss.length then 15 else if newErr l t = 0 then firstBad (newM l t) ss else newErr l t
def mems (m : MemG) (ss : List StepG) (n : Nat) : List MemG := (List.range n).map fun j => goM m ss j
def playL (l : List LocG) (t : Int) (ss : List StepG) : List MemG := if playErr l t ss = 0 then mems (newM l t) ss ss.length else []
theorem firstBad_go {m : MemG} {ss : List StepG} : ∀ {n}, n ≤ ss.length → (∀ j, j < n → doErr (goM m ss j).plain (ss.getD j default) = 0) → firstBad m ss = firstBad (goM m ss n) (ss.drop n) := by
  intro n
  induction n with
  | zero => intro _ _; rfl
  | succ n ih =>
    intro hn h
    rw [ih (by omega) (fun j hj => h j (by omega)), goM_succ m (by omega), List.drop_eq_getElem_cons (by omega : n < ss.length)]
    have e := h n (by omega)
    rw [Z4q (by omega)] at e ⊢
    simp only [firstBad]
    rw [if_pos e]
theorem firstBad_ok {m : MemG} {ss : List StepG} (h : ∀ j, j < ss.length → doErr (goM m ss j).plain (ss.getD j default) = 0) : firstBad m ss = 0 := by
  rw [firstBad_go (Nat.le_refl _) h, List.drop_length]; rfl
theorem firstBad_at {m : MemG} {ss : List StepG} {n : Nat} (hn : n < ss.length) (h : ∀ j, j < n → doErr (goM m ss j).plain (ss.getD j default) = 0) (hb : doErr (goM m ss n).plain (ss.getD n default) ≠ 0) : firstBad m ss = doErr (goM m ss n).plain (ss.getD n default) := by
  rw [firstBad_go (Nat.le_of_lt hn) h, List.drop_eq_getElem_cons hn]
  rw [Z4q hn] at hb ⊢
  simp only [firstBad]
  rw [if_neg hb]
theorem firstBad_zero {m : MemG} : ∀ {ss : List StepG}, firstBad m ss = 0 → ∀ j, j < ss.length → doErr (goM m ss j).plain (ss.getD j default) = 0 := by
  intro ss
  induction ss generalizing m with
  | nil => intro _ j hj; cases hj
  | cons s r ih =>
    intro h j hj
    simp only [firstBad] at h
    split at h
    · rename_i e
      cases j with
      | zero => exact e
      | succ j => exact ih h j (by simpa using hj)
    · rename_i e; exact absurd h e
theorem mems_succ (m : MemG) (ss : List StepG) (n : Nat) : mems m ss (n + 1) = mems m ss n ++ [goM m ss n] := by unfold mems; rw [List.range_succ, List.map_append]; rfl
theorem mems_len (m : MemG) (ss : List StepG) (n : Nat) : (mems m ss n).length = n := by unfold mems; simp
def sp_played : Sp := ⟨List LocG × Bool × Int × List StepG × Bool, fun x => [.d (.list (x.1.map LocG.row) x.2.1), .d (.int .i64 x.2.2.1), .d (.list (x.2.2.2.1.map StepG.row) x.2.2.2.2)],
  fun x => .data (x.1.length ≤ maxLen ∧ x.2.2.2.1.length ≤ maxLen) (.tup [.d (.list ((playL x.1 x.2.2.1 x.2.2.2.1).map rowMem) false), .d (.int .i64 (playErr x.1 x.2.2.1 x.2.2.2.1))]) false⟩
theorem at_played (l : List LocG) (f : Bool) (t : Int) (ss : List StepG) (g : Bool) : sp_played.at [.d (.list (l.map LocG.row) f), .d (.int .i64 t), .d (.list (ss.map StepG.row) g)] =
    .data (l.length ≤ maxLen ∧ ss.length ≤ maxLen) (.tup [.d (.list ((playL l t ss).map rowMem) false), .d (.int .i64 (playErr l t ss))]) false :=
  Sp.at_enc (s := sp_played) (fun x y h => by
    obtain ⟨l, f, t, ss, g⟩ := x; obtain ⟨l', f', t', ss', g'⟩ := y
    simp only [sp_played, List.cons.injEq, AV.d.injEq, DV.list.injEq, DV.int.injEq, and_true, true_and] at h
    obtain ⟨⟨h1, h2⟩, h3, h4, h5⟩ := h
    rw [Z4o LocG.row_inj h1, h2, h3, Z4o StepG.row_inj h4, h5]) (l, f, t, ss, g)
def playSt (M : MemG) (ss : List StepG) (g : Bool) : Nat → State
  | 0 => ⟨[(8, .ptr 0 5 0 0), (10, .d (.list [] true)), (25, .d (.list (ss.map StepG.row) g)), (26, .d (.int .i64 ss.length)), (27, .d (.int .i64 0))], [.vec 5 [M.row]]⟩
  | i + 1 => ⟨[(8, .ptr 0 5 0 0), (10, .ref 1 5 0 (i + 1) true), (25, .d (.list (ss.map StepG.row) g)), (26, .d (.int .i64 ss.length)), (27, .d (.int .i64 ((i + 1 : Nat) : Int)))], [.vec 5 [(goM M ss (i + 1)).row], .dvec 5 ((mems M ss (i + 1)).map rowMem)]⟩
set_option maxHeartbeats 4000000 in
theorem body_race_played {T : Tab} {n1 n2 : Nat} (k1 : Knows T n1 sp_New) (k2 : Knows T n2 sp_Do) : sp_played.Body T V_race_played (L_race_played n1 n2) R_race_played := by
  have F1 := k1.F; have G1 := k1.G; have F2 := k2.F; have G2 := k2.G
  rintro ⟨l, f, t, ss, g⟩ ⟨hl, hs⟩
  have hl : l.length ≤ maxLen := hl
  have hs : ss.length ≤ maxLen := hs
  refine ⟨rfl, ?_⟩
  unfold V_race_played L_race_played R_race_played
  simp (maxSteps := 3000000) only [↓Z29, ↓Z33, ↓Z26, ↓Z0x, ↓Z28, ↓Z1x, Z3t, Z3u, ↓Z34, ↓Z25, ↓Z1d, ↓Z27, ↓Z24, ↓Z30, ↓Z32, ↓Z31, ↓Z1k, ↓Z1n, ↓Z1l, ↓Z1m, ↓Z2z, ↓Z3x, ↓Z3w, ↓Z2w, ↓Z2y, ↓Z2x, ↓Z3n, ↓Z3p, ↓Z3o, ↓Z0i, ↓Z08, ↓Z14, ↓Z13, ↓Z12, Z4h, Z0y, Z0z, Z3j, Z10, Z3v, evN, Z2j, Z2o, Z3q, Z3r, Z2m, Z1h, Z2k, Z23, Z1q, Z1p, Z15, Z2l, evT, Opd.ev, Z0e, Z06, Z3l, Z3k, Z3m, Z1j, Z11, Z2u, Z2t, Z2s, Z2a, Z1z, Z41, LOp.isNew, State.prune, Z3a, Z35, AV.leaf, Heap.at, Z0r, Z09, Z04, Z0c, Z01, Z4g, Z4j, Z2r, Z2q, Z2p, Z1r, Z16, Z03, Z0a, Z02, Z00, Z1v, rowI, rowU, RatG.row, LocG.row, ActG.row, StepG.row, StampG.row, ActG.av, ActG.eta, RatG.eta, LocG.eta, beq_true, beq_false, Z1w, Z22, Z2d, Z1i, Z2b, Z1y, Z2c, Z0w, Z0h, Z0u, Z0v, Z0g, Z0f, Z07, List.length_set, List.length_replicate, Int.toNat_natCast, Int.reduceToNat, Z4f, Z1g, Z3z, Src.all, Src.len, Src.leaf, Src.leafN, Z2h, Z3f, Z45, Z0j, Z0k, Z0l, Z0m, Z0n, Z0o, Z0p, Z0q, Z42, drows, evMk, List.length_map, Z1e, Z1o, List.take_length, List.take_left, List.length_append, Nat.le_add_right, ite_self, List.take_of_length_le, Z39, Z49, Z3y, Option.isSome_none, Option.isSome_some, Nat.sub_zero, Z47, Z4a, Z4e, evUn, binT, binQ, chk, Z3b, List.contains_cons, List.contains_nil, Bool.or_false, Bool.false_or, Bool.and_self, resQ, resV, resT, Z4c, Z2i, Z3i, Z3h, fnOf, Z3c, isD, HO.drow, Z48, Z3d, evEq, eqV, eqK, eqC1, Z3g, Z3e, Z2g, Z2e, Z3s, Z2v, Z40, Z38, Z1u, Z19, Z1t, Z18, Z1s, Z17, Z1a, Z0s, Z0t, Z0b, List.mem_cons, List.not_mem_nil, or_false, forall_eq, putRow, Z36, Z2n, RetS, RetF, RetD, AV.frz, AV.frzL, AV.freshP, AV.freshL, DV.less, Z20, Z1b, Z21, Z1c, Z1f, Z0d, Z05, Option.some.injEq, AV.tup.injEq, AV.agg.injEq, List.cons.injEq, DV.list.injEq, List.isEmpty_nil, Nat.le_refl, AV.d.injEq, DV.int.injEq, DV.bool.injEq, ↓reduceIte, Nat.reduceEqDiff, Nat.reduceAdd, Nat.reduceBEq, List.length_cons, List.length_nil, List.replicate_succ, List.replicate_zero, List.nil_append, List.cons_append, List.append_nil, List.foldl_cons, List.foldl_nil, List.map_cons, List.map_nil, List.all_cons, List.all_nil, List.set_cons_zero, List.set_cons_succ, List.getD_cons_zero, List.getD_cons_succ, List.drop_zero, List.drop_succ_cons, List.take_succ_cons, List.take_zero, List.flatten_cons, List.flatten_nil, Bool.true_and, Bool.and_true, Bool.not_true, Bool.not_false, true_and, and_true, true_or, or_true, Option.bind_some, Option.map_some, decide_true, decide_false, beq_self_eq_true, true_implies, false_implies, implies_true, not_true_eq_false, not_false_eq_true, and_self, Bool.and_false, Bool.false_and, Nat.reduceLT, Nat.reduceLeDiff, List.reverse_cons, List.reverse_nil, Nat.zero_add, Nat.add_zero, Bool.false_eq_true, List.getElem?_cons_zero, sp_played, F1, G1, F2, G2, at_New, at_DoM, MemG.av, Z04, Z02]
  have bad : ∀ {e : Int}, playErr l t ss = e → e ≠ 0 → [] = List.map rowMem (playL l t ss) := fun {e} h h2 => by
    unfold playL; rw [if_neg (by omega)]; rfl
  refine ⟨fun c => ?_, fun c => ⟨hl, fun c2 => ?_, fun c2 => ?_⟩⟩
  · have e : playErr l t ss = 15 := if_pos (by omega)
    exact ⟨bad e (by decide), e.symm⟩
  · have hpe : playErr l t ss = firstBad (newM l t) ss := by unfold playErr; rw [if_neg (by omega), if_pos c2]
    have hg0 := newM_good c2
    have hpl : firstBad (newM l t) ss = 0 → playL l t ss = mems (newM l t) ss ss.length := fun h => by unfold playL; rw [if_pos (by rw [hpe]; exact h)]
    generalize newM l t = M at *
    refine Loop.fam [8, 10, 25, 26, 27] (playSt M ss g) (fun i => i ≤ ss.length ∧ ∀ j, j < i → doErr (goM M ss j).plain (ss.getD j default) = 0) (fun i => ss.length - i) 0 [0] (by simp) (by simp) (by simp only [State.can, AV.can, AV.canL, HO.can, Z37, idx, Z0e, Z06, Heap.at, Nat.reduceBEq, ↓reduceIte, Nat.reduceEqDiff, Option.getD_some, Option.map_some, List.map_cons, List.map_nil, List.getD_cons_zero, List.getD_cons_succ, playSt, MemG.row]) ⟨Nat.zero_le _, fun j hj => absurd hj (by omega)⟩ ?_
    rintro i ⟨hi, hj⟩
    have hi : i ≤ ss.length := hi
    have hgood : (goM M ss i).plain.Good (1 + i) := goM_good hg0 ss i
    have next : i < ss.length → doErr (goM M ss i).plain (ss.getD i default) = 0 → (∀ j, j < i + 1 → doErr (goM M ss j).plain (ss.getD j default) = 0) ∧ resM (goM M ss i).plain (ss.getD i default) = goM M ss (i + 1) := fun hlt he => by
      refine ⟨fun j hj2 => ?_, ?_⟩
      · rcases Nat.lt_or_eq_of_le (Nat.le_of_lt_succ hj2) with h | rfl
        · exact hj j h
        · exact he
      · rw [goM_succ M hlt]; unfold stepM resM; rw [if_pos he, if_pos he]
    cases i with
    | zero =>
      have e0 : goM M ss 0 = M := rfl
      rw [e0] at hgood next
      simp (maxSteps := 3000000) only [↓Z29, ↓Z33, ↓Z26, ↓Z0x, ↓Z28, ↓Z1x, Z3t, Z3u, ↓Z34, ↓Z25, ↓Z1d, ↓Z27, ↓Z24, ↓Z30, ↓Z32, ↓Z31, ↓Z1k, ↓Z1n, ↓Z1l, ↓Z1m, ↓Z2z, ↓Z3x, ↓Z3w, ↓Z2w, ↓Z2y, ↓Z2x, ↓Z3n, ↓Z3p, ↓Z3o, ↓Z0i, ↓Z08, ↓Z14, ↓Z13, ↓Z12, Z4h, Z0y, Z0z, Z3j, Z10, Z3v, evN, Z2j, Z2o, Z3q, Z3r, Z2m, Z1h, Z2k, Z23, Z1q, Z1p, Z15, Z2l, evT, Opd.ev, Z0e, Z06, Z3l, Z3k, Z3m, Z1j, Z11, Z2u, Z2t, Z2s, Z2a, Z1z, Z41, LOp.isNew, State.prune, Z3a, Z35, AV.leaf, Heap.at, Z0r, Z09, Z04, Z0c, Z01, Z4g, Z4j, Z2r, Z2q, Z2p, Z1r, Z16, Z03, Z0a, Z02, Z00, Z1v, rowI, rowU, RatG.row, LocG.row, ActG.row, StepG.row, StampG.row, ActG.av, ActG.eta, RatG.eta, LocG.eta, beq_true, beq_false, Z1w, Z22, Z2d, Z1i, Z2b, Z1y, Z2c, Z0w, Z0h, Z0u, Z0v, Z0g, Z0f, Z07, List.length_set, List.length_replicate, Int.toNat_natCast, Int.reduceToNat, Z4f, Z1g, Z3z, Src.all, Src.len, Src.leaf, Src.leafN, Z2h, Z3f, Z45, Z0j, Z0k, Z0l, Z0m, Z0n, Z0o, Z0p, Z0q, Z42, drows, evMk, List.length_map, Z1e, Z1o, List.take_length, List.take_left, List.length_append, Nat.le_add_right, ite_self, List.take_of_length_le, Z39, Z49, Z3y, Option.isSome_none, Option.isSome_some, Nat.sub_zero, Z47, Z4a, Z4e, evUn, binT, binQ, chk, Z3b, List.contains_cons, List.contains_nil, Bool.or_false, Bool.false_or, Bool.and_self, resQ, resV, resT, Z4c, Z2i, Z3i, Z3h, fnOf, Z3c, isD, HO.drow, Z48, Z3d, evEq, eqV, eqK, eqC1, Z3g, Z3e, Z2g, Z2e, Z3s, Z2v, Z40, Z38, Z1u, Z19, Z1t, Z18, Z1s, Z17, Z1a, Z0s, Z0t, Z0b, List.mem_cons, List.not_mem_nil, or_false, forall_eq, putRow, Z36, Z2n, RetS, RetF, RetD, AV.frz, AV.frzL, AV.freshP, AV.freshL, DV.less, Z20, Z1b, Z21, Z1c, Z1f, Z0d, Z05, Option.some.injEq, AV.tup.injEq, AV.agg.injEq, List.cons.injEq, DV.list.injEq, List.isEmpty_nil, Nat.le_refl, AV.d.injEq, DV.int.injEq, DV.bool.injEq, ↓reduceIte, Nat.reduceEqDiff, Nat.reduceAdd, Nat.reduceBEq, List.length_cons, List.length_nil, List.replicate_succ, List.replicate_zero, List.nil_append, List.cons_append, List.append_nil, List.foldl_cons, List.foldl_nil, List.map_cons, List.map_nil, List.all_cons, List.all_nil, List.set_cons_zero, List.set_cons_succ, List.getD_cons_zero, List.getD_cons_succ, List.drop_zero, List.drop_succ_cons, List.take_succ_cons, List.take_zero, List.flatten_cons, List.flatten_nil, Bool.true_and, Bool.and_true, Bool.not_true, Bool.not_false, true_and, and_true, true_or, or_true, Option.bind_some, Option.map_some, decide_true, decide_false, beq_self_eq_true, true_implies, false_implies, implies_true, not_true_eq_false, not_false_eq_true, and_self, Bool.and_false, Bool.false_and, Nat.reduceLT, Nat.reduceLeDiff, List.reverse_cons, List.reverse_nil, Nat.zero_add, Nat.add_zero, Bool.false_eq_true, List.getElem?_cons_zero, playSt, MemG.row, F1, G1, F2, G2, at_DoM, MemG.av, Z04, Z02]
      have rw1 : IntKind.i64.wrap (0 + 1) = ((1 : Nat) : Int) := by decide
      refine ⟨fun h => ⟨⟨by omega, by omega⟩, Z4d (by omega) (by omega), wfM hgood (by omega), fun he => ?_, fun he => ?_⟩, fun h => ?_⟩
      · obtain ⟨n1, n2⟩ := next (by omega) he
        rw [n2, rw1]
        exact Z2f.mk [0, 3] 1 (by simp) (by simp) (by simp only [State.can, AV.can, AV.canL, HO.can, Z37, idx, Z0e, Z06, Heap.at, Nat.reduceBEq, ↓reduceIte, Nat.reduceEqDiff, Option.getD_some, Option.map_some, List.map_cons, List.map_nil, List.getD_cons_zero, List.getD_cons_succ, playSt, MemG.row]; rfl) ⟨by show 1 ≤ _; omega, n1⟩ (by show _ - 1 < _; omega)
      · have e := firstBad_at (m := M) (ss := ss) (n := 0) (by omega) (fun j hj => absurd hj (by omega)) he
        have e2 : playErr l t ss = doErr M.plain (ss.getD 0 default) := hpe.trans e
        exact ⟨bad e2 he, e2.symm⟩
      · have hss : ss = [] := List.length_eq_zero_iff.1 (by omega)
        subst hss
        have e2 : playErr l t [] = 0 := hpe.trans rfl
        exact ⟨by rw [hpl rfl]; rfl, e2.symm⟩
    | succ i =>
      have hrl : ((mems M ss (i + 1)).map rowMem).length = i + 1 := by rw [List.length_map, mems_len]
      have htk : List.take (i + 1) (mems M ss (i + 1)) = mems M ss (i + 1) := List.take_of_length_le (by rw [mems_len]; omega)
      simp (maxSteps := 3000000) only [↓Z29, ↓Z33, ↓Z26, ↓Z0x, ↓Z28, ↓Z1x, Z3t, Z3u, ↓Z34, ↓Z25, ↓Z1d, ↓Z27, ↓Z24, ↓Z30, ↓Z32, ↓Z31, ↓Z1k, ↓Z1n, ↓Z1l, ↓Z1m, ↓Z2z, ↓Z3x, ↓Z3w, ↓Z2w, ↓Z2y, ↓Z2x, ↓Z3n, ↓Z3p, ↓Z3o, ↓Z0i, ↓Z08, ↓Z14, ↓Z13, ↓Z12, Z4h, Z0y, Z0z, Z3j, Z10, Z3v, evN, Z2j, Z2o, Z3q, Z3r, Z2m, Z1h, Z2k, Z23, Z1q, Z1p, Z15, Z2l, evT, Opd.ev, Z0e, Z06, Z3l, Z3k, Z3m, Z1j, Z11, Z2u, Z2t, Z2s, Z2a, Z1z, Z41, LOp.isNew, State.prune, Z3a, Z35, AV.leaf, Heap.at, Z0r, Z09, Z04, Z0c, Z01, Z4g, Z4j, Z2r, Z2q, Z2p, Z1r, Z16, Z03, Z0a, Z02, Z00, Z1v, rowI, rowU, RatG.row, LocG.row, ActG.row, StepG.row, StampG.row, ActG.av, ActG.eta, RatG.eta, LocG.eta, beq_true, beq_false, Z1w, Z22, Z2d, Z1i, Z2b, Z1y, Z2c, Z0w, Z0h, Z0u, Z0v, Z0g, Z0f, Z07, List.length_set, List.length_replicate, Int.toNat_natCast, Int.reduceToNat, Z4f, Z1g, Z3z, Src.all, Src.len, Src.leaf, Src.leafN, Z2h, Z3f, Z45, Z0j, Z0k, Z0l, Z0m, Z0n, Z0o, Z0p, Z0q, Z42, drows, evMk, List.length_map, Z1e, Z1o, List.take_length, List.take_left, List.length_append, Nat.le_add_right, ite_self, List.take_of_length_le, Z39, Z49, Z3y, Option.isSome_none, Option.isSome_some, Nat.sub_zero, Z47, Z4a, Z4e, evUn, binT, binQ, chk, Z3b, List.contains_cons, List.contains_nil, Bool.or_false, Bool.false_or, Bool.and_self, resQ, resV, resT, Z4c, Z2i, Z3i, Z3h, fnOf, Z3c, isD, HO.drow, Z48, Z3d, evEq, eqV, eqK, eqC1, Z3g, Z3e, Z2g, Z2e, Z3s, Z2v, Z40, Z38, Z1u, Z19, Z1t, Z18, Z1s, Z17, Z1a, Z0s, Z0t, Z0b, List.mem_cons, List.not_mem_nil, or_false, forall_eq, putRow, Z36, Z2n, RetS, RetF, RetD, AV.frz, AV.frzL, AV.freshP, AV.freshL, DV.less, Z20, Z1b, Z21, Z1c, Z1f, Z0d, Z05, Option.some.injEq, AV.tup.injEq, AV.agg.injEq, List.cons.injEq, DV.list.injEq, List.isEmpty_nil, Nat.le_refl, AV.d.injEq, DV.int.injEq, DV.bool.injEq, ↓reduceIte, Nat.reduceEqDiff, Nat.reduceAdd, Nat.reduceBEq, List.length_cons, List.length_nil, List.replicate_succ, List.replicate_zero, List.nil_append, List.cons_append, List.append_nil, List.foldl_cons, List.foldl_nil, List.map_cons, List.map_nil, List.all_cons, List.all_nil, List.set_cons_zero, List.set_cons_succ, List.getD_cons_zero, List.getD_cons_succ, List.drop_zero, List.drop_succ_cons, List.take_succ_cons, List.take_zero, List.flatten_cons, List.flatten_nil, Bool.true_and, Bool.and_true, Bool.not_true, Bool.not_false, true_and, and_true, true_or, or_true, Option.bind_some, Option.map_some, decide_true, decide_false, beq_self_eq_true, true_implies, false_implies, implies_true, not_true_eq_false, not_false_eq_true, and_self, Bool.and_false, Bool.false_and, Nat.reduceLT, Nat.reduceLeDiff, List.reverse_cons, List.reverse_nil, Nat.zero_add, Nat.add_zero, Bool.false_eq_true, List.getElem?_cons_zero, playSt, MemG.row, F1, G1, F2, G2, at_DoM, MemG.av, Z04, Z02, mems_len, htk]
      refine ⟨fun h => ⟨⟨by omega, by omega⟩, Z4d (by omega) (by omega), wfM hgood (by omega), fun he => ?_, fun he => ?_⟩, fun h => ?_⟩
      · have hlt : i + 1 < ss.length := by omega
        obtain ⟨n1, n2⟩ := next hlt he
        rw [n2, Z44 hlt hs]
        exact Z2f.mk [0, 4] (i + 2) (by simp) (by simp) (by simp only [State.can, AV.can, AV.canL, HO.can, Z37, idx, Z0e, Z06, Heap.at, Nat.reduceBEq, ↓reduceIte, Nat.reduceEqDiff, Option.getD_some, Option.map_some, List.map_cons, List.map_nil, List.getD_cons_zero, List.getD_cons_succ, playSt, MemG.row, mems_succ M ss (i + 1), List.map_append]; rfl) ⟨by show i + 2 ≤ _; omega, n1⟩ (by show _ - (i + 2) < _ - (i + 1); omega)
      · have e := firstBad_at (m := M) (ss := ss) (n := i + 1) (by omega) hj he
        have e2 : playErr l t ss = doErr (goM M ss (i + 1)).plain (ss.getD (i + 1) default) := hpe.trans e
        exact ⟨bad e2 he, e2.symm⟩
      · have hie : i + 1 = ss.length := by omega
        have e := firstBad_ok (m := M) (ss := ss) (by rw [← hie]; exact hj)
        exact ⟨by rw [hpl e, hie], (hpe.trans e).symm⟩
  · have e : playErr l t ss = newErr l t := by unfold playErr; rw [if_neg (by omega), if_neg c2]
    exact ⟨bad e c2, e.symm⟩
end Go.Ago

/- Package race: the order of a run. Conditions: none. -/
set_option maxRecDepth 100000
set_option linter.unusedSimpArgs false
set_option linter.unusedVariables false
namespace Go.Ago
/-! ### Pairs -/
def pRow (q : Nat → Nat → Bool) (i k : Nat) : List RatG := ((List.range k).filter fun j => decide (i < j) && q i j).map fun (j : Nat) => ⟨(i : Int), (j : Int)⟩
def pAll (q : Nat → Nat → Bool) (n i : Nat) : List RatG := (List.range i).flatMap fun j => pRow q j n
theorem pRow_start (q : Nat → Nat → Bool) (i : Nat) : pRow q i (i + 1) = [] := by
  unfold pRow
  have : (List.range (i + 1)).filter (fun j => decide (i < j) && q i j) = [] := by
    rw [List.filter_eq_nil_iff]
    intro j hj
    have := List.mem_range.1 hj
    simp; omega
  rw [this]; rfl
theorem pRow_succ (q : Nat → Nat → Bool) {i k : Nat} (h : i < k) : pRow q i (k + 1) = pRow q i k ++ (if q i k = true then [⟨i, k⟩] else []) := by
  unfold pRow
  rw [List.range_succ, List.filter_append, List.map_append]
  congr 1
  rw [List.filter_cons, decide_eq_true h, Bool.true_and]
  split <;> rfl
theorem pAll_succ (q : Nat → Nat → Bool) (n i : Nat) : pAll q n (i + 1) = pAll q n i ++ pRow q i n := by unfold pAll; rw [List.range_succ, List.flatMap_append]; simp
theorem pRow_len (q : Nat → Nat → Bool) (i k : Nat) : (pRow q i k).length ≤ k := by
  unfold pRow
  rw [List.length_map]
  exact Nat.le_trans (List.length_filter_le _ _) (by simp)
theorem pAll_len (q : Nat → Nat → Bool) (n i : Nat) : (pAll q n i).length ≤ i * n := by
  induction i with
  | zero => simp [pAll]
  | succ i ih => rw [pAll_succ, List.length_append, Nat.succ_mul]; have := pRow_len q i n; omega
def accAV (id : Nat) : List RatG → AV
  | [] => .d (.list [] true)
  | a :: r => .ref id 2 0 (r.length + 1) true
def accO : List RatG → Heap
  | [] => []
  | a :: r => [.dvec 2 ((a :: r).map RatG.row)]
theorem at_Of0 (n : Int) (f : Bool) : sp_Of.at [.d (.int .i64 n), .d (.list [] f)] = .data (0 ≤ maxLen) (.tup [.d (.list ((ofG n []).map rowW) false), .d (.int .i64 (ofErr n []))]) true := at_Of n [] f
theorem at_OfC (n : Int) (a : RatG) (r : List RatG) (f : Bool) : sp_Of.at [.d (.int .i64 n), .d (.list ([.int .i64 a.num, .int .i64 a.den] :: r.map RatG.row) f)] = .data ((a :: r).length ≤ maxLen) (.tup [.d (.list ((ofG n (a :: r)).map rowW) false), .d (.int .i64 (ofErr n (a :: r)))]) true := at_Of n (a :: r) f
theorem ofG_le {n : Int} {l : List RatG} : (ofG n l).length ≤ 64 := by
  unfold ofG
  split
  · rename_i h
    rw [mkR_len]
    unfold ofErr at h
    split at h
    · cases h
    · omega
  · simp
theorem ret1 (l : List W) : RetRows 1 (l.map rowW) (.ref 0 1 0 l.length true) [.dvec 1 (l.map rowW)] := .inl ⟨0, true, by rw [List.length_map], rfl⟩
theorem ret1' (l : List W) (o : HO) : RetRows 1 (l.map rowW) (.ref 1 1 0 l.length true) [o, .dvec 1 (l.map rowW)] := .inl ⟨1, true, by rw [List.length_map], rfl⟩
/-! ### ordered -/
def dirB (a b : StepG) : Bool := decide (a.thread = b.thread) || (isSet a.act.kind && isAt b.act.kind && decide (a.act.loc = b.act.loc))
theorem dirB_1 {a b : StepG} (h : a.thread = b.thread) : dirB a b = true := by unfold dirB; rw [decide_eq_true h]; rfl
theorem dirB_2 {a b : StepG} (h1 : isSet a.act.kind = true) (h2 : isAt b.act.kind = true) (h3 : a.act.loc = b.act.loc) : dirB a b = true := by unfold dirB; rw [h1, h2, decide_eq_true h3]; simp
theorem dirB_3 {a b : StepG} (h : ¬ a.thread = b.thread) (h1 : isSet a.act.kind = false) : dirB a b = false := by unfold dirB; rw [decide_eq_false h, h1]; rfl
theorem dirB_4 {a b : StepG} (h : ¬ a.thread = b.thread) (h1 : isAt b.act.kind = false) : dirB a b = false := by unfold dirB; rw [decide_eq_false h, h1]; simp
theorem dirB_5 {a b : StepG} (h : ¬ a.thread = b.thread) (h1 : ¬ a.act.loc = b.act.loc) : dirB a b = false := by unfold dirB; rw [decide_eq_false h, decide_eq_false h1]; simp
def dirQ (ss : List StepG) (i k : Nat) : Bool := dirB (ss.getD i default) (ss.getD k default)
def ordG (ss : List StepG) : List W := plusG (ofG ss.length (pAll (dirQ ss) ss.length ss.length))
def sp_ordered : Sp := ⟨List StepG × Bool, fun x => [.d (.list (x.1.map StepG.row) x.2)], fun x => .rows (x.1.length ≤ 64) 1 ((ordG x.1).map rowW)⟩
theorem at_ordered (ss : List StepG) (g : Bool) : sp_ordered.at [.d (.list (ss.map StepG.row) g)] = .rows (ss.length ≤ 64) 1 ((ordG ss).map rowW) :=
  Sp.at_enc (s := sp_ordered) (fun x y h => by
    obtain ⟨ss, g⟩ := x; obtain ⟨ss', g'⟩ := y
    simp only [sp_ordered, List.cons.injEq, AV.d.injEq, DV.list.injEq, and_true] at h
    rw [Z4o StepG.row_inj h.1, h.2]) (ss, g)
def ordSt1 (ss : List StepG) (g : Bool) (x : Nat × List RatG) : State :=
  ⟨[(0, .d (.list (ss.map StepG.row) g)), (14, .d (.list (ss.map StepG.row) g)), (15, .d (.int .i64 ss.length)), (16, .d (.int .i64 x.1)), (3, accAV 0 x.2)], accO x.2⟩
def ordSt2 (ss : List StepG) (g : Bool) (i : Nat) (x : Nat × List RatG) : State :=
  ⟨[(0, .d (.list (ss.map StepG.row) g)), (14, .d (.list (ss.map StepG.row) g)), (15, .d (.int .i64 ss.length)), (16, .d (.int .i64 i)), (4, .d (.int .i64 i)), (5, .ptr 0 7 0 0), (7, .d (.bool (isSet (ss.getD i default).act.kind))), (8, .d (.int .i64 x.1)), (3, accAV 1 x.2)],
    .vec 7 [[.d (.int .i64 (ss.getD i default).thread), .d (.int .i64 (ss.getD i default).act.kind), .d (.int .i64 (ss.getD i default).act.loc), .d (.int .i64 (ss.getD i default).act.old), .d (.int .i64 (ss.getD i default).act.new), .d (.int .i64 (ss.getD i default).when.num), .d (.int .i64 (ss.getD i default).when.den)]] :: accO x.2⟩
set_option maxHeartbeats 4000000 in
theorem body_race_ordered {T : Tab} {n1 n2 n3 : Nat} (k1 : Knows T n1 sp_ratomic) (k2 : Knows T n2 sp_Of) (k3 : Knows T n3 sp_Plus) : sp_ordered.Body T V_race_ordered (L_race_ordered n1 n2 n3) R_race_ordered := by
  have F1 := k1.F; have G1 := k1.G; have F2 := k2.F; have G2 := k2.G; have F3 := k3.F; have G3 := k3.G
  rintro ⟨ss, g⟩ hs
  have hs : ss.length ≤ 64 := hs
  refine ⟨fun r hr => by obtain ⟨x, -, rfl⟩ := List.mem_map.1 hr; rfl, ?_⟩
  show vck T 0 V_race_ordered (L_race_ordered n1 n2 n3) ⟨Z2a 0 [.d (.list (ss.map StepG.row) g)], []⟩ (retK R_race_ordered (RetRows 1 ((ordG ss).map rowW)))
  generalize hX : RetRows 1 _ = X
  unfold V_race_ordered L_race_ordered R_race_ordered
  simp (maxSteps := 3000000) only [↓Z29, ↓Z33, ↓Z26, ↓Z0x, ↓Z28, ↓Z1x, Z3t, Z3u, ↓Z34, ↓Z25, ↓Z1d, ↓Z27, ↓Z24, ↓Z30, ↓Z32, ↓Z31, ↓Z1k, ↓Z1n, ↓Z1l, ↓Z1m, ↓Z2z, ↓Z3x, ↓Z3w, ↓Z2w, ↓Z2y, ↓Z2x, ↓Z3n, ↓Z3p, ↓Z3o, ↓Z0i, ↓Z08, ↓Z14, ↓Z13, ↓Z12, Z4h, Z0y, Z0z, Z3j, Z10, Z3v, evN, Z2j, Z2o, Z3q, Z3r, Z2m, Z1h, Z2k, Z23, Z1q, Z1p, Z15, Z2l, evT, Opd.ev, Z0e, Z06, Z3l, Z3k, Z3m, Z1j, Z11, Z2u, Z2t, Z2s, Z2a, Z1z, Z41, LOp.isNew, State.prune, Z3a, Z35, AV.leaf, Heap.at, Z0r, Z09, Z04, Z0c, Z01, Z4g, Z4j, Z2r, Z2q, Z2p, Z1r, Z16, Z03, Z0a, Z02, Z00, Z1v, rowI, rowU, RatG.row, LocG.row, ActG.row, StepG.row, StampG.row, ActG.av, ActG.eta, RatG.eta, LocG.eta, beq_true, beq_false, Z1w, Z22, Z2d, Z1i, Z2b, Z1y, Z2c, Z0w, Z0h, Z0u, Z0v, Z0g, Z0f, Z07, List.length_set, List.length_replicate, Int.toNat_natCast, Int.reduceToNat, Z4f, Z1g, Z3z, Src.all, Src.len, Src.leaf, Src.leafN, Z2h, Z3f, Z45, Z0j, Z0k, Z0l, Z0m, Z0n, Z0o, Z0p, Z0q, Z42, drows, evMk, List.length_map, Z1e, Z1o, List.take_length, List.take_left, List.length_append, Nat.le_add_right, ite_self, List.take_of_length_le, Z39, Z49, Z3y, Option.isSome_none, Option.isSome_some, Nat.sub_zero, Z47, Z4a, Z4e, evUn, binT, binQ, chk, Z3b, List.contains_cons, List.contains_nil, Bool.or_false, Bool.false_or, Bool.and_self, resQ, resV, resT, Z4c, Z2i, Z3i, Z3h, fnOf, Z3c, isD, HO.drow, Z48, Z3d, evEq, eqV, eqK, eqC1, Z3g, Z3e, Z2g, Z2e, Z3s, Z2v, Z40, Z38, Z1u, Z19, Z1t, Z18, Z1s, Z17, Z1a, Z0s, Z0t, Z0b, List.mem_cons, List.not_mem_nil, or_false, forall_eq, putRow, Z36, Z2n, RetS, RetF, RetD, AV.frz, AV.frzL, AV.freshP, AV.freshL, DV.less, Z20, Z1b, Z21, Z1c, Z1f, Z0d, Z05, Option.some.injEq, AV.tup.injEq, AV.agg.injEq, List.cons.injEq, DV.list.injEq, List.isEmpty_nil, Nat.le_refl, AV.d.injEq, DV.int.injEq, DV.bool.injEq, ↓reduceIte, Nat.reduceEqDiff, Nat.reduceAdd, Nat.reduceBEq, List.length_cons, List.length_nil, List.replicate_succ, List.replicate_zero, List.nil_append, List.cons_append, List.append_nil, List.foldl_cons, List.foldl_nil, List.map_cons, List.map_nil, List.all_cons, List.all_nil, List.set_cons_zero, List.set_cons_succ, List.getD_cons_zero, List.getD_cons_succ, List.drop_zero, List.drop_succ_cons, List.take_succ_cons, List.take_zero, List.flatten_cons, List.flatten_nil, Bool.true_and, Bool.and_true, Bool.not_true, Bool.not_false, true_and, and_true, true_or, or_true, Option.bind_some, Option.map_some, decide_true, decide_false, beq_self_eq_true, true_implies, false_implies, implies_true, not_true_eq_false, not_false_eq_true, and_self, Bool.and_false, Bool.false_and, Nat.reduceLT, Nat.reduceLeDiff, List.reverse_cons, List.reverse_nil, Nat.zero_add, Nat.add_zero, Bool.false_eq_true, List.getElem?_cons_zero, F1, G1, F2, G2, F3, G3, at_ratomic, at_Of, at_Plus, Z04, Z02]
  refine Loop.fam [0, 14, 15, 16, 3] (ordSt1 ss g) (fun x => x.1 ≤ ss.length ∧ x.2 = pAll (dirQ ss) ss.length x.1) (fun x => ss.length - x.1) (0, []) [] (by simp) (by simp) (by simp only [State.can, AV.can, AV.canL, HO.can, Z37, idx, Z0e, Z06, Heap.at, Nat.reduceBEq, ↓reduceIte, Nat.reduceEqDiff, Option.getD_some, Option.map_some, List.map_cons, List.map_nil, List.getD_cons_zero, List.getD_cons_succ, ordSt1, accAV, accO]; rfl) ⟨Nat.zero_le _, rfl⟩ ?_
  rintro ⟨i, L⟩ ⟨hi, hL⟩
  have hi : i ≤ ss.length := hi
  have hL : L = pAll (dirQ ss) ss.length i := hL
  have hm : maxLen = 9223372036854775807 := rfl
  have hLl : L.length ≤ i * ss.length := by rw [hL]; exact pAll_len _ _ _
  have hLb : L.length ≤ 64 * 64 := Nat.le_trans hLl (Nat.mul_le_mul (by omega) hs)
  have key : ∀ k, i < k → k < ss.length → True := fun _ _ _ => trivial
  obtain _ | ⟨c0, e0⟩ := L
  case' nil =>
    simp (maxSteps := 3000000) only [↓Z29, ↓Z33, ↓Z26, ↓Z0x, ↓Z28, ↓Z1x, Z3t, Z3u, ↓Z34, ↓Z25, ↓Z1d, ↓Z27, ↓Z24, ↓Z30, ↓Z32, ↓Z31, ↓Z1k, ↓Z1n, ↓Z1l, ↓Z1m, ↓Z2z, ↓Z3x, ↓Z3w, ↓Z2w, ↓Z2y, ↓Z2x, ↓Z3n, ↓Z3p, ↓Z3o, ↓Z0i, ↓Z08, ↓Z14, ↓Z13, ↓Z12, Z4h, Z0y, Z0z, Z3j, Z10, Z3v, evN, Z2j, Z2o, Z3q, Z3r, Z2m, Z1h, Z2k, Z23, Z1q, Z1p, Z15, Z2l, evT, Opd.ev, Z0e, Z06, Z3l, Z3k, Z3m, Z1j, Z11, Z2u, Z2t, Z2s, Z2a, Z1z, Z41, LOp.isNew, State.prune, Z3a, Z35, AV.leaf, Heap.at, Z0r, Z09, Z04, Z0c, Z01, Z4g, Z4j, Z2r, Z2q, Z2p, Z1r, Z16, Z03, Z0a, Z02, Z00, Z1v, rowI, rowU, RatG.row, LocG.row, ActG.row, StepG.row, StampG.row, ActG.av, ActG.eta, RatG.eta, LocG.eta, beq_true, beq_false, Z1w, Z22, Z2d, Z1i, Z2b, Z1y, Z2c, Z0w, Z0h, Z0u, Z0v, Z0g, Z0f, Z07, List.length_set, List.length_replicate, Int.toNat_natCast, Int.reduceToNat, Z4f, Z1g, Z3z, Src.all, Src.len, Src.leaf, Src.leafN, Z2h, Z3f, Z45, Z0j, Z0k, Z0l, Z0m, Z0n, Z0o, Z0p, Z0q, Z42, drows, evMk, List.length_map, Z1e, Z1o, List.take_length, List.take_left, List.length_append, Nat.le_add_right, ite_self, List.take_of_length_le, Z39, Z49, Z3y, Option.isSome_none, Option.isSome_some, Nat.sub_zero, Z47, Z4a, Z4e, evUn, binT, binQ, chk, Z3b, List.contains_cons, List.contains_nil, Bool.or_false, Bool.false_or, Bool.and_self, resQ, resV, resT, Z4c, Z2i, Z3i, Z3h, fnOf, Z3c, isD, HO.drow, Z48, Z3d, evEq, eqV, eqK, eqC1, Z3g, Z3e, Z2g, Z2e, Z3s, Z2v, Z40, Z38, Z1u, Z19, Z1t, Z18, Z1s, Z17, Z1a, Z0s, Z0t, Z0b, List.mem_cons, List.not_mem_nil, or_false, forall_eq, putRow, Z36, Z2n, RetS, RetF, RetD, AV.frz, AV.frzL, AV.freshP, AV.freshL, DV.less, Z20, Z1b, Z21, Z1c, Z1f, Z0d, Z05, Option.some.injEq, AV.tup.injEq, AV.agg.injEq, List.cons.injEq, DV.list.injEq, List.isEmpty_nil, Nat.le_refl, AV.d.injEq, DV.int.injEq, DV.bool.injEq, ↓reduceIte, Nat.reduceEqDiff, Nat.reduceAdd, Nat.reduceBEq, List.length_cons, List.length_nil, List.replicate_succ, List.replicate_zero, List.nil_append, List.cons_append, List.append_nil, List.foldl_cons, List.foldl_nil, List.map_cons, List.map_nil, List.all_cons, List.all_nil, List.set_cons_zero, List.set_cons_succ, List.getD_cons_zero, List.getD_cons_succ, List.drop_zero, List.drop_succ_cons, List.take_succ_cons, List.take_zero, List.flatten_cons, List.flatten_nil, Bool.true_and, Bool.and_true, Bool.not_true, Bool.not_false, true_and, and_true, true_or, or_true, Option.bind_some, Option.map_some, decide_true, decide_false, beq_self_eq_true, true_implies, false_implies, implies_true, not_true_eq_false, not_false_eq_true, and_self, Bool.and_false, Bool.false_and, Nat.reduceLT, Nat.reduceLeDiff, List.reverse_cons, List.reverse_nil, Nat.zero_add, Nat.add_zero, Bool.false_eq_true, List.getElem?_cons_zero, ordSt1, accAV, accO, F1, G1, F2, G2, F3, G3, at_ratomic, at_Of0, at_Plus, Z04, Z02]
    refine ⟨fun c => ⟨⟨by omega, by omega⟩, ?_⟩, fun c => ?_⟩
  case' cons =>
    simp (maxSteps := 3000000) only [↓Z29, ↓Z33, ↓Z26, ↓Z0x, ↓Z28, ↓Z1x, Z3t, Z3u, ↓Z34, ↓Z25, ↓Z1d, ↓Z27, ↓Z24, ↓Z30, ↓Z32, ↓Z31, ↓Z1k, ↓Z1n, ↓Z1l, ↓Z1m, ↓Z2z, ↓Z3x, ↓Z3w, ↓Z2w, ↓Z2y, ↓Z2x, ↓Z3n, ↓Z3p, ↓Z3o, ↓Z0i, ↓Z08, ↓Z14, ↓Z13, ↓Z12, Z4h, Z0y, Z0z, Z3j, Z10, Z3v, evN, Z2j, Z2o, Z3q, Z3r, Z2m, Z1h, Z2k, Z23, Z1q, Z1p, Z15, Z2l, evT, Opd.ev, Z0e, Z06, Z3l, Z3k, Z3m, Z1j, Z11, Z2u, Z2t, Z2s, Z2a, Z1z, Z41, LOp.isNew, State.prune, Z3a, Z35, AV.leaf, Heap.at, Z0r, Z09, Z04, Z0c, Z01, Z4g, Z4j, Z2r, Z2q, Z2p, Z1r, Z16, Z03, Z0a, Z02, Z00, Z1v, rowI, rowU, RatG.row, LocG.row, ActG.row, StepG.row, StampG.row, ActG.av, ActG.eta, RatG.eta, LocG.eta, beq_true, beq_false, Z1w, Z22, Z2d, Z1i, Z2b, Z1y, Z2c, Z0w, Z0h, Z0u, Z0v, Z0g, Z0f, Z07, List.length_set, List.length_replicate, Int.toNat_natCast, Int.reduceToNat, Z4f, Z1g, Z3z, Src.all, Src.len, Src.leaf, Src.leafN, Z2h, Z3f, Z45, Z0j, Z0k, Z0l, Z0m, Z0n, Z0o, Z0p, Z0q, Z42, drows, evMk, List.length_map, Z1e, Z1o, List.take_length, List.take_left, List.length_append, Nat.le_add_right, ite_self, List.take_of_length_le, Z39, Z49, Z3y, Option.isSome_none, Option.isSome_some, Nat.sub_zero, Z47, Z4a, Z4e, evUn, binT, binQ, chk, Z3b, List.contains_cons, List.contains_nil, Bool.or_false, Bool.false_or, Bool.and_self, resQ, resV, resT, Z4c, Z2i, Z3i, Z3h, fnOf, Z3c, isD, HO.drow, Z48, Z3d, evEq, eqV, eqK, eqC1, Z3g, Z3e, Z2g, Z2e, Z3s, Z2v, Z40, Z38, Z1u, Z19, Z1t, Z18, Z1s, Z17, Z1a, Z0s, Z0t, Z0b, List.mem_cons, List.not_mem_nil, or_false, forall_eq, putRow, Z36, Z2n, RetS, RetF, RetD, AV.frz, AV.frzL, AV.freshP, AV.freshL, DV.less, Z20, Z1b, Z21, Z1c, Z1f, Z0d, Z05, Option.some.injEq, AV.tup.injEq, AV.agg.injEq, List.cons.injEq, DV.list.injEq, List.isEmpty_nil, Nat.le_refl, AV.d.injEq, DV.int.injEq, DV.bool.injEq, ↓reduceIte, Nat.reduceEqDiff, Nat.reduceAdd, Nat.reduceBEq, List.length_cons, List.length_nil, List.replicate_succ, List.replicate_zero, List.nil_append, List.cons_append, List.append_nil, List.foldl_cons, List.foldl_nil, List.map_cons, List.map_nil, List.all_cons, List.all_nil, List.set_cons_zero, List.set_cons_succ, List.getD_cons_zero, List.getD_cons_succ, List.drop_zero, List.drop_succ_cons, List.take_succ_cons, List.take_zero, List.flatten_cons, List.flatten_nil, Bool.true_and, Bool.and_true, Bool.not_true, Bool.not_false, true_and, and_true, true_or, or_true, Option.bind_some, Option.map_some, decide_true, decide_false, beq_self_eq_true, true_implies, false_implies, implies_true, not_true_eq_false, not_false_eq_true, and_self, Bool.and_false, Bool.false_and, Nat.reduceLT, Nat.reduceLeDiff, List.reverse_cons, List.reverse_nil, Nat.zero_add, Nat.add_zero, Bool.false_eq_true, List.getElem?_cons_zero, ordSt1, accAV, accO, F1, G1, F2, G2, F3, G3, at_ratomic, at_OfC, at_Plus, Z04, Z02]
    refine ⟨fun c => ⟨⟨by omega, by omega⟩, ?_⟩, fun c => ?_⟩
  case nil.refine_2 =>
    have hie : i = ss.length := by omega
    subst hie
    rw [← hX]
    unfold ordG
    rw [← hL]
    exact ⟨by decide, Nat.le_trans ofG_le (by decide), ret1 _⟩
  case cons.refine_2 =>
    have hie : i = ss.length := by omega
    subst hie
    rw [← hX]
    unfold ordG
    rw [← hL]
    have hLc : e0.length + 1 ≤ 64 * 64 := hLb
    exact ⟨by omega, Nat.le_trans ofG_le (by decide), ret1' _ _⟩
  case' nil.refine_1 =>
    refine Loop.fam [0, 14, 15, 16, 4, 5, 7, 8, 3] (ordSt2 ss g i) (fun x => i < x.1 ∧ x.1 ≤ ss.length ∧ x.2 = pAll (dirQ ss) ss.length i ++ pRow (dirQ ss) i x.1) (fun x => ss.length - x.1) (i + 1, []) [0] (by simp) (by simp) (by simp only [State.can, AV.can, AV.canL, HO.can, Z37, idx, Z0e, Z06, Heap.at, Nat.reduceBEq, ↓reduceIte, Nat.reduceEqDiff, Option.getD_some, Option.map_some, List.map_cons, List.map_nil, List.getD_cons_zero, List.getD_cons_succ, ordSt2, accAV, accO, Z44 (show i < ss.length by omega) (by omega)]) ⟨Nat.lt_succ_self _, by show i + 1 ≤ _; omega, by show [] = _; rw [pRow_start, ← hL]; rfl⟩ ?_
  case' cons.refine_1 =>
    refine Loop.fam [0, 14, 15, 16, 4, 5, 7, 8, 3] (ordSt2 ss g i) (fun x => i < x.1 ∧ x.1 ≤ ss.length ∧ x.2 = pAll (dirQ ss) ss.length i ++ pRow (dirQ ss) i x.1) (fun x => ss.length - x.1) (i + 1, c0 :: e0) [1, 0] (by simp) (by simp) (by simp only [State.can, AV.can, AV.canL, HO.can, Z37, idx, Z0e, Z06, Heap.at, Nat.reduceBEq, ↓reduceIte, Nat.reduceEqDiff, Option.getD_some, Option.map_some, List.map_cons, List.map_nil, List.getD_cons_zero, List.getD_cons_succ, ordSt2, accAV, accO, Z44 (show i < ss.length by omega) (by omega)]; rfl) ⟨Nat.lt_succ_self _, by show i + 1 ≤ _; omega, by show c0 :: e0 = _; rw [pRow_start, ← hL, List.append_nil]⟩ ?_
  all_goals
    have hi' : i < ss.length := by omega
    clear hL hLl hLb
    rintro ⟨k, M⟩ ⟨hik, hk, hM⟩
    have hik : i < k := hik
    have hk : k ≤ ss.length := hk
    have hM : M = pAll (dirQ ss) ss.length i ++ pRow (dirQ ss) i k := hM
    have hMl : M.length ≤ 4160 := by
      rw [hM, List.length_append]
      have h1 := pAll_len (dirQ ss) ss.length i
      have h2 := pRow_len (dirQ ss) i k
      have h3 : i * ss.length ≤ 64 * 64 := Nat.mul_le_mul (by omega) hs
      omega
    obtain _ | ⟨d, r⟩ := M
    case' nil =>
      simp (maxSteps := 3000000) only [↓Z29, ↓Z33, ↓Z26, ↓Z0x, ↓Z28, ↓Z1x, Z3t, Z3u, ↓Z34, ↓Z25, ↓Z1d, ↓Z27, ↓Z24, ↓Z30, ↓Z32, ↓Z31, ↓Z1k, ↓Z1n, ↓Z1l, ↓Z1m, ↓Z2z, ↓Z3x, ↓Z3w, ↓Z2w, ↓Z2y, ↓Z2x, ↓Z3n, ↓Z3p, ↓Z3o, ↓Z0i, ↓Z08, ↓Z14, ↓Z13, ↓Z12, Z4h, Z0y, Z0z, Z3j, Z10, Z3v, evN, Z2j, Z2o, Z3q, Z3r, Z2m, Z1h, Z2k, Z23, Z1q, Z1p, Z15, Z2l, evT, Opd.ev, Z0e, Z06, Z3l, Z3k, Z3m, Z1j, Z11, Z2u, Z2t, Z2s, Z2a, Z1z, Z41, LOp.isNew, State.prune, Z3a, Z35, AV.leaf, Heap.at, Z0r, Z09, Z04, Z0c, Z01, Z4g, Z4j, Z2r, Z2q, Z2p, Z1r, Z16, Z03, Z0a, Z02, Z00, Z1v, rowI, rowU, RatG.row, LocG.row, ActG.row, StepG.row, StampG.row, ActG.av, ActG.eta, RatG.eta, LocG.eta, beq_true, beq_false, Z1w, Z22, Z2d, Z1i, Z2b, Z1y, Z2c, Z0w, Z0h, Z0u, Z0v, Z0g, Z0f, Z07, List.length_set, List.length_replicate, Int.toNat_natCast, Int.reduceToNat, Z4f, Z1g, Z3z, Src.all, Src.len, Src.leaf, Src.leafN, Z2h, Z3f, Z45, Z0j, Z0k, Z0l, Z0m, Z0n, Z0o, Z0p, Z0q, Z42, drows, evMk, List.length_map, Z1e, Z1o, List.take_length, List.take_left, List.length_append, Nat.le_add_right, ite_self, List.take_of_length_le, Z39, Z49, Z3y, Option.isSome_none, Option.isSome_some, Nat.sub_zero, Z47, Z4a, Z4e, evUn, binT, binQ, chk, Z3b, List.contains_cons, List.contains_nil, Bool.or_false, Bool.false_or, Bool.and_self, resQ, resV, resT, Z4c, Z2i, Z3i, Z3h, fnOf, Z3c, isD, HO.drow, Z48, Z3d, evEq, eqV, eqK, eqC1, Z3g, Z3e, Z2g, Z2e, Z3s, Z2v, Z40, Z38, Z1u, Z19, Z1t, Z18, Z1s, Z17, Z1a, Z0s, Z0t, Z0b, List.mem_cons, List.not_mem_nil, or_false, forall_eq, putRow, Z36, Z2n, RetS, RetF, RetD, AV.frz, AV.frzL, AV.freshP, AV.freshL, DV.less, Z20, Z1b, Z21, Z1c, Z1f, Z0d, Z05, Option.some.injEq, AV.tup.injEq, AV.agg.injEq, List.cons.injEq, DV.list.injEq, List.isEmpty_nil, Nat.le_refl, AV.d.injEq, DV.int.injEq, DV.bool.injEq, ↓reduceIte, Nat.reduceEqDiff, Nat.reduceAdd, Nat.reduceBEq, List.length_cons, List.length_nil, List.replicate_succ, List.replicate_zero, List.nil_append, List.cons_append, List.append_nil, List.foldl_cons, List.foldl_nil, List.map_cons, List.map_nil, List.all_cons, List.all_nil, List.set_cons_zero, List.set_cons_succ, List.getD_cons_zero, List.getD_cons_succ, List.drop_zero, List.drop_succ_cons, List.take_succ_cons, List.take_zero, List.flatten_cons, List.flatten_nil, Bool.true_and, Bool.and_true, Bool.not_true, Bool.not_false, true_and, and_true, true_or, or_true, Option.bind_some, Option.map_some, decide_true, decide_false, beq_self_eq_true, true_implies, false_implies, implies_true, not_true_eq_false, not_false_eq_true, and_self, Bool.and_false, Bool.false_and, Nat.reduceLT, Nat.reduceLeDiff, List.reverse_cons, List.reverse_nil, Nat.zero_add, Nat.add_zero, Bool.false_eq_true, List.getElem?_cons_zero, ordSt2, accAV, accO, F1, G1, F2, G2, F3, G3, at_ratomic, at_Of0, at_Plus, Z04, Z02]
    case' cons =>
      simp (maxSteps := 3000000) only [↓Z29, ↓Z33, ↓Z26, ↓Z0x, ↓Z28, ↓Z1x, Z3t, Z3u, ↓Z34, ↓Z25, ↓Z1d, ↓Z27, ↓Z24, ↓Z30, ↓Z32, ↓Z31, ↓Z1k, ↓Z1n, ↓Z1l, ↓Z1m, ↓Z2z, ↓Z3x, ↓Z3w, ↓Z2w, ↓Z2y, ↓Z2x, ↓Z3n, ↓Z3p, ↓Z3o, ↓Z0i, ↓Z08, ↓Z14, ↓Z13, ↓Z12, Z4h, Z0y, Z0z, Z3j, Z10, Z3v, evN, Z2j, Z2o, Z3q, Z3r, Z2m, Z1h, Z2k, Z23, Z1q, Z1p, Z15, Z2l, evT, Opd.ev, Z0e, Z06, Z3l, Z3k, Z3m, Z1j, Z11, Z2u, Z2t, Z2s, Z2a, Z1z, Z41, LOp.isNew, State.prune, Z3a, Z35, AV.leaf, Heap.at, Z0r, Z09, Z04, Z0c, Z01, Z4g, Z4j, Z2r, Z2q, Z2p, Z1r, Z16, Z03, Z0a, Z02, Z00, Z1v, rowI, rowU, RatG.row, LocG.row, ActG.row, StepG.row, StampG.row, ActG.av, ActG.eta, RatG.eta, LocG.eta, beq_true, beq_false, Z1w, Z22, Z2d, Z1i, Z2b, Z1y, Z2c, Z0w, Z0h, Z0u, Z0v, Z0g, Z0f, Z07, List.length_set, List.length_replicate, Int.toNat_natCast, Int.reduceToNat, Z4f, Z1g, Z3z, Src.all, Src.len, Src.leaf, Src.leafN, Z2h, Z3f, Z45, Z0j, Z0k, Z0l, Z0m, Z0n, Z0o, Z0p, Z0q, Z42, drows, evMk, List.length_map, Z1e, Z1o, List.take_length, List.take_left, List.length_append, Nat.le_add_right, ite_self, List.take_of_length_le, Z39, Z49, Z3y, Option.isSome_none, Option.isSome_some, Nat.sub_zero, Z47, Z4a, Z4e, evUn, binT, binQ, chk, Z3b, List.contains_cons, List.contains_nil, Bool.or_false, Bool.false_or, Bool.and_self, resQ, resV, resT, Z4c, Z2i, Z3i, Z3h, fnOf, Z3c, isD, HO.drow, Z48, Z3d, evEq, eqV, eqK, eqC1, Z3g, Z3e, Z2g, Z2e, Z3s, Z2v, Z40, Z38, Z1u, Z19, Z1t, Z18, Z1s, Z17, Z1a, Z0s, Z0t, Z0b, List.mem_cons, List.not_mem_nil, or_false, forall_eq, putRow, Z36, Z2n, RetS, RetF, RetD, AV.frz, AV.frzL, AV.freshP, AV.freshL, DV.less, Z20, Z1b, Z21, Z1c, Z1f, Z0d, Z05, Option.some.injEq, AV.tup.injEq, AV.agg.injEq, List.cons.injEq, DV.list.injEq, List.isEmpty_nil, Nat.le_refl, AV.d.injEq, DV.int.injEq, DV.bool.injEq, ↓reduceIte, Nat.reduceEqDiff, Nat.reduceAdd, Nat.reduceBEq, List.length_cons, List.length_nil, List.replicate_succ, List.replicate_zero, List.nil_append, List.cons_append, List.append_nil, List.foldl_cons, List.foldl_nil, List.map_cons, List.map_nil, List.all_cons, List.all_nil, List.set_cons_zero, List.set_cons_succ, List.getD_cons_zero, List.getD_cons_succ, List.drop_zero, List.drop_succ_cons, List.take_succ_cons, List.take_zero, List.flatten_cons, List.flatten_nil, Bool.true_and, Bool.and_true, Bool.not_true, Bool.not_false, true_and, and_true, true_or, or_true, Option.bind_some, Option.map_some, decide_true, decide_false, beq_self_eq_true, true_implies, false_implies, implies_true, not_true_eq_false, not_false_eq_true, and_self, Bool.and_false, Bool.false_and, Nat.reduceLT, Nat.reduceLeDiff, List.reverse_cons, List.reverse_nil, Nat.zero_add, Nat.add_zero, Bool.false_eq_true, List.getElem?_cons_zero, ordSt2, accAV, accO, F1, G1, F2, G2, F3, G3, at_ratomic, at_OfC, at_Plus, Z04, Z02]
    case' nil =>
      refine ⟨fun c => ⟨⟨by omega, by omega⟩, ?_⟩, fun c => ?_⟩
    case' cons =>
      refine ⟨fun c => ⟨⟨by omega, by omega⟩, ?_⟩, fun c => ?_⟩
    case nil.refine_2 =>
      have hke : k = ss.length := by omega
      subst hke
      exact Z2f.mk [] (i + 1, []) (by simp) (by simp) (by simp only [State.can, AV.can, AV.canL, HO.can, Z37, idx, Z0e, Z06, Heap.at, Nat.reduceBEq, ↓reduceIte, Nat.reduceEqDiff, Option.getD_some, Option.map_some, List.map_cons, List.map_nil, List.getD_cons_zero, List.getD_cons_succ, ordSt1, accAV, accO, Z44 hi' (by omega)]) ⟨by show i + 1 ≤ _; omega, by show [] = _; rw [pAll_succ, ← hM]⟩ (by show _ - (i + 1) < _ - i; omega)
    case cons.refine_2 =>
      have hke : k = ss.length := by omega
      subst hke
      exact Z2f.mk [1] (i + 1, d :: r) (by simp) (by simp) (by simp only [State.can, AV.can, AV.canL, HO.can, Z37, idx, Z0e, Z06, Heap.at, Nat.reduceBEq, ↓reduceIte, Nat.reduceEqDiff, Option.getD_some, Option.map_some, List.map_cons, List.map_nil, List.getD_cons_zero, List.getD_cons_succ, ordSt1, accAV, accO, Z44 hi' (by omega)]; rfl) ⟨by show i + 1 ≤ _; omega, by show d :: r = _; rw [pAll_succ, ← hM]⟩ (by show _ - (i + 1) < _ - i; omega)
    case nil.refine_1 =>
      have hkl : k < ss.length := by omega
      have hq : dirQ ss i k = dirB (ss.getD i default) (ss.getD k default) := rfl
      have yes : dirB (ss.getD i default) (ss.getD k default) = true → [⟨(i : Int), (k : Int)⟩] = pAll (dirQ ss) ss.length i ++ pRow (dirQ ss) i (k + 1) := fun h => by
        rw [pRow_succ _ hik, if_pos (hq.trans h), ← List.append_assoc, ← hM]; rfl
      have no : dirB (ss.getD i default) (ss.getD k default) = false → [] = pAll (dirQ ss) ss.length i ++ pRow (dirQ ss) i (k + 1) := fun h => by
        rw [pRow_succ _ hik, if_neg (by rw [hq.trans h]; decide), List.append_nil, ← hM]
      have hroom : roomy 1 16 := Z4d (by decide) (by decide)
      clear hq hM
      refine ⟨fun c => ⟨hroom, ?_⟩, fun c => ⟨fun c1 => ⟨fun c2 => ⟨fun c3 => ⟨hroom, ?_⟩, fun c3 => ?_⟩, fun c2 => ?_⟩, fun c1 => ?_⟩⟩
      all_goals first
        | exact Z2f.mk [0, 3] (k + 1, [⟨(i : Int), (k : Int)⟩]) (by simp) (by simp) (by simp only [State.can, AV.can, AV.canL, HO.can, Z37, idx, Z0e, Z06, Heap.at, Nat.reduceBEq, ↓reduceIte, Nat.reduceEqDiff, Option.getD_some, Option.map_some, List.map_cons, List.map_nil, List.getD_cons_zero, List.getD_cons_succ, ordSt2, accAV, accO, List.length_append, List.length_singleton, Z44 hkl (by omega)]; rfl) ⟨by show i < k + 1; omega, by show k + 1 ≤ _; omega, yes (by first | exact dirB_1 ‹_› | exact dirB_2 ‹_› ‹_› ‹_›)⟩ (by show _ - (k + 1) < _ - k; omega)
        | exact Z2f.mk [0] (k + 1, []) (by simp) (by simp) (by simp only [State.can, AV.can, AV.canL, HO.can, Z37, idx, Z0e, Z06, Heap.at, Nat.reduceBEq, ↓reduceIte, Nat.reduceEqDiff, Option.getD_some, Option.map_some, List.map_cons, List.map_nil, List.getD_cons_zero, List.getD_cons_succ, ordSt2, accAV, accO, List.length_append, List.length_singleton, Z44 hkl (by omega)]) ⟨by show i < k + 1; omega, by show k + 1 ≤ _; omega, no (by first | exact dirB_3 ‹_› ‹_› | exact dirB_4 ‹_› ‹_› | exact dirB_5 ‹_› ‹_›)⟩ (by show _ - (k + 1) < _ - k; omega)
    case cons.refine_1 =>
      have hkl : k < ss.length := by omega
      have hq : dirQ ss i k = dirB (ss.getD i default) (ss.getD k default) := rfl
      have yes : dirB (ss.getD i default) (ss.getD k default) = true → d :: (r ++ [⟨(i : Int), (k : Int)⟩]) = pAll (dirQ ss) ss.length i ++ pRow (dirQ ss) i (k + 1) := fun h => by
        rw [pRow_succ _ hik, if_pos (hq.trans h), ← List.append_assoc, ← hM]; rfl
      have no : dirB (ss.getD i default) (ss.getD k default) = false → d :: r = pAll (dirQ ss) ss.length i ++ pRow (dirQ ss) i (k + 1) := fun h => by
        rw [pRow_succ _ hik, if_neg (by rw [hq.trans h]; decide), List.append_nil, ← hM]
      have hroom : roomy (r.length + 1 + 1) 16 := Z4d (by have := hMl; simp only [List.length_cons] at this; omega) (by decide)
      clear hq hM
      refine ⟨fun c => ⟨hroom, ?_⟩, fun c => ⟨fun c1 => ⟨fun c2 => ⟨fun c3 => ⟨hroom, ?_⟩, fun c3 => ?_⟩, fun c2 => ?_⟩, fun c1 => ?_⟩⟩
      all_goals first
        | exact Z2f.mk [0, 4] (k + 1, d :: (r ++ [⟨(i : Int), (k : Int)⟩])) (by simp) (by simp) (by simp only [State.can, AV.can, AV.canL, HO.can, Z37, idx, Z0e, Z06, Heap.at, Nat.reduceBEq, ↓reduceIte, Nat.reduceEqDiff, Option.getD_some, Option.map_some, List.map_cons, List.map_nil, List.getD_cons_zero, List.getD_cons_succ, ordSt2, accAV, accO, List.length_append, List.length_singleton, Z44 hkl (by omega)]; rfl) ⟨by show i < k + 1; omega, by show k + 1 ≤ _; omega, yes (by first | exact dirB_1 ‹_› | exact dirB_2 ‹_› ‹_› ‹_›)⟩ (by show _ - (k + 1) < _ - k; omega)
        | exact Z2f.mk [0, 1] (k + 1, d :: r) (by simp) (by simp) (by simp only [State.can, AV.can, AV.canL, HO.can, Z37, idx, Z0e, Z06, Heap.at, Nat.reduceBEq, ↓reduceIte, Nat.reduceEqDiff, Option.getD_some, Option.map_some, List.map_cons, List.map_nil, List.getD_cons_zero, List.getD_cons_succ, ordSt2, accAV, accO, List.length_append, List.length_singleton, Z44 hkl (by omega)]; rfl) ⟨by show i < k + 1; omega, by show k + 1 ≤ _; omega, no (by first | exact dirB_3 ‹_› ‹_› | exact dirB_4 ‹_› ‹_› | exact dirB_5 ‹_› ‹_›)⟩ (by show _ - (k + 1) < _ - k; omega)
end Go.Ago

/- Package race: Order and Races. Conditions: none. -/
set_option maxRecDepth 100000
set_option linter.unusedSimpArgs false
set_option linter.unusedVariables false
namespace Go.Ago
theorem playErr_len {l : List LocG} {t : Int} {ss : List StepG} (h : playErr l t ss = 0) : ss.length ≤ 64 := by
  unfold playErr at h
  split at h
  · cases h
  · omega
/-! ### Order -/
/-! ### Races -/
theorem pl2 : isPl 2 = true := rfl
def rcB (R : List W) (ss : List StepG) (i k : Nat) : Bool :=
  isPl (ss.getD i default).act.kind && isPl (ss.getD k default).act.kind && decide ((ss.getD i default).act.loc = (ss.getD k default).act.loc) && !decide ((ss.getD i default).thread = (ss.getD k default).thread)
    && (decide ((ss.getD i default).act.kind = 2) || decide ((ss.getD k default).act.kind = 2)) && !hasI R i k
def racesL (l : List LocG) (t : Int) (ss : List StepG) : List RatG := if playErr l t ss = 0 then pAll (rcB (ordG ss) ss) ss.length ss.length else []
def sp_Races : Sp := ⟨List LocG × Bool × Int × List StepG × Bool, fun x => [.d (.list (x.1.map LocG.row) x.2.1), .d (.int .i64 x.2.2.1), .d (.list (x.2.2.2.1.map StepG.row) x.2.2.2.2)],
  fun x => .data (x.1.length ≤ maxLen ∧ x.2.2.2.1.length ≤ maxLen) (.tup [.d (.list ((racesL x.1 x.2.2.1 x.2.2.2.1).map RatG.row) false), .d (.int .i64 (playErr x.1 x.2.2.1 x.2.2.2.1))]) false⟩
theorem at_Races (l : List LocG) (f : Bool) (t : Int) (ss : List StepG) (g : Bool) : sp_Races.at [.d (.list (l.map LocG.row) f), .d (.int .i64 t), .d (.list (ss.map StepG.row) g)] =
    .data (l.length ≤ maxLen ∧ ss.length ≤ maxLen) (.tup [.d (.list ((racesL l t ss).map RatG.row) false), .d (.int .i64 (playErr l t ss))]) false :=
  Sp.at_enc (s := sp_Races) (fun x y h => by
    obtain ⟨l, f, t, ss, g⟩ := x; obtain ⟨l', f', t', ss', g'⟩ := y
    simp only [sp_Races, List.cons.injEq, AV.d.injEq, DV.list.injEq, DV.int.injEq, and_true, true_and] at h
    obtain ⟨⟨h1, h2⟩, h3, h4, h5⟩ := h
    rw [Z4o LocG.row_inj h1, h2, h3, Z4o StepG.row_inj h4, h5]) (l, f, t, ss, g)
def raSt1 (ss : List StepG) (g : Bool) (R : List W) (x : Nat × List RatG) : State :=
  ⟨[(2, .d (.list (ss.map StepG.row) g)), (29, .d (.list (ss.map StepG.row) g)), (30, .d (.int .i64 ss.length)), (31, .d (.int .i64 x.1)), (10, .ref 0 1 0 R.length true), (11, accAV 1 x.2)], .dvec 1 (R.map rowW) :: accO x.2⟩
def raSt2 (ss : List StepG) (g : Bool) (R : List W) (i : Nat) (x : Nat × List RatG) : State :=
  ⟨[(2, .d (.list (ss.map StepG.row) g)), (29, .d (.list (ss.map StepG.row) g)), (30, .d (.int .i64 ss.length)), (31, .d (.int .i64 i)), (12, .d (.int .i64 i)), (13, .ptr 1 7 0 0), (10, .ref 0 1 0 R.length true), (14, .d (.int .i64 x.1)), (11, accAV 2 x.2)],
    .dvec 1 (R.map rowW) :: .vec 7 [[.d (.int .i64 (ss.getD i default).thread), .d (.int .i64 (ss.getD i default).act.kind), .d (.int .i64 (ss.getD i default).act.loc), .d (.int .i64 (ss.getD i default).act.old), .d (.int .i64 (ss.getD i default).act.new), .d (.int .i64 (ss.getD i default).when.num), .d (.int .i64 (ss.getD i default).when.den)]] :: accO x.2⟩
theorem ordG_le {ss : List StepG} : (ordG ss).length ≤ 64 := by
  unfold ordG plusG
  rw [mkR_len]
  exact szR_le _
set_option maxHeartbeats 4000000 in
theorem body_race_Races {T : Tab} {n1 n2 n3 n4 : Nat} (k1 : Knows T n1 sp_Has) (k2 : Knows T n2 sp_played) (k3 : Knows T n3 sp_ordered) (k4 : Knows T n4 sp_rplain) : sp_Races.Body T V_race_Races (L_race_Races n1 n2 n3 n4) R_race_Races := by
  have F1 := k1.F; have G1 := k1.G; have F2 := k2.F; have G2 := k2.G; have F3 := k3.F; have G3 := k3.G; have F4 := k4.F; have G4 := k4.G
  rintro ⟨l, f, t, ss, g⟩ ⟨hl, hs⟩
  have hl : l.length ≤ maxLen := hl
  have hs : ss.length ≤ maxLen := hs
  refine ⟨rfl, ?_⟩
  unfold V_race_Races L_race_Races R_race_Races
  simp (maxSteps := 3000000) only [↓Z29, ↓Z33, ↓Z26, ↓Z0x, ↓Z28, ↓Z1x, Z3t, Z3u, ↓Z34, ↓Z25, ↓Z1d, ↓Z27, ↓Z24, ↓Z30, ↓Z32, ↓Z31, ↓Z1k, ↓Z1n, ↓Z1l, ↓Z1m, ↓Z2z, ↓Z3x, ↓Z3w, ↓Z2w, ↓Z2y, ↓Z2x, ↓Z3n, ↓Z3p, ↓Z3o, ↓Z0i, ↓Z08, ↓Z14, ↓Z13, ↓Z12, Z4h, Z0y, Z0z, Z3j, Z10, Z3v, evN, Z2j, Z2o, Z3q, Z3r, Z2m, Z1h, Z2k, Z23, Z1q, Z1p, Z15, Z2l, evT, Opd.ev, Z0e, Z06, Z3l, Z3k, Z3m, Z1j, Z11, Z2u, Z2t, Z2s, Z2a, Z1z, Z41, LOp.isNew, State.prune, Z3a, Z35, AV.leaf, Heap.at, Z0r, Z09, Z04, Z0c, Z01, Z4g, Z4j, Z2r, Z2q, Z2p, Z1r, Z16, Z03, Z0a, Z02, Z00, Z1v, rowI, rowU, RatG.row, LocG.row, ActG.row, StepG.row, StampG.row, ActG.av, ActG.eta, RatG.eta, LocG.eta, beq_true, beq_false, Z1w, Z22, Z2d, Z1i, Z2b, Z1y, Z2c, Z0w, Z0h, Z0u, Z0v, Z0g, Z0f, Z07, List.length_set, List.length_replicate, Int.toNat_natCast, Int.reduceToNat, Z4f, Z1g, Z3z, Src.all, Src.len, Src.leaf, Src.leafN, Z2h, Z3f, Z45, Z0j, Z0k, Z0l, Z0m, Z0n, Z0o, Z0p, Z0q, Z42, drows, evMk, List.length_map, Z1e, Z1o, List.take_length, List.take_left, List.length_append, Nat.le_add_right, ite_self, List.take_of_length_le, Z39, Z49, Z3y, Option.isSome_none, Option.isSome_some, Nat.sub_zero, Z47, Z4a, Z4e, evUn, binT, binQ, chk, Z3b, List.contains_cons, List.contains_nil, Bool.or_false, Bool.false_or, Bool.and_self, resQ, resV, resT, Z4c, Z2i, Z3i, Z3h, fnOf, Z3c, isD, HO.drow, Z48, Z3d, evEq, eqV, eqK, eqC1, Z3g, Z3e, Z2g, Z2e, Z3s, Z2v, Z40, Z38, Z1u, Z19, Z1t, Z18, Z1s, Z17, Z1a, Z0s, Z0t, Z0b, List.mem_cons, List.not_mem_nil, or_false, forall_eq, putRow, Z36, Z2n, RetS, RetF, RetD, AV.frz, AV.frzL, AV.freshP, AV.freshL, DV.less, Z20, Z1b, Z21, Z1c, Z1f, Z0d, Z05, Option.some.injEq, AV.tup.injEq, AV.agg.injEq, List.cons.injEq, DV.list.injEq, List.isEmpty_nil, Nat.le_refl, AV.d.injEq, DV.int.injEq, DV.bool.injEq, ↓reduceIte, Nat.reduceEqDiff, Nat.reduceAdd, Nat.reduceBEq, List.length_cons, List.length_nil, List.replicate_succ, List.replicate_zero, List.nil_append, List.cons_append, List.append_nil, List.foldl_cons, List.foldl_nil, List.map_cons, List.map_nil, List.all_cons, List.all_nil, List.set_cons_zero, List.set_cons_succ, List.getD_cons_zero, List.getD_cons_succ, List.drop_zero, List.drop_succ_cons, List.take_succ_cons, List.take_zero, List.flatten_cons, List.flatten_nil, Bool.true_and, Bool.and_true, Bool.not_true, Bool.not_false, true_and, and_true, true_or, or_true, Option.bind_some, Option.map_some, decide_true, decide_false, beq_self_eq_true, true_implies, false_implies, implies_true, not_true_eq_false, not_false_eq_true, and_self, Bool.and_false, Bool.false_and, Nat.reduceLT, Nat.reduceLeDiff, List.reverse_cons, List.reverse_nil, Nat.zero_add, Nat.add_zero, Bool.false_eq_true, List.getElem?_cons_zero, sp_Races, F1, G1, F2, G2, F3, G3, F4, G4, at_played, at_ordered, at_rplain, at_Has, Z04, Z02]
  refine ⟨⟨hl, hs⟩, fun he => ⟨playErr_len he, ?_⟩, fun he => by unfold racesL; rw [if_neg he]; rfl⟩
  have hs := playErr_len he
  have hm : maxLen = 9223372036854775807 := rfl
  have hRl : (ordG ss).length ≤ maxLen := Nat.le_trans ordG_le (by decide)
  have hra : racesL l t ss = pAll (rcB (ordG ss) ss) ss.length ss.length := by unfold racesL; rw [if_pos he]
  rw [hra, he]
  generalize ordG ss = R at *
  refine Loop.fam [2, 29, 30, 31, 10, 11] (raSt1 ss g R) (fun x => x.1 ≤ ss.length ∧ x.2 = pAll (rcB R ss) ss.length x.1) (fun x => ss.length - x.1) (0, []) [0] (by simp) (by simp) (by simp only [State.can, AV.can, AV.canL, HO.can, Z37, idx, Z0e, Z06, Heap.at, Nat.reduceBEq, ↓reduceIte, Nat.reduceEqDiff, Option.getD_some, Option.map_some, List.map_cons, List.map_nil, List.getD_cons_zero, List.getD_cons_succ, raSt1, accAV, accO]; rfl) ⟨Nat.zero_le _, rfl⟩ ?_
  rintro ⟨i, L⟩ ⟨hi, hL⟩
  have hi : i ≤ ss.length := hi
  have hL : L = pAll (rcB R ss) ss.length i := hL
  have hLl : L.length ≤ i * ss.length := by rw [hL]; exact pAll_len _ _ _
  have hLb : L.length ≤ 64 * 64 := Nat.le_trans hLl (Nat.mul_le_mul (by omega) hs)
  obtain _ | ⟨c0, e0⟩ := L
  case' nil =>
    simp (maxSteps := 3000000) only [↓Z29, ↓Z33, ↓Z26, ↓Z0x, ↓Z28, ↓Z1x, Z3t, Z3u, ↓Z34, ↓Z25, ↓Z1d, ↓Z27, ↓Z24, ↓Z30, ↓Z32, ↓Z31, ↓Z1k, ↓Z1n, ↓Z1l, ↓Z1m, ↓Z2z, ↓Z3x, ↓Z3w, ↓Z2w, ↓Z2y, ↓Z2x, ↓Z3n, ↓Z3p, ↓Z3o, ↓Z0i, ↓Z08, ↓Z14, ↓Z13, ↓Z12, Z4h, Z0y, Z0z, Z3j, Z10, Z3v, evN, Z2j, Z2o, Z3q, Z3r, Z2m, Z1h, Z2k, Z23, Z1q, Z1p, Z15, Z2l, evT, Opd.ev, Z0e, Z06, Z3l, Z3k, Z3m, Z1j, Z11, Z2u, Z2t, Z2s, Z2a, Z1z, Z41, LOp.isNew, State.prune, Z3a, Z35, AV.leaf, Heap.at, Z0r, Z09, Z04, Z0c, Z01, Z4g, Z4j, Z2r, Z2q, Z2p, Z1r, Z16, Z03, Z0a, Z02, Z00, Z1v, rowI, rowU, RatG.row, LocG.row, ActG.row, StepG.row, StampG.row, ActG.av, ActG.eta, RatG.eta, LocG.eta, beq_true, beq_false, Z1w, Z22, Z2d, Z1i, Z2b, Z1y, Z2c, Z0w, Z0h, Z0u, Z0v, Z0g, Z0f, Z07, List.length_set, List.length_replicate, Int.toNat_natCast, Int.reduceToNat, Z4f, Z1g, Z3z, Src.all, Src.len, Src.leaf, Src.leafN, Z2h, Z3f, Z45, Z0j, Z0k, Z0l, Z0m, Z0n, Z0o, Z0p, Z0q, Z42, drows, evMk, List.length_map, Z1e, Z1o, List.take_length, List.take_left, List.length_append, Nat.le_add_right, ite_self, List.take_of_length_le, Z39, Z49, Z3y, Option.isSome_none, Option.isSome_some, Nat.sub_zero, Z47, Z4a, Z4e, evUn, binT, binQ, chk, Z3b, List.contains_cons, List.contains_nil, Bool.or_false, Bool.false_or, Bool.and_self, resQ, resV, resT, Z4c, Z2i, Z3i, Z3h, fnOf, Z3c, isD, HO.drow, Z48, Z3d, evEq, eqV, eqK, eqC1, Z3g, Z3e, Z2g, Z2e, Z3s, Z2v, Z40, Z38, Z1u, Z19, Z1t, Z18, Z1s, Z17, Z1a, Z0s, Z0t, Z0b, List.mem_cons, List.not_mem_nil, or_false, forall_eq, putRow, Z36, Z2n, RetS, RetF, RetD, AV.frz, AV.frzL, AV.freshP, AV.freshL, DV.less, Z20, Z1b, Z21, Z1c, Z1f, Z0d, Z05, Option.some.injEq, AV.tup.injEq, AV.agg.injEq, List.cons.injEq, DV.list.injEq, List.isEmpty_nil, Nat.le_refl, AV.d.injEq, DV.int.injEq, DV.bool.injEq, ↓reduceIte, Nat.reduceEqDiff, Nat.reduceAdd, Nat.reduceBEq, List.length_cons, List.length_nil, List.replicate_succ, List.replicate_zero, List.nil_append, List.cons_append, List.append_nil, List.foldl_cons, List.foldl_nil, List.map_cons, List.map_nil, List.all_cons, List.all_nil, List.set_cons_zero, List.set_cons_succ, List.getD_cons_zero, List.getD_cons_succ, List.drop_zero, List.drop_succ_cons, List.take_succ_cons, List.take_zero, List.flatten_cons, List.flatten_nil, Bool.true_and, Bool.and_true, Bool.not_true, Bool.not_false, true_and, and_true, true_or, or_true, Option.bind_some, Option.map_some, decide_true, decide_false, beq_self_eq_true, true_implies, false_implies, implies_true, not_true_eq_false, not_false_eq_true, and_self, Bool.and_false, Bool.false_and, Nat.reduceLT, Nat.reduceLeDiff, List.reverse_cons, List.reverse_nil, Nat.zero_add, Nat.add_zero, Bool.false_eq_true, List.getElem?_cons_zero, raSt1, accAV, accO, F1, G1, F2, G2, F3, G3, F4, G4, at_rplain, at_Has, Z04, Z02]
  case' cons =>
    simp (maxSteps := 3000000) only [↓Z29, ↓Z33, ↓Z26, ↓Z0x, ↓Z28, ↓Z1x, Z3t, Z3u, ↓Z34, ↓Z25, ↓Z1d, ↓Z27, ↓Z24, ↓Z30, ↓Z32, ↓Z31, ↓Z1k, ↓Z1n, ↓Z1l, ↓Z1m, ↓Z2z, ↓Z3x, ↓Z3w, ↓Z2w, ↓Z2y, ↓Z2x, ↓Z3n, ↓Z3p, ↓Z3o, ↓Z0i, ↓Z08, ↓Z14, ↓Z13, ↓Z12, Z4h, Z0y, Z0z, Z3j, Z10, Z3v, evN, Z2j, Z2o, Z3q, Z3r, Z2m, Z1h, Z2k, Z23, Z1q, Z1p, Z15, Z2l, evT, Opd.ev, Z0e, Z06, Z3l, Z3k, Z3m, Z1j, Z11, Z2u, Z2t, Z2s, Z2a, Z1z, Z41, LOp.isNew, State.prune, Z3a, Z35, AV.leaf, Heap.at, Z0r, Z09, Z04, Z0c, Z01, Z4g, Z4j, Z2r, Z2q, Z2p, Z1r, Z16, Z03, Z0a, Z02, Z00, Z1v, rowI, rowU, RatG.row, LocG.row, ActG.row, StepG.row, StampG.row, ActG.av, ActG.eta, RatG.eta, LocG.eta, beq_true, beq_false, Z1w, Z22, Z2d, Z1i, Z2b, Z1y, Z2c, Z0w, Z0h, Z0u, Z0v, Z0g, Z0f, Z07, List.length_set, List.length_replicate, Int.toNat_natCast, Int.reduceToNat, Z4f, Z1g, Z3z, Src.all, Src.len, Src.leaf, Src.leafN, Z2h, Z3f, Z45, Z0j, Z0k, Z0l, Z0m, Z0n, Z0o, Z0p, Z0q, Z42, drows, evMk, List.length_map, Z1e, Z1o, List.take_length, List.take_left, List.length_append, Nat.le_add_right, ite_self, List.take_of_length_le, Z39, Z49, Z3y, Option.isSome_none, Option.isSome_some, Nat.sub_zero, Z47, Z4a, Z4e, evUn, binT, binQ, chk, Z3b, List.contains_cons, List.contains_nil, Bool.or_false, Bool.false_or, Bool.and_self, resQ, resV, resT, Z4c, Z2i, Z3i, Z3h, fnOf, Z3c, isD, HO.drow, Z48, Z3d, evEq, eqV, eqK, eqC1, Z3g, Z3e, Z2g, Z2e, Z3s, Z2v, Z40, Z38, Z1u, Z19, Z1t, Z18, Z1s, Z17, Z1a, Z0s, Z0t, Z0b, List.mem_cons, List.not_mem_nil, or_false, forall_eq, putRow, Z36, Z2n, RetS, RetF, RetD, AV.frz, AV.frzL, AV.freshP, AV.freshL, DV.less, Z20, Z1b, Z21, Z1c, Z1f, Z0d, Z05, Option.some.injEq, AV.tup.injEq, AV.agg.injEq, List.cons.injEq, DV.list.injEq, List.isEmpty_nil, Nat.le_refl, AV.d.injEq, DV.int.injEq, DV.bool.injEq, ↓reduceIte, Nat.reduceEqDiff, Nat.reduceAdd, Nat.reduceBEq, List.length_cons, List.length_nil, List.replicate_succ, List.replicate_zero, List.nil_append, List.cons_append, List.append_nil, List.foldl_cons, List.foldl_nil, List.map_cons, List.map_nil, List.all_cons, List.all_nil, List.set_cons_zero, List.set_cons_succ, List.getD_cons_zero, List.getD_cons_succ, List.drop_zero, List.drop_succ_cons, List.take_succ_cons, List.take_zero, List.flatten_cons, List.flatten_nil, Bool.true_and, Bool.and_true, Bool.not_true, Bool.not_false, true_and, and_true, true_or, or_true, Option.bind_some, Option.map_some, decide_true, decide_false, beq_self_eq_true, true_implies, false_implies, implies_true, not_true_eq_false, not_false_eq_true, and_self, Bool.and_false, Bool.false_and, Nat.reduceLT, Nat.reduceLeDiff, List.reverse_cons, List.reverse_nil, Nat.zero_add, Nat.add_zero, Bool.false_eq_true, List.getElem?_cons_zero, raSt1, accAV, accO, F1, G1, F2, G2, F3, G3, F4, G4, at_rplain, at_Has, Z04, Z02]
  case' nil =>
    refine ⟨fun c => ⟨⟨by omega, by omega⟩, ?_⟩, fun c => ?_⟩
  case' cons =>
    refine ⟨fun c => ⟨⟨by omega, by omega⟩, ?_⟩, fun c => ?_⟩
  case nil.refine_2 =>
    have hie : i = ss.length := by omega
    subst hie
    rw [← hL]; rfl
  case cons.refine_2 =>
    have hie : i = ss.length := by omega
    subst hie
    rw [← hL]; rfl
  case' nil.refine_1 =>
    refine Loop.fam [2, 29, 30, 31, 12, 13, 10, 14, 11] (raSt2 ss g R i) (fun x => i < x.1 ∧ x.1 ≤ ss.length ∧ x.2 = pAll (rcB R ss) ss.length i ++ pRow (rcB R ss) i x.1) (fun x => ss.length - x.1) (i + 1, []) [0, 1] (by simp) (by simp) (by simp only [State.can, AV.can, AV.canL, HO.can, Z37, idx, Z0e, Z06, Heap.at, Nat.reduceBEq, ↓reduceIte, Nat.reduceEqDiff, Option.getD_some, Option.map_some, List.map_cons, List.map_nil, List.getD_cons_zero, List.getD_cons_succ, raSt2, accAV, accO, Z44 (show i < ss.length by omega) (by omega)]) ⟨Nat.lt_succ_self _, by show i + 1 ≤ _; omega, by show [] = _; rw [pRow_start, ← hL]; rfl⟩ ?_
  case' cons.refine_1 =>
    refine Loop.fam [2, 29, 30, 31, 12, 13, 10, 14, 11] (raSt2 ss g R i) (fun x => i < x.1 ∧ x.1 ≤ ss.length ∧ x.2 = pAll (rcB R ss) ss.length i ++ pRow (rcB R ss) i x.1) (fun x => ss.length - x.1) (i + 1, c0 :: e0) [0, 2, 1] (by simp) (by simp) (by simp only [State.can, AV.can, AV.canL, HO.can, Z37, idx, Z0e, Z06, Heap.at, Nat.reduceBEq, ↓reduceIte, Nat.reduceEqDiff, Option.getD_some, Option.map_some, List.map_cons, List.map_nil, List.getD_cons_zero, List.getD_cons_succ, raSt2, accAV, accO, Z44 (show i < ss.length by omega) (by omega)]; rfl) ⟨Nat.lt_succ_self _, by show i + 1 ≤ _; omega, by show c0 :: e0 = _; rw [pRow_start, ← hL, List.append_nil]⟩ ?_
  all_goals
    have hi' : i < ss.length := by omega
    clear hL hLl hLb
    rintro ⟨k, M⟩ ⟨hik, hk, hM⟩
    have hik : i < k := hik
    have hk : k ≤ ss.length := hk
    have hM : M = pAll (rcB R ss) ss.length i ++ pRow (rcB R ss) i k := hM
    have hMl : M.length ≤ 4160 := by
      rw [hM, List.length_append]
      have h1 := pAll_len (rcB R ss) ss.length i
      have h2 := pRow_len (rcB R ss) i k
      have h3 : i * ss.length ≤ 64 * 64 := Nat.mul_le_mul (by omega) hs
      omega
    obtain _ | ⟨d, r⟩ := M
    case' nil =>
      simp (maxSteps := 3000000) only [↓Z29, ↓Z33, ↓Z26, ↓Z0x, ↓Z28, ↓Z1x, Z3t, Z3u, ↓Z34, ↓Z25, ↓Z1d, ↓Z27, ↓Z24, ↓Z30, ↓Z32, ↓Z31, ↓Z1k, ↓Z1n, ↓Z1l, ↓Z1m, ↓Z2z, ↓Z3x, ↓Z3w, ↓Z2w, ↓Z2y, ↓Z2x, ↓Z3n, ↓Z3p, ↓Z3o, ↓Z0i, ↓Z08, ↓Z14, ↓Z13, ↓Z12, Z4h, Z0y, Z0z, Z3j, Z10, Z3v, evN, Z2j, Z2o, Z3q, Z3r, Z2m, Z1h, Z2k, Z23, Z1q, Z1p, Z15, Z2l, evT, Opd.ev, Z0e, Z06, Z3l, Z3k, Z3m, Z1j, Z11, Z2u, Z2t, Z2s, Z2a, Z1z, Z41, LOp.isNew, State.prune, Z3a, Z35, AV.leaf, Heap.at, Z0r, Z09, Z04, Z0c, Z01, Z4g, Z4j, Z2r, Z2q, Z2p, Z1r, Z16, Z03, Z0a, Z02, Z00, Z1v, rowI, rowU, RatG.row, LocG.row, ActG.row, StepG.row, StampG.row, ActG.av, ActG.eta, RatG.eta, LocG.eta, beq_true, beq_false, Z1w, Z22, Z2d, Z1i, Z2b, Z1y, Z2c, Z0w, Z0h, Z0u, Z0v, Z0g, Z0f, Z07, List.length_set, List.length_replicate, Int.toNat_natCast, Int.reduceToNat, Z4f, Z1g, Z3z, Src.all, Src.len, Src.leaf, Src.leafN, Z2h, Z3f, Z45, Z0j, Z0k, Z0l, Z0m, Z0n, Z0o, Z0p, Z0q, Z42, drows, evMk, List.length_map, Z1e, Z1o, List.take_length, List.take_left, List.length_append, Nat.le_add_right, ite_self, List.take_of_length_le, Z39, Z49, Z3y, Option.isSome_none, Option.isSome_some, Nat.sub_zero, Z47, Z4a, Z4e, evUn, binT, binQ, chk, Z3b, List.contains_cons, List.contains_nil, Bool.or_false, Bool.false_or, Bool.and_self, resQ, resV, resT, Z4c, Z2i, Z3i, Z3h, fnOf, Z3c, isD, HO.drow, Z48, Z3d, evEq, eqV, eqK, eqC1, Z3g, Z3e, Z2g, Z2e, Z3s, Z2v, Z40, Z38, Z1u, Z19, Z1t, Z18, Z1s, Z17, Z1a, Z0s, Z0t, Z0b, List.mem_cons, List.not_mem_nil, or_false, forall_eq, putRow, Z36, Z2n, RetS, RetF, RetD, AV.frz, AV.frzL, AV.freshP, AV.freshL, DV.less, Z20, Z1b, Z21, Z1c, Z1f, Z0d, Z05, Option.some.injEq, AV.tup.injEq, AV.agg.injEq, List.cons.injEq, DV.list.injEq, List.isEmpty_nil, Nat.le_refl, AV.d.injEq, DV.int.injEq, DV.bool.injEq, ↓reduceIte, Nat.reduceEqDiff, Nat.reduceAdd, Nat.reduceBEq, List.length_cons, List.length_nil, List.replicate_succ, List.replicate_zero, List.nil_append, List.cons_append, List.append_nil, List.foldl_cons, List.foldl_nil, List.map_cons, List.map_nil, List.all_cons, List.all_nil, List.set_cons_zero, List.set_cons_succ, List.getD_cons_zero, List.getD_cons_succ, List.drop_zero, List.drop_succ_cons, List.take_succ_cons, List.take_zero, List.flatten_cons, List.flatten_nil, Bool.true_and, Bool.and_true, Bool.not_true, Bool.not_false, true_and, and_true, true_or, or_true, Option.bind_some, Option.map_some, decide_true, decide_false, beq_self_eq_true, true_implies, false_implies, implies_true, not_true_eq_false, not_false_eq_true, and_self, Bool.and_false, Bool.false_and, Nat.reduceLT, Nat.reduceLeDiff, List.reverse_cons, List.reverse_nil, Nat.zero_add, Nat.add_zero, Bool.false_eq_true, List.getElem?_cons_zero, raSt2, accAV, accO, F1, G1, F2, G2, F3, G3, F4, G4, at_rplain, at_Has, Z04, Z02]
    case' cons =>
      simp (maxSteps := 3000000) only [↓Z29, ↓Z33, ↓Z26, ↓Z0x, ↓Z28, ↓Z1x, Z3t, Z3u, ↓Z34, ↓Z25, ↓Z1d, ↓Z27, ↓Z24, ↓Z30, ↓Z32, ↓Z31, ↓Z1k, ↓Z1n, ↓Z1l, ↓Z1m, ↓Z2z, ↓Z3x, ↓Z3w, ↓Z2w, ↓Z2y, ↓Z2x, ↓Z3n, ↓Z3p, ↓Z3o, ↓Z0i, ↓Z08, ↓Z14, ↓Z13, ↓Z12, Z4h, Z0y, Z0z, Z3j, Z10, Z3v, evN, Z2j, Z2o, Z3q, Z3r, Z2m, Z1h, Z2k, Z23, Z1q, Z1p, Z15, Z2l, evT, Opd.ev, Z0e, Z06, Z3l, Z3k, Z3m, Z1j, Z11, Z2u, Z2t, Z2s, Z2a, Z1z, Z41, LOp.isNew, State.prune, Z3a, Z35, AV.leaf, Heap.at, Z0r, Z09, Z04, Z0c, Z01, Z4g, Z4j, Z2r, Z2q, Z2p, Z1r, Z16, Z03, Z0a, Z02, Z00, Z1v, rowI, rowU, RatG.row, LocG.row, ActG.row, StepG.row, StampG.row, ActG.av, ActG.eta, RatG.eta, LocG.eta, beq_true, beq_false, Z1w, Z22, Z2d, Z1i, Z2b, Z1y, Z2c, Z0w, Z0h, Z0u, Z0v, Z0g, Z0f, Z07, List.length_set, List.length_replicate, Int.toNat_natCast, Int.reduceToNat, Z4f, Z1g, Z3z, Src.all, Src.len, Src.leaf, Src.leafN, Z2h, Z3f, Z45, Z0j, Z0k, Z0l, Z0m, Z0n, Z0o, Z0p, Z0q, Z42, drows, evMk, List.length_map, Z1e, Z1o, List.take_length, List.take_left, List.length_append, Nat.le_add_right, ite_self, List.take_of_length_le, Z39, Z49, Z3y, Option.isSome_none, Option.isSome_some, Nat.sub_zero, Z47, Z4a, Z4e, evUn, binT, binQ, chk, Z3b, List.contains_cons, List.contains_nil, Bool.or_false, Bool.false_or, Bool.and_self, resQ, resV, resT, Z4c, Z2i, Z3i, Z3h, fnOf, Z3c, isD, HO.drow, Z48, Z3d, evEq, eqV, eqK, eqC1, Z3g, Z3e, Z2g, Z2e, Z3s, Z2v, Z40, Z38, Z1u, Z19, Z1t, Z18, Z1s, Z17, Z1a, Z0s, Z0t, Z0b, List.mem_cons, List.not_mem_nil, or_false, forall_eq, putRow, Z36, Z2n, RetS, RetF, RetD, AV.frz, AV.frzL, AV.freshP, AV.freshL, DV.less, Z20, Z1b, Z21, Z1c, Z1f, Z0d, Z05, Option.some.injEq, AV.tup.injEq, AV.agg.injEq, List.cons.injEq, DV.list.injEq, List.isEmpty_nil, Nat.le_refl, AV.d.injEq, DV.int.injEq, DV.bool.injEq, ↓reduceIte, Nat.reduceEqDiff, Nat.reduceAdd, Nat.reduceBEq, List.length_cons, List.length_nil, List.replicate_succ, List.replicate_zero, List.nil_append, List.cons_append, List.append_nil, List.foldl_cons, List.foldl_nil, List.map_cons, List.map_nil, List.all_cons, List.all_nil, List.set_cons_zero, List.set_cons_succ, List.getD_cons_zero, List.getD_cons_succ, List.drop_zero, List.drop_succ_cons, List.take_succ_cons, List.take_zero, List.flatten_cons, List.flatten_nil, Bool.true_and, Bool.and_true, Bool.not_true, Bool.not_false, true_and, and_true, true_or, or_true, Option.bind_some, Option.map_some, decide_true, decide_false, beq_self_eq_true, true_implies, false_implies, implies_true, not_true_eq_false, not_false_eq_true, and_self, Bool.and_false, Bool.false_and, Nat.reduceLT, Nat.reduceLeDiff, List.reverse_cons, List.reverse_nil, Nat.zero_add, Nat.add_zero, Bool.false_eq_true, List.getElem?_cons_zero, raSt2, accAV, accO, F1, G1, F2, G2, F3, G3, F4, G4, at_rplain, at_Has, Z04, Z02]
    case' nil =>
      refine ⟨fun c => ⟨⟨by omega, by omega⟩, ?_⟩, fun c => ?_⟩
    case' cons =>
      refine ⟨fun c => ⟨⟨by omega, by omega⟩, ?_⟩, fun c => ?_⟩
    case nil.refine_2 =>
      have hke : k = ss.length := by omega
      subst hke
      exact Z2f.mk [0] (i + 1, []) (by simp) (by simp) (by simp only [State.can, AV.can, AV.canL, HO.can, Z37, idx, Z0e, Z06, Heap.at, Nat.reduceBEq, ↓reduceIte, Nat.reduceEqDiff, Option.getD_some, Option.map_some, List.map_cons, List.map_nil, List.getD_cons_zero, List.getD_cons_succ, raSt1, accAV, accO, Z44 hi' (by omega)]) ⟨by show i + 1 ≤ _; omega, by show [] = _; rw [pAll_succ, ← hM]⟩ (by show _ - (i + 1) < _ - i; omega)
    case cons.refine_2 =>
      have hke : k = ss.length := by omega
      subst hke
      exact Z2f.mk [0, 2] (i + 1, d :: r) (by simp) (by simp) (by simp only [State.can, AV.can, AV.canL, HO.can, Z37, idx, Z0e, Z06, Heap.at, Nat.reduceBEq, ↓reduceIte, Nat.reduceEqDiff, Option.getD_some, Option.map_some, List.map_cons, List.map_nil, List.getD_cons_zero, List.getD_cons_succ, raSt1, accAV, accO, Z44 hi' (by omega)]; rfl) ⟨by show i + 1 ≤ _; omega, by show d :: r = _; rw [pAll_succ, ← hM]⟩ (by show _ - (i + 1) < _ - i; omega)
    case nil.refine_1 =>
      have hkl : k < ss.length := by omega
      have yes : rcB R ss i k = true → [⟨(i : Int), (k : Int)⟩] = pAll (rcB R ss) ss.length i ++ pRow (rcB R ss) i (k + 1) := fun h => by
        rw [pRow_succ _ hik, if_pos h, ← List.append_assoc, ← hM]; rfl
      have no : rcB R ss i k = false → [] = pAll (rcB R ss) ss.length i ++ pRow (rcB R ss) i (k + 1) := fun h => by
        rw [pRow_succ _ hik, if_neg (by rw [h]; decide), List.append_nil, ← hM]
      have hroom : roomy 1 16 := Z4d (by decide) (by decide)
      clear hM
      have hb : (0 : Int) ≤ k ∧ (k : Int) < ss.length := ⟨by omega, by omega⟩
      refine ⟨fun c => ⟨fun c1 => ⟨fun c2 => ⟨hb, fun c3 => ?_, fun c3 => ⟨fun c4 => ⟨hRl, fun c5 => ?_, fun c5 => ⟨hroom, ?_⟩⟩, fun c4 => ⟨fun c6 => ⟨hRl, fun c5 => ?_, fun c5 => ⟨hroom, ?_⟩⟩, fun c6 => ?_⟩⟩⟩, fun c2 => ?_⟩, fun c1 => ?_⟩, fun c => ?_⟩
      all_goals first
        | exact Z2f.mk [0, 1, 5] (k + 1, [⟨(i : Int), (k : Int)⟩]) (by simp) (by simp) (by simp only [State.can, AV.can, AV.canL, HO.can, Z37, idx, Z0e, Z06, Heap.at, Nat.reduceBEq, ↓reduceIte, Nat.reduceEqDiff, Option.getD_some, Option.map_some, List.map_cons, List.map_nil, List.getD_cons_zero, List.getD_cons_succ, raSt2, accAV, accO, List.length_append, List.length_singleton, Z44 hkl (by omega)]; rfl) ⟨by show i < k + 1; omega, by show k + 1 ≤ _; omega, yes (by unfold rcB; simp only [*, pl2, decide_true, decide_false, Bool.and_true, Bool.true_and, Bool.and_false, Bool.false_and, Bool.or_true, Bool.true_or, Bool.not_true, Bool.not_false, Bool.or_false, Bool.false_or, reduceCtorEq])⟩ (by show _ - (k + 1) < _ - k; omega)
        | exact Z2f.mk [0, 1] (k + 1, []) (by simp) (by simp) (by simp only [State.can, AV.can, AV.canL, HO.can, Z37, idx, Z0e, Z06, Heap.at, Nat.reduceBEq, ↓reduceIte, Nat.reduceEqDiff, Option.getD_some, Option.map_some, List.map_cons, List.map_nil, List.getD_cons_zero, List.getD_cons_succ, raSt2, accAV, accO, List.length_append, List.length_singleton, Z44 hkl (by omega)]) ⟨by show i < k + 1; omega, by show k + 1 ≤ _; omega, no (by unfold rcB; simp only [*, pl2, decide_true, decide_false, Bool.and_true, Bool.true_and, Bool.and_false, Bool.false_and, Bool.or_true, Bool.true_or, Bool.not_true, Bool.not_false, Bool.or_false, Bool.false_or, reduceCtorEq])⟩ (by show _ - (k + 1) < _ - k; omega)
    case cons.refine_1 =>
      have hkl : k < ss.length := by omega
      have yes : rcB R ss i k = true → d :: (r ++ [⟨(i : Int), (k : Int)⟩]) = pAll (rcB R ss) ss.length i ++ pRow (rcB R ss) i (k + 1) := fun h => by
        rw [pRow_succ _ hik, if_pos h, ← List.append_assoc, ← hM]; rfl
      have no : rcB R ss i k = false → d :: r = pAll (rcB R ss) ss.length i ++ pRow (rcB R ss) i (k + 1) := fun h => by
        rw [pRow_succ _ hik, if_neg (by rw [h]; decide), List.append_nil, ← hM]
      have hroom : roomy (r.length + 1 + 1) 16 := Z4d (by have := hMl; simp only [List.length_cons] at this; omega) (by decide)
      clear hM
      have hb : (0 : Int) ≤ k ∧ (k : Int) < ss.length := ⟨by omega, by omega⟩
      refine ⟨fun c => ⟨fun c1 => ⟨fun c2 => ⟨hb, fun c3 => ?_, fun c3 => ⟨fun c4 => ⟨hRl, fun c5 => ?_, fun c5 => ⟨hroom, ?_⟩⟩, fun c4 => ⟨fun c6 => ⟨hRl, fun c5 => ?_, fun c5 => ⟨hroom, ?_⟩⟩, fun c6 => ?_⟩⟩⟩, fun c2 => ?_⟩, fun c1 => ?_⟩, fun c => ?_⟩
      all_goals first
        | exact Z2f.mk [0, 1, 6] (k + 1, d :: (r ++ [⟨(i : Int), (k : Int)⟩])) (by simp) (by simp) (by simp only [State.can, AV.can, AV.canL, HO.can, Z37, idx, Z0e, Z06, Heap.at, Nat.reduceBEq, ↓reduceIte, Nat.reduceEqDiff, Option.getD_some, Option.map_some, List.map_cons, List.map_nil, List.getD_cons_zero, List.getD_cons_succ, raSt2, accAV, accO, List.length_append, List.length_singleton, Z44 hkl (by omega)]; rfl) ⟨by show i < k + 1; omega, by show k + 1 ≤ _; omega, yes (by unfold rcB; simp only [*, pl2, decide_true, decide_false, Bool.and_true, Bool.true_and, Bool.and_false, Bool.false_and, Bool.or_true, Bool.true_or, Bool.not_true, Bool.not_false, Bool.or_false, Bool.false_or, reduceCtorEq])⟩ (by show _ - (k + 1) < _ - k; omega)
        | exact Z2f.mk [0, 1, 2] (k + 1, d :: r) (by simp) (by simp) (by simp only [State.can, AV.can, AV.canL, HO.can, Z37, idx, Z0e, Z06, Heap.at, Nat.reduceBEq, ↓reduceIte, Nat.reduceEqDiff, Option.getD_some, Option.map_some, List.map_cons, List.map_nil, List.getD_cons_zero, List.getD_cons_succ, raSt2, accAV, accO, List.length_append, List.length_singleton, Z44 hkl (by omega)]; rfl) ⟨by show i < k + 1; omega, by show k + 1 ≤ _; omega, no (by unfold rcB; simp only [*, pl2, decide_true, decide_false, Bool.and_true, Bool.true_and, Bool.and_false, Bool.false_and, Bool.or_true, Bool.true_or, Bool.not_true, Bool.not_false, Bool.or_false, Bool.false_or, reduceCtorEq])⟩ (by show _ - (k + 1) < _ - k; omega)
end Go.Ago

/- Package race: Weak. Conditions: none. -/
set_option maxRecDepth 100000
set_option linter.unusedSimpArgs false
set_option linter.unusedVariables false
namespace Go.Ago
instance : Inhabited MemG := ⟨⟨[], false, [], false, [], false, [], false, [], false⟩⟩
theorem idx_Mem {l : List MemG} {full : Bool} {kd : IntKind} {n : Int} {k : Delta → Prop} : stepK (evIdxAddr 5 (.d (.list (l.map rowMem) full)) (.d (.int kd n))) k ↔ (0 ≤ n ∧ n < l.length) ∧ k ⟨.dptr (rowMem (l.getD n.toNat default)) 0, [], []⟩ := stepK_idx_map (fun _ => rfl)
theorem set_rowB' {l : List Bool} {i : Nat} {b x : Bool} : (l.map rowB).set i (.bool b :: List.drop 1 (rowB x)) = (l.set i b).map rowB := set_rowB
theorem playErr_new {l : List LocG} {t : Int} {ss : List StepG} (h : playErr l t ss = 0) : newErr l t = 0 ∧ firstBad (newM l t) ss = 0 := by
  unfold playErr at h
  split at h
  · cases h
  · split at h
    · exact ⟨by assumption, h⟩
    · exact absurd h (by assumption)
def wkO (s : StepG) : Option StampG → Bool
  | none => false
  | some st => isPl s.act.kind && (decide (cmpQ' s.when st.when < 0) || (decide (s.act.kind = 1) && !decide (cmpQ' s.when st.when = 0)))
def wkB (m : MemG) (s : StepG) : Bool := wkO s (lastG m s.act.loc)
def weakL (l : List LocG) (t : Int) (ss : List StepG) : List Bool := if playErr l t ss = 0 then (List.range ss.length).map fun i => wkB (goM (newM l t) ss i) (ss.getD i default) else []
def sp_Weak : Sp := ⟨List LocG × Bool × Int × List StepG × Bool, fun x => [.d (.list (x.1.map LocG.row) x.2.1), .d (.int .i64 x.2.2.1), .d (.list (x.2.2.2.1.map StepG.row) x.2.2.2.2)],
  fun x => .data (x.1.length ≤ maxLen ∧ x.2.2.2.1.length ≤ maxLen) (.tup [.d (.list ((weakL x.1 x.2.2.1 x.2.2.2.1).map rowB) false), .d (.int .i64 (playErr x.1 x.2.2.1 x.2.2.2.1))]) false⟩
theorem at_Weak (l : List LocG) (f : Bool) (t : Int) (ss : List StepG) (g : Bool) : sp_Weak.at [.d (.list (l.map LocG.row) f), .d (.int .i64 t), .d (.list (ss.map StepG.row) g)] =
    .data (l.length ≤ maxLen ∧ ss.length ≤ maxLen) (.tup [.d (.list ((weakL l t ss).map rowB) false), .d (.int .i64 (playErr l t ss))]) false :=
  Sp.at_enc (s := sp_Weak) (fun x y h => by
    obtain ⟨l, f, t, ss, g⟩ := x; obtain ⟨l', f', t', ss', g'⟩ := y
    simp only [sp_Weak, List.cons.injEq, AV.d.injEq, DV.list.injEq, DV.int.injEq, and_true, true_and] at h
    obtain ⟨⟨h1, h2⟩, h3, h4, h5⟩ := h
    rw [Z4o LocG.row_inj h1, h2, h3, Z4o StepG.row_inj h4, h5]) (l, f, t, ss, g)
def wkS (w : Nat → Bool) (n i : Nat) : List Bool := (List.range n).map fun j => decide (j < i) && w j
theorem wkS_len {w : Nat → Bool} {n i : Nat} : (wkS w n i).length = n := by simp [wkS]
theorem wkS_zero {w : Nat → Bool} {n : Nat} : List.replicate n false = wkS w n 0 := by
  unfold wkS
  apply List.ext_getElem
  · simp
  · intro i h1 h2; simp
theorem wkS_set {w : Nat → Bool} {n i : Nat} (h : i < n) : (wkS w n i).set i (w i) = wkS w n (i + 1) := by
  apply List.ext_getElem
  · simp [wkS]
  · intro j h1 h2
    simp only [wkS, List.getElem_set, List.getElem_map, List.getElem_range]
    split
    · rename_i e; subst e; simp
    · rename_i e
      have : j < i ↔ j < i + 1 := by omega
      simp [this]
theorem wkS_same {w : Nat → Bool} {n i : Nat} (h : w i = false) : wkS w n i = wkS w n (i + 1) := by
  unfold wkS
  apply List.map_congr_left
  intro j _
  by_cases e : j = i
  · subst e; simp [h]
  · have : j < i ↔ j < i + 1 := by omega
    simp [this]
theorem wkS_end {w : Nat → Bool} {n : Nat} : wkS w n n = (List.range n).map w := by
  unfold wkS
  apply List.map_congr_left
  intro j h
  simp [List.mem_range.1 h]
def wkSt (M : List MemG) (ss : List StepG) (g : Bool) (w : Nat → Bool) (i : Nat) : State :=
  ⟨[(29, .d (.list (ss.map StepG.row) g)), (30, .d (.int .i64 ss.length)), (31, .d (.int .i64 i)), (8, .d (.list (M.map rowMem) false)), (10, .ref 0 1 0 ss.length true)], [.dvec 1 ((wkS w ss.length i).map rowB)]⟩
set_option maxHeartbeats 4000000 in
theorem body_race_Weak {T : Tab} {n1 n2 n3 n4 : Nat} (k1 : Knows T n1 sp_played) (k2 : Knows T n2 sp_rplain) (k3 : Knows T n3 sp_Last) (k4 : Knows T n4 sp_rat_Cmp) : sp_Weak.Body T V_race_Weak (L_race_Weak n1 n2 n3 n4) R_race_Weak := by
  have F1 := k1.F; have G1 := k1.G; have F2 := k2.F; have G2 := k2.G; have F3 := k3.F; have G3 := k3.G; have F4 := k4.F; have G4 := k4.G
  rintro ⟨l, f, t, ss, g⟩ ⟨hl, hs⟩
  have hl : l.length ≤ maxLen := hl
  have hs : ss.length ≤ maxLen := hs
  refine ⟨rfl, ?_⟩
  unfold V_race_Weak L_race_Weak R_race_Weak
  simp (maxSteps := 3000000) only [↓Z29, ↓Z33, ↓Z26, ↓Z0x, ↓Z28, ↓Z1x, Z3t, Z3u, ↓Z34, ↓Z25, ↓Z1d, ↓Z27, ↓Z24, ↓Z30, ↓Z32, ↓Z31, ↓Z1k, ↓Z1n, ↓Z1l, ↓Z1m, ↓Z2z, ↓Z3x, ↓Z3w, ↓Z2w, ↓Z2y, ↓Z2x, ↓Z3n, ↓Z3p, ↓Z3o, ↓Z0i, ↓Z08, ↓Z14, ↓Z13, ↓Z12, Z4h, Z0y, Z0z, Z3j, Z10, Z3v, evN, Z2j, Z2o, Z3q, Z3r, Z2m, Z1h, Z2k, Z23, Z1q, Z1p, Z15, Z2l, evT, Opd.ev, Z0e, Z06, Z3l, Z3k, Z3m, Z1j, Z11, Z2u, Z2t, Z2s, Z2a, Z1z, Z41, LOp.isNew, State.prune, Z3a, Z35, AV.leaf, Heap.at, Z0r, Z09, Z04, Z0c, Z01, Z4g, Z4j, Z2r, Z2q, Z2p, Z1r, Z16, Z03, Z0a, Z02, Z00, Z1v, rowI, rowU, RatG.row, LocG.row, ActG.row, StepG.row, StampG.row, ActG.av, ActG.eta, RatG.eta, LocG.eta, beq_true, beq_false, Z1w, Z22, Z2d, Z1i, Z2b, Z1y, Z2c, Z0w, Z0h, Z0u, Z0v, Z0g, Z0f, Z07, List.length_set, List.length_replicate, Int.toNat_natCast, Int.reduceToNat, Z4f, Z1g, Z3z, Src.all, Src.len, Src.leaf, Src.leafN, Z2h, Z3f, Z45, Z0j, Z0k, Z0l, Z0m, Z0n, Z0o, Z0p, Z0q, Z42, drows, evMk, List.length_map, Z1e, Z1o, List.take_length, List.take_left, List.length_append, Nat.le_add_right, ite_self, List.take_of_length_le, Z39, Z49, Z3y, Option.isSome_none, Option.isSome_some, Nat.sub_zero, Z47, Z4a, Z4e, evUn, binT, binQ, chk, Z3b, List.contains_cons, List.contains_nil, Bool.or_false, Bool.false_or, Bool.and_self, resQ, resV, resT, Z4c, Z2i, Z3i, Z3h, fnOf, Z3c, isD, HO.drow, Z48, Z3d, evEq, eqV, eqK, eqC1, Z3g, Z3e, Z2g, Z2e, Z3s, Z2v, Z40, Z38, Z1u, Z19, Z1t, Z18, Z1s, Z17, Z1a, Z0s, Z0t, Z0b, List.mem_cons, List.not_mem_nil, or_false, forall_eq, putRow, Z36, Z2n, RetS, RetF, RetD, AV.frz, AV.frzL, AV.freshP, AV.freshL, DV.less, Z20, Z1b, Z21, Z1c, Z1f, Z0d, Z05, Option.some.injEq, AV.tup.injEq, AV.agg.injEq, List.cons.injEq, DV.list.injEq, List.isEmpty_nil, Nat.le_refl, AV.d.injEq, DV.int.injEq, DV.bool.injEq, ↓reduceIte, Nat.reduceEqDiff, Nat.reduceAdd, Nat.reduceBEq, List.length_cons, List.length_nil, List.replicate_succ, List.replicate_zero, List.nil_append, List.cons_append, List.append_nil, List.foldl_cons, List.foldl_nil, List.map_cons, List.map_nil, List.all_cons, List.all_nil, List.set_cons_zero, List.set_cons_succ, List.getD_cons_zero, List.getD_cons_succ, List.drop_zero, List.drop_succ_cons, List.take_succ_cons, List.take_zero, List.flatten_cons, List.flatten_nil, Bool.true_and, Bool.and_true, Bool.not_true, Bool.not_false, true_and, and_true, true_or, or_true, Option.bind_some, Option.map_some, decide_true, decide_false, beq_self_eq_true, true_implies, false_implies, implies_true, not_true_eq_false, not_false_eq_true, and_self, Bool.and_false, Bool.false_and, Nat.reduceLT, Nat.reduceLeDiff, List.reverse_cons, List.reverse_nil, Nat.zero_add, Nat.add_zero, Bool.false_eq_true, List.getElem?_cons_zero, sp_Weak, F1, G1, F2, G2, F3, G3, F4, G4, at_played, at_LastM, at_rplain, at_rat_Cmp, rep_rowB, Z04, Z02]
  have hm : maxLen = 9223372036854775807 := rfl
  refine ⟨⟨hl, hs⟩, fun he => ⟨⟨by omega, by omega, Z4d (by have := playErr_len he; omega) (by decide)⟩, ?_⟩, fun he => by unfold weakL; rw [if_neg he]; rfl⟩
  have hw : weakL l t ss = (List.range ss.length).map fun i => wkB (goM (newM l t) ss i) (ss.getD i default) := by unfold weakL; rw [if_pos he]
  have hp : playL l t ss = mems (newM l t) ss ss.length := by unfold playL; rw [if_pos he]
  rw [hw, hp, he]
  have hml : ∀ i, i < ss.length → (mems (newM l t) ss ss.length).getD i default = goM (newM l t) ss i := fun i hi => by
    rw [Z4q (by rw [mems_len]; exact hi)]; unfold mems; simp
  have hll : (mems (newM l t) ss ss.length).length = ss.length := mems_len _ _ _
  generalize mems (newM l t) ss ss.length = M at *
  obtain ⟨hne, -⟩ := playErr_new he
  have hg0 := newM_good hne
  generalize newM l t = m0 at *
  obtain ⟨w, hwd⟩ : ∃ w : Nat → Bool, w = fun i => wkB (goM m0 ss i) (ss.getD i default) := ⟨_, rfl⟩
  rw [← hwd]
  refine Loop.fam [29, 30, 31, 8, 10] (wkSt M ss g w) (fun i => i ≤ ss.length) (fun i => ss.length - i) 0 [0] (by simp) (by simp) (by simp only [State.can, AV.can, AV.canL, HO.can, Z37, idx, Z0e, Z06, Heap.at, Nat.reduceBEq, ↓reduceIte, Nat.reduceEqDiff, Option.getD_some, Option.map_some, List.map_cons, List.map_nil, List.getD_cons_zero, List.getD_cons_succ, wkSt]; rw [← wkS_zero]; rfl) (Nat.zero_le _) ?_
  intro i hi
  have hi : i ≤ ss.length := hi
  have hwi : i < ss.length → w i = wkO (ss.getD i default) (lastG (M.getD i default) (ss.getD i default).act.loc) := fun h => by rw [hml i h, hwd]; rfl
  have hpast : i < ss.length → ∀ r ∈ (M.getD i default).past, r.1.length ≤ maxLen := fun h r hr => by
    rw [hml i h] at hr
    have := (goM_good hg0 ss i).wf.pasts r.1 (List.mem_map.2 ⟨r, hr, rfl⟩)
    have := playErr_len he
    omega
  have hend : ¬ (i : Int) < ss.length → (wkS w ss.length i).map rowB = (List.map w (List.range ss.length)).map rowB := fun h => by
    have hie : i = ss.length := by omega
    subst hie
    rw [wkS_end]
  clear hml hwd
  rcases hla : lastG (M.getD i default) (ss.getD i default).act.loc with _ | st
  case' none =>
    simp (maxSteps := 3000000) only [↓Z29, ↓Z33, ↓Z26, ↓Z0x, ↓Z28, ↓Z1x, Z3t, Z3u, ↓Z34, ↓Z25, ↓Z1d, ↓Z27, ↓Z24, ↓Z30, ↓Z32, ↓Z31, ↓Z1k, ↓Z1n, ↓Z1l, ↓Z1m, ↓Z2z, ↓Z3x, ↓Z3w, ↓Z2w, ↓Z2y, ↓Z2x, ↓Z3n, ↓Z3p, ↓Z3o, ↓Z0i, ↓Z08, ↓Z14, ↓Z13, ↓Z12, Z4h, Z0y, Z0z, Z3j, Z10, Z3v, evN, Z2j, Z2o, Z3q, Z3r, Z2m, Z1h, Z2k, Z23, Z1q, Z1p, Z15, Z2l, evT, Opd.ev, Z0e, Z06, Z3l, Z3k, Z3m, Z1j, Z11, Z2u, Z2t, Z2s, Z2a, Z1z, Z41, LOp.isNew, State.prune, Z3a, Z35, AV.leaf, Heap.at, Z0r, Z09, Z04, Z0c, Z01, Z4g, Z4j, Z2r, Z2q, Z2p, Z1r, Z16, Z03, Z0a, Z02, Z00, Z1v, rowI, rowU, RatG.row, LocG.row, ActG.row, StepG.row, StampG.row, ActG.av, ActG.eta, RatG.eta, LocG.eta, beq_true, beq_false, Z1w, Z22, Z2d, Z1i, Z2b, Z1y, Z2c, Z0w, Z0h, Z0u, Z0v, Z0g, Z0f, Z07, List.length_set, List.length_replicate, Int.toNat_natCast, Int.reduceToNat, Z4f, Z1g, Z3z, Src.all, Src.len, Src.leaf, Src.leafN, Z2h, Z3f, Z45, Z0j, Z0k, Z0l, Z0m, Z0n, Z0o, Z0p, Z0q, Z42, drows, evMk, List.length_map, Z1e, Z1o, List.take_length, List.take_left, List.length_append, Nat.le_add_right, ite_self, List.take_of_length_le, Z39, Z49, Z3y, Option.isSome_none, Option.isSome_some, Nat.sub_zero, Z47, Z4a, Z4e, evUn, binT, binQ, chk, Z3b, List.contains_cons, List.contains_nil, Bool.or_false, Bool.false_or, Bool.and_self, resQ, resV, resT, Z4c, Z2i, Z3i, Z3h, fnOf, Z3c, isD, HO.drow, Z48, Z3d, evEq, eqV, eqK, eqC1, Z3g, Z3e, Z2g, Z2e, Z3s, Z2v, Z40, Z38, Z1u, Z19, Z1t, Z18, Z1s, Z17, Z1a, Z0s, Z0t, Z0b, List.mem_cons, List.not_mem_nil, or_false, forall_eq, putRow, Z36, Z2n, RetS, RetF, RetD, AV.frz, AV.frzL, AV.freshP, AV.freshL, DV.less, Z20, Z1b, Z21, Z1c, Z1f, Z0d, Z05, Option.some.injEq, AV.tup.injEq, AV.agg.injEq, List.cons.injEq, DV.list.injEq, List.isEmpty_nil, Nat.le_refl, AV.d.injEq, DV.int.injEq, DV.bool.injEq, ↓reduceIte, Nat.reduceEqDiff, Nat.reduceAdd, Nat.reduceBEq, List.length_cons, List.length_nil, List.replicate_succ, List.replicate_zero, List.nil_append, List.cons_append, List.append_nil, List.foldl_cons, List.foldl_nil, List.map_cons, List.map_nil, List.all_cons, List.all_nil, List.set_cons_zero, List.set_cons_succ, List.getD_cons_zero, List.getD_cons_succ, List.drop_zero, List.drop_succ_cons, List.take_succ_cons, List.take_zero, List.flatten_cons, List.flatten_nil, Bool.true_and, Bool.and_true, Bool.not_true, Bool.not_false, true_and, and_true, true_or, or_true, Option.bind_some, Option.map_some, decide_true, decide_false, beq_self_eq_true, true_implies, false_implies, implies_true, not_true_eq_false, not_false_eq_true, and_self, Bool.and_false, Bool.false_and, Nat.reduceLT, Nat.reduceLeDiff, List.reverse_cons, List.reverse_nil, Nat.zero_add, Nat.add_zero, Bool.false_eq_true, List.getElem?_cons_zero, wkSt, F1, G1, F2, G2, F3, G3, F4, G4, at_LastM, at_rplain, at_rat_Cmp, idx_Mem, rowMem, hla, lastAV, Z04, Z02, wkS_len]
    refine ⟨fun c => ⟨⟨by omega, by omega⟩, ⟨by omega, by omega⟩, hpast (by omega), ?_⟩, fun c => ?_⟩
  case' some =>
    simp (maxSteps := 3000000) only [↓Z29, ↓Z33, ↓Z26, ↓Z0x, ↓Z28, ↓Z1x, Z3t, Z3u, ↓Z34, ↓Z25, ↓Z1d, ↓Z27, ↓Z24, ↓Z30, ↓Z32, ↓Z31, ↓Z1k, ↓Z1n, ↓Z1l, ↓Z1m, ↓Z2z, ↓Z3x, ↓Z3w, ↓Z2w, ↓Z2y, ↓Z2x, ↓Z3n, ↓Z3p, ↓Z3o, ↓Z0i, ↓Z08, ↓Z14, ↓Z13, ↓Z12, Z4h, Z0y, Z0z, Z3j, Z10, Z3v, evN, Z2j, Z2o, Z3q, Z3r, Z2m, Z1h, Z2k, Z23, Z1q, Z1p, Z15, Z2l, evT, Opd.ev, Z0e, Z06, Z3l, Z3k, Z3m, Z1j, Z11, Z2u, Z2t, Z2s, Z2a, Z1z, Z41, LOp.isNew, State.prune, Z3a, Z35, AV.leaf, Heap.at, Z0r, Z09, Z04, Z0c, Z01, Z4g, Z4j, Z2r, Z2q, Z2p, Z1r, Z16, Z03, Z0a, Z02, Z00, Z1v, rowI, rowU, RatG.row, LocG.row, ActG.row, StepG.row, StampG.row, ActG.av, ActG.eta, RatG.eta, LocG.eta, beq_true, beq_false, Z1w, Z22, Z2d, Z1i, Z2b, Z1y, Z2c, Z0w, Z0h, Z0u, Z0v, Z0g, Z0f, Z07, List.length_set, List.length_replicate, Int.toNat_natCast, Int.reduceToNat, Z4f, Z1g, Z3z, Src.all, Src.len, Src.leaf, Src.leafN, Z2h, Z3f, Z45, Z0j, Z0k, Z0l, Z0m, Z0n, Z0o, Z0p, Z0q, Z42, drows, evMk, List.length_map, Z1e, Z1o, List.take_length, List.take_left, List.length_append, Nat.le_add_right, ite_self, List.take_of_length_le, Z39, Z49, Z3y, Option.isSome_none, Option.isSome_some, Nat.sub_zero, Z47, Z4a, Z4e, evUn, binT, binQ, chk, Z3b, List.contains_cons, List.contains_nil, Bool.or_false, Bool.false_or, Bool.and_self, resQ, resV, resT, Z4c, Z2i, Z3i, Z3h, fnOf, Z3c, isD, HO.drow, Z48, Z3d, evEq, eqV, eqK, eqC1, Z3g, Z3e, Z2g, Z2e, Z3s, Z2v, Z40, Z38, Z1u, Z19, Z1t, Z18, Z1s, Z17, Z1a, Z0s, Z0t, Z0b, List.mem_cons, List.not_mem_nil, or_false, forall_eq, putRow, Z36, Z2n, RetS, RetF, RetD, AV.frz, AV.frzL, AV.freshP, AV.freshL, DV.less, Z20, Z1b, Z21, Z1c, Z1f, Z0d, Z05, Option.some.injEq, AV.tup.injEq, AV.agg.injEq, List.cons.injEq, DV.list.injEq, List.isEmpty_nil, Nat.le_refl, AV.d.injEq, DV.int.injEq, DV.bool.injEq, ↓reduceIte, Nat.reduceEqDiff, Nat.reduceAdd, Nat.reduceBEq, List.length_cons, List.length_nil, List.replicate_succ, List.replicate_zero, List.nil_append, List.cons_append, List.append_nil, List.foldl_cons, List.foldl_nil, List.map_cons, List.map_nil, List.all_cons, List.all_nil, List.set_cons_zero, List.set_cons_succ, List.getD_cons_zero, List.getD_cons_succ, List.drop_zero, List.drop_succ_cons, List.take_succ_cons, List.take_zero, List.flatten_cons, List.flatten_nil, Bool.true_and, Bool.and_true, Bool.not_true, Bool.not_false, true_and, and_true, true_or, or_true, Option.bind_some, Option.map_some, decide_true, decide_false, beq_self_eq_true, true_implies, false_implies, implies_true, not_true_eq_false, not_false_eq_true, and_self, Bool.and_false, Bool.false_and, Nat.reduceLT, Nat.reduceLeDiff, List.reverse_cons, List.reverse_nil, Nat.zero_add, Nat.add_zero, Bool.false_eq_true, List.getElem?_cons_zero, wkSt, F1, G1, F2, G2, F3, G3, F4, G4, at_LastM, at_rplain, at_rat_Cmp, idx_Mem, rowMem, hla, lastAV, Z04, Z02, set_rowB', wkS_len]
    have hb : (0 : Int) ≤ i ∧ (i : Int) < ss.length ↔ i < ss.length := by omega
    refine ⟨fun c => ⟨⟨by omega, by omega⟩, ⟨by omega, by omega⟩, hpast (by omega), fun c1 => ⟨fun c2 => ⟨⟨by omega, by omega⟩, by omega, ?_⟩, fun c2 => ⟨fun c3 => ⟨⟨by omega, by omega⟩, by omega, ?_⟩, fun c3 => ⟨⟨by omega, by omega⟩, by omega, ?_⟩⟩⟩, fun c1 => ?_⟩, fun c => ?_⟩
  case none.refine_2 => exact hend c
  case some.refine_5 => exact hend c
  case none.refine_1 =>
    have hlt : i < ss.length := by omega
    have e : w i = false := by rw [hwi hlt, hla]; rfl
    exact Z2f.mk [0] (i + 1) (by simp) (by simp) (by simp only [State.can, AV.can, AV.canL, HO.can, Z37, idx, Z0e, Z06, Heap.at, Nat.reduceBEq, ↓reduceIte, Nat.reduceEqDiff, Option.getD_some, Option.map_some, List.map_cons, List.map_nil, List.getD_cons_zero, List.getD_cons_succ, wkSt, Z44 hlt (by omega)]; rw [← wkS_same e]) (by show i + 1 ≤ _; omega) (by show _ - (i + 1) < _ - i; omega)
  case some.refine_4 =>
    have hlt : i < ss.length := by omega
    have e : w i = false := by rw [hwi hlt, hla]; unfold wkO; simp only [c1, Bool.false_and]
    exact Z2f.mk [0] (i + 1) (by simp) (by simp) (by simp only [State.can, AV.can, AV.canL, HO.can, Z37, idx, Z0e, Z06, Heap.at, Nat.reduceBEq, ↓reduceIte, Nat.reduceEqDiff, Option.getD_some, Option.map_some, List.map_cons, List.map_nil, List.getD_cons_zero, List.getD_cons_succ, wkSt, Z44 hlt (by omega)]; rw [← wkS_same e]) (by show i + 1 ≤ _; omega) (by show _ - (i + 1) < _ - i; omega)
  all_goals
    have hlt : i < ss.length := by omega
    have e : w i = wkO (ss.getD i default) (some st) := by rw [hwi hlt, hla]
    unfold wkO cmpQ' at e
    simp only [c1, c2, decide_true, decide_false, Bool.true_and, Bool.true_or, Bool.false_or] at e
    try simp only [c3, decide_true, decide_false, Bool.true_and, Bool.false_and] at e
    exact Z2f.mk [0] (i + 1) (by simp) (by simp) (by simp only [State.can, AV.can, AV.canL, HO.can, Z37, idx, Z0e, Z06, Heap.at, Nat.reduceBEq, ↓reduceIte, Nat.reduceEqDiff, Option.getD_some, Option.map_some, List.map_cons, List.map_nil, List.getD_cons_zero, List.getD_cons_succ, wkSt, Z44 hlt (by omega)]; rw [← e, wkS_set hlt]) (by show i + 1 ≤ _; omega) (by show _ - (i + 1) < _ - i; omega)
end Go.Ago

/- Contracts of the reference of layer 2: its small functions, Put, Of, Lay, Then, Back. Conditions: none. -/
set_option maxRecDepth 100000
set_option linter.unusedSimpArgs false
set_option linter.unusedVariables false
namespace Go.Ago

/-! ### Put -/
end Go.Ago

/- Contracts of the reference of layer 2: most, Copy, Same, Of, Lay, Then, Back. Conditions: none. -/
set_option maxRecDepth 100000
set_option linter.unusedSimpArgs false
set_option linter.unusedVariables false
namespace Go.Ago

end Go.Ago

/- Contracts of the reference of layer 2: Lay, Then, Back. Conditions: none. -/
set_option maxRecDepth 100000
set_option linter.unusedSimpArgs false
set_option linter.unusedVariables false
namespace Go.Ago

/-! Row by row, place by place: what lies ahead of (i, k). -/
/-! ### Lay -/
/-! ### Back -/
/-! ### Then -/
end Go.Ago

/- Ways: what is reached from where. Conditions: none. -/
set_option linter.unusedSimpArgs false
set_option linter.unusedVariables false
namespace Go.Ago

section
variable {p : Nat → Nat → Bool}
/-- The least that is closed. -/
theorem way_min {V : Nat → Bool} (hc : ∀ b c, V b = true → p b c = true → V c = true) {m i : Nat} (hs : ∀ b, p i b = true → V b = true) : ∀ {k : Nat}, way p m i k = true → V k = true := by
  suffices h : ∀ m a k, (V a = true ∨ a = i) → way p m a k = true → V k = true from fun {k} hk => h m i k (.inr rfl) hk
  intro m
  induction m with
  | zero =>
    intro a k ha hk
    simp only [way] at hk
    rcases ha with ha | ha
    · exact hc a k ha hk
    · subst ha; exact hs k hk
  | succ m ih =>
    intro a k ha hk
    simp only [way, Bool.or_eq_true, Bool.and_eq_true] at hk
    rcases hk with hk | ⟨h1, h2⟩
    · exact ih a k ha hk
    · exact ih m k (.inl (ih a m ha h1)) h2
end

/-- What the search for all that is reached from i Z41: T is still to be looked at; of the one that is looked at, the first k are done. -/
structure Seek (A : List W) (n i : Nat) (V : Nat → Bool) (T : List Nat) (q : Nat → Nat → Prop) : Prop where
  sound : ∀ b, V b = true → b < n ∧ way (hasN A) n i b = true
  start : ∀ b, hasN A i b = true → V b = true
  todo : ∀ b ∈ T, V b = true
  done : ∀ b c, V b = true → hasN A b c = true → b ∈ T ∨ V c = true ∨ q b c

theorem Seek.end {A : List W} {n i : Nat} {V : Nat → Bool} (h : Seek A n i V [] fun _ _ => False) (b : Nat) : V b = way (hasN A) n i b := by
  apply beq_of_iff
  refine ⟨fun hv => (h.sound b hv).2, fun hw => way_min (V := V) (fun b c hb hc => ?_) h.start hw⟩
  rcases h.done b c hb hc with h1 | h1 | h1
  · simp at h1
  · exact h1
  · exact h1.elim

theorem Seek.skip {A : List W} {n i j k : Nat} {V : Nat → Bool} {T : List Nat} (h : Seek A n i V T fun b c => b = j ∧ k ≤ c) (hk : hasN A j k = false ∨ V k = true) : Seek A n i V T fun b c => b = j ∧ k + 1 ≤ c :=
  ⟨h.sound, h.start, h.todo, fun b c h1 h2 => by
    rcases h.done b c h1 h2 with h3 | h3 | ⟨h3, h4⟩
    · exact .inl h3
    · exact .inr (.inl h3)
    · by_cases e : c = k
      · subst e; subst h3
        rcases hk with hk | hk
        · rw [hk] at h2; cases h2
        · exact .inr (.inl hk)
      · exact .inr (.inr ⟨h3, by omega⟩)⟩
theorem Seek.rest {A : List W} {n i j : Nat} {V : Nat → Bool} {T : List Nat} (h : Seek A n i V T fun b c => b = j ∧ n ≤ c) (hn : szR A ≤ n) : Seek A n i V T fun _ _ => False :=
  ⟨h.sound, h.start, h.todo, fun b c h1 h2 => by
    rcases h.done b c h1 h2 with h3 | h3 | ⟨h3, h4⟩
    · exact .inl h3
    · exact .inr (.inl h3)
    · have := (hasN_lt h2).2; omega⟩
end Go.Ago

/- Law 22: awake, raced, and RaceOrder. Conditions: none. -/
set_option maxRecDepth 100000
set_option linter.unusedSimpArgs false
set_option linter.unusedVariables false
namespace Go.Ago
/-! ### The order -/
/-! ### awake -/
def aw22 : List StepG := [⟨0, ⟨2, 0, 0, 1⟩, ⟨1, 1⟩⟩, ⟨1, ⟨1, 0, 1, 0⟩, ⟨1, 1⟩⟩]
theorem aw22_err : playErr [⟨false, 0⟩] 2 aw22 = 0 := by decide +kernel
theorem aw22_races : (racesL [⟨false, 0⟩] 2 aw22).length = 1 ∧ (racesL [⟨false, 0⟩] 2 aw22).getD 0 default = ⟨0, 1⟩ := by decide +kernel
set_option maxHeartbeats 4000000 in
theorem body_law22_awake {T : Tab} {n1 : Nat} (k1 : Knows T n1 sp_Races) : sp_true.Body T V_law22_awake (L_law22_awake n1) R_law22_awake := by
  have F1 := k1.F; have G1 := k1.G
  rintro x -
  refine .inl ⟨rfl, ?_⟩
  unfold V_law22_awake L_law22_awake R_law22_awake
  obtain ⟨L, hL⟩ : ∃ L, L = racesL [⟨false, 0⟩] 2 aw22 := ⟨_, rfl⟩
  have hr : ∀ f g, sp_Races.at [.d (.list [[.bool false, .int .i64 0]] f), .d (.int .i64 2), .d (.list [[.int .i64 0, .int .i64 2, .int .i64 0, .int .i64 0, .int .i64 1, .int .i64 1, .int .i64 1], [.int .i64 1, .int .i64 1, .int .i64 0, .int .i64 1, .int .i64 0, .int .i64 1, .int .i64 1]] g)] =
      .data (1 ≤ maxLen ∧ 2 ≤ maxLen) (.tup [.d (.list (L.map RatG.row) false), .d (.int .i64 0)]) false := fun f g => by
    have := at_Races [⟨false, 0⟩] f 2 aw22 g
    rw [aw22_err, ← hL] at this
    exact this
  obtain ⟨h1, h2⟩ := aw22_races
  rw [← hL] at h1 h2
  have ht : ∀ n : Int, n.toNat = n.toNat := fun _ => rfl
  simp (maxSteps := 3000000) only [↓Z29, ↓Z33, ↓Z26, ↓Z0x, ↓Z28, ↓Z1x, Z3t, Z3u, ↓Z34, ↓Z25, ↓Z1d, ↓Z27, ↓Z24, ↓Z30, ↓Z32, ↓Z31, ↓Z1k, ↓Z1n, ↓Z1l, ↓Z1m, ↓Z2z, ↓Z3x, ↓Z3w, ↓Z2w, ↓Z2y, ↓Z2x, ↓Z3n, ↓Z3p, ↓Z3o, ↓Z0i, ↓Z08, ↓Z14, ↓Z13, ↓Z12, Z4h, Z0y, Z0z, Z3j, Z10, Z3v, evN, Z2j, Z2o, Z3q, Z3r, Z2m, Z1h, Z2k, Z23, Z1q, Z1p, Z15, Z2l, evT, Opd.ev, Z0e, Z06, Z3l, Z3k, Z3m, Z1j, Z11, Z2u, Z2t, Z2s, Z2a, Z1z, Z41, LOp.isNew, State.prune, Z3a, Z35, AV.leaf, Heap.at, Z0r, Z09, Z04, Z0c, Z01, Z4g, Z4j, Z2r, Z2q, Z2p, Z1r, Z16, Z03, Z0a, Z02, Z00, Z1v, rowI, rowU, RatG.row, LocG.row, ActG.row, StepG.row, StampG.row, ActG.av, ActG.eta, RatG.eta, LocG.eta, beq_true, beq_false, Z1w, Z22, Z2d, Z1i, Z2b, Z1y, Z2c, Z0w, Z0h, Z0u, Z0v, Z0g, Z0f, Z07, List.length_set, List.length_replicate, Int.toNat_natCast, Int.reduceToNat, Z4f, Z1g, Z3z, Src.all, Src.len, Src.leaf, Src.leafN, Z2h, Z3f, Z45, Z0j, Z0k, Z0l, Z0m, Z0n, Z0o, Z0p, Z0q, Z42, drows, evMk, List.length_map, Z1e, Z1o, List.take_length, List.take_left, List.length_append, Nat.le_add_right, ite_self, List.take_of_length_le, Z39, Z49, Z3y, Option.isSome_none, Option.isSome_some, Nat.sub_zero, Z47, Z4a, Z4e, evUn, binT, binQ, chk, Z3b, List.contains_cons, List.contains_nil, Bool.or_false, Bool.false_or, Bool.and_self, resQ, resV, resT, Z4c, Z2i, Z3i, Z3h, fnOf, Z3c, isD, HO.drow, Z48, Z3d, evEq, eqV, eqK, eqC1, Z3g, Z3e, Z2g, Z2e, Z3s, Z2v, Z40, Z38, Z1u, Z19, Z1t, Z18, Z1s, Z17, Z1a, Z0s, Z0t, Z0b, List.mem_cons, List.not_mem_nil, or_false, forall_eq, putRow, Z36, Z2n, RetS, RetF, RetD, AV.frz, AV.frzL, AV.freshP, AV.freshL, DV.less, Z20, Z1b, Z21, Z1c, Z1f, Z0d, Z05, Option.some.injEq, AV.tup.injEq, AV.agg.injEq, List.cons.injEq, DV.list.injEq, List.isEmpty_nil, Nat.le_refl, AV.d.injEq, DV.int.injEq, DV.bool.injEq, ↓reduceIte, Nat.reduceEqDiff, Nat.reduceAdd, Nat.reduceBEq, List.length_cons, List.length_nil, List.replicate_succ, List.replicate_zero, List.nil_append, List.cons_append, List.append_nil, List.foldl_cons, List.foldl_nil, List.map_cons, List.map_nil, List.all_cons, List.all_nil, List.set_cons_zero, List.set_cons_succ, List.getD_cons_zero, List.getD_cons_succ, List.drop_zero, List.drop_succ_cons, List.take_succ_cons, List.take_zero, List.flatten_cons, List.flatten_nil, Bool.true_and, Bool.and_true, Bool.not_true, Bool.not_false, true_and, and_true, true_or, or_true, Option.bind_some, Option.map_some, decide_true, decide_false, beq_self_eq_true, true_implies, false_implies, implies_true, not_true_eq_false, not_false_eq_true, and_self, Bool.and_false, Bool.false_and, Nat.reduceLT, Nat.reduceLeDiff, List.reverse_cons, List.reverse_nil, Nat.zero_add, Nat.add_zero, Bool.false_eq_true, List.getElem?_cons_zero, sp_true, F1, G1, hr, h1, h2, Z04, Z02]
  exact ⟨⟨by decide, by decide, Z4d (by decide) (by decide)⟩, ⟨by decide, by decide⟩, fun _ => ⟨by decide, by decide⟩, fun h => h rfl⟩
/-! ### RaceOrder -/
end Go.Ago

/- HistSwap: two plain acts of unlike threads on unlike locations change places. Conditions: none. -/
set_option maxRecDepth 100000
set_option linter.unusedSimpArgs false
set_option linter.unusedVariables false
namespace Go.Ago
end Go.Ago

/- HistOwn: a thread reads what it wrote itself, or what stands later. Conditions: none. -/
set_option maxRecDepth 100000
set_option linter.unusedSimpArgs false
set_option linter.unusedVariables false
namespace Go.Ago
end Go.Ago

/- HistOnward: fronts and marks never go back, and what was written stays. Conditions: none. -/
set_option maxRecDepth 100000
set_option linter.unusedSimpArgs false
set_option linter.unusedVariables false
namespace Go.Ago
end Go.Ago

/- HistSees: a thread may read just what it is told that it sees. Conditions: none. -/
set_option maxRecDepth 100000
set_option linter.unusedSimpArgs false
set_option linter.unusedVariables false
namespace Go.Ago
theorem right_plain {s : StepG} {l : List LocG} (hk : isPl s.act.kind = true) (h : s.act.right l = true) : (l.getD s.act.loc.toNat default).atom = false := by
  rw [isPl_iff] at hk
  unfold ActG.right at h
  rw [if_neg (by omega)] at h
  simp only [Bool.and_eq_true, beq_iff_eq] at h
  rw [h.1.1.2]
  unfold ActG.isA
  simp; omega
def StepG.cells (z : StepG) : List AV := [.d (.int .i64 z.thread), .d (.int .i64 z.act.kind), .d (.int .i64 z.act.loc), .d (.int .i64 z.act.old), .d (.int .i64 z.act.new), .d (.int .i64 z.when.num), .d (.int .i64 z.when.den)]
end Go.Ago

/- Runs of a memory: what is carried along the order. Conditions: none. -/
set_option maxRecDepth 100000
set_option linter.unusedSimpArgs false
set_option linter.unusedVariables false
namespace Go.Ago
/-- A run that is taken. -/
structure RunG (m : Nat → Mem) (s : Nat → StepG) (n : Nat) : Prop where
  ok : ∀ i, i < n → doErr (m i) (s i) = 0
  next : ∀ i, i < n → m (i + 1) = doMem (m i) (s i)
  good : ∀ i, i ≤ n → (m i).Good (1 + i)
  locs : ∀ i, i ≤ n → (m i).locs = (m 0).locs
  fronts : ∀ i, i ≤ n → (m i).fronts.length = (m 0).fronts.length
def memAt (l : List LocG) (t : Int) (ss : List StepG) (i : Nat) : Mem := (goM (newM l t) ss i).plain
def stepAt (ss : List StepG) (i : Nat) : StepG := ss.getD i default
theorem doMem_fronts (m : Mem) (s : StepG) : (doMem m s).fronts.length = m.fronts.length := by
  unfold doMem
  split
  · simp
  · split
    · split <;> simp
    · rfl
theorem run_of {l : List LocG} {t : Int} {ss : List StepG} (h : playErr l t ss = 0) : RunG (memAt l t ss) (stepAt ss) ss.length := by
  obtain ⟨h1, h2⟩ := playErr_new h
  have hok := firstBad_zero h2
  have hnext : ∀ i, i < ss.length → memAt l t ss (i + 1) = doMem (memAt l t ss i) (stepAt ss i) := fun i hi => by
    unfold memAt stepAt
    rw [goM_succ _ hi]
    unfold stepM
    rw [if_pos (hok i hi), plain_av]
  refine ⟨hok, hnext, fun i _ => goM_good (newM_good h1) ss i, fun i hi => ?_, fun i hi => ?_⟩
  · induction i with
    | zero => rfl
    | succ i ih => rw [hnext i (by omega), doMem_locs, ih (by omega)]
  · induction i with
    | zero => rfl
    | succ i ih => rw [hnext i (by omega), doMem_fronts, ih (by omega)]
def paAt (m : Mem) (x : Nat) : List StampG := m.past.getD x []
section
variable {m : Mem} {s : StepG} {b x : Nat}
theorem take_at (he : doErr m s = 0) (hk : isAt s.act.kind = true) : s.act.loc.toNat < m.locs.length ∧ (m.locs.getD s.act.loc.toNat default).atom = true := by
  have ht := taken he
  have hl := ht.loc (.inr hk)
  refine ⟨by omega, ?_⟩
  have := ht.right
  obtain ⟨t, ⟨k, o, q, v⟩, w⟩ := s
  exact right_atom hk this
theorem pa_same (hn : ¬ (s.act.kind = 2 ∧ s.act.loc.toNat = x)) : paAt (doMem m s) x = paAt m x := by
  unfold doMem paAt
  split
  · rename_i hk
    show (m.past.set _ _).getD _ [] = _
    rw [getD_setQ, if_neg (fun e => hn ⟨hk, e.1⟩)]
  · split
    · split <;> rfl
    · rfl
theorem pa_write (h : m.Good b) (he : doErr m s = 0) (hk : s.act.kind = 2) (hx : s.act.loc.toNat = x) : paAt (doMem m s) x = insG (paAt m x) (bsAt (paAt m x) s.when) ⟨leastQ s.when, s.act.new⟩ := by
  have hl := (taken he).loc (.inl (by rw [hk]; rfl))
  unfold doMem paAt
  rw [if_pos hk]
  show (m.past.set _ _).getD _ [] = _
  rw [getD_setQ, if_pos ⟨hx, by rw [h.wf.past]; omega⟩]
  unfold pastOf
  rw [hx]
end
/-! ### What is carried -/
section
variable {m : Nat → Mem} {s : Nat → StepG} {n x : Nat}
end
/-! ### What was written last -/
def isW (s : StepG) (x : Nat) : Bool := decide (s.act.kind = 2) && decide (s.act.loc.toNat = x)
theorem bs_end {L : List StampG} {w : RatG} (h : Rising L) (hw : rightQ w = true) (ha : ∀ k, k < L.length → cmpQ' (L.getD k default).when w < 0) : bsAt L w = L.length := by
  have h1 := bsAt_le L w
  have h2 := (bs_split h hw).2
  rcases Nat.lt_or_eq_of_le h1 with h3 | h3
  · have := h2 (bsAt L w) (Nat.le_refl _) h3
    have := ha _ h3
    omega
  · exact h3
theorem insG_end {L : List StampG} {v : StampG} : insG L L.length v = L ++ [v] := by unfold insG; simp
theorem getD_last {P : List StampG} {e : StampG} : (P ++ [e]).getD P.length default = e := by simp
theorem pa_rising {m : Mem} {b x : Nat} (h : m.Good b) (hx : x < m.locs.length) : Rising (paAt m x) := h.rising _ (getD_mem (by rw [h.wf.past]; exact hx))
theorem top_lt {L P : List StampG} {e : StampG} {w : RatG} (hL : L = P ++ [e]) (h : Rising L) (hw : rightQ w = true) (he : cmpQ' e.when w < 0) : ∀ k, k < L.length → cmpQ' (L.getD k default).when w < 0 := by
  subst hL
  intro k hk
  have hlen : (P ++ [e]).length = P.length + 1 := by simp
  by_cases hkp : k = P.length
  · subst hkp; rw [getD_last]; exact he
  · have h1 := h.lt (i := k) (j := P.length) (by omega) (by omega)
    rw [getD_last] at h1
    have he0 := h.get (i := P.length) (by omega)
    rw [getD_last] at he0
    exact cmpQ_lt_le (h.get hk) he0 hw h1 (by omega)
theorem lastG_plain (m : MemG) (loc : Int) : lastG m loc = if 0 ≤ loc ∧ loc < m.plain.past.length then (paAt m.plain loc.toNat).getLast? else none := by
  unfold lastG paAt
  have hl : m.plain.past.length = m.past.length := Z4b _
  rw [hl]
  split
  · rename_i h
    have : (inn m.past).getD loc.toNat [] = (m.past.getD loc.toNat default).1 := by
      unfold inn
      rw [List.getD_eq_getElem?_getD, List.getElem?_map, List.getElem?_eq_getElem (by omega), Z4q (by omega)]; rfl
    show _ = ((inn m.past).getD _ []).getLast?
    rw [this]; rfl
  · rfl
/-- At the beginning. -/
theorem new_past {l : List LocG} {t : Int} (h : newErr l t = 0) {x : Nat} (hx : x < l.length) (ha : (l.getD x default).atom = false) : paAt (newM l t).plain x = [⟨⟨0, 1⟩, (l.getD x default).init⟩] := by
  unfold newM
  rw [if_pos h]
  show (inn (l.map pastX)).getD x [] = _
  rw [inn_map, List.getD_eq_getElem?_getD, List.getElem?_map, List.getElem?_eq_getElem hx]
  rw [Z4q hx] at ha ⊢
  show (pastX l[x]).1 = _
  unfold pastX; rw [ha]; rfl
theorem new_locs {l : List LocG} {t : Int} (h : newErr l t = 0) : (newM l t).plain.locs = l := by unfold newM; rw [if_pos h]; rfl
end Go.Ago

/- RaceOne and RaceReads. Conditions: none. -/
set_option maxRecDepth 100000
set_option linter.unusedSimpArgs false
set_option linter.unusedVariables false
namespace Go.Ago
/-- The location of a plain step. -/
theorem plain_loc {m : Mem} {s : StepG} (he : doErr m s = 0) (hp : isPl s.act.kind = true) : s.act.loc.toNat < m.locs.length ∧ (m.locs.getD s.act.loc.toNat default).atom = false := by
  have ht := taken he
  have := ht.loc (.inl hp)
  exact ⟨by omega, right_plain hp ht.right⟩
theorem run_locs {l : List LocG} {t : Int} {ss : List StepG} (he : playErr l t ss = 0) {i : Nat} (hi : i ≤ ss.length) : (memAt l t ss i).locs = l := by
  rw [(run_of he).locs i hi]; exact new_locs (playErr_new he).1
theorem idx_B {l : List Bool} {full : Bool} {kd : IntKind} {n : Int} {k : Delta → Prop} : stepK (evIdxAddr 1 (.d (.list (l.map rowB) full)) (.d (.int kd n))) k ↔ (0 ≤ n ∧ n < l.length) ∧ k ⟨.dptr (rowB (l.getD n.toNat default)) 0, [], []⟩ := stepK_idx_map (fun _ => rfl)
/-! ### RaceOne -/
theorem weakL_len {l : List LocG} {t : Int} {ss : List StepG} (he : playErr l t ss = 0) : (weakL l t ss).length = ss.length := by unfold weakL; rw [if_pos he]; simp
/-! ### raced -/
/-! ### RaceReads -/
end Go.Ago

/- The contracts of package seq and of its reference. Conditions: none. -/
set_option maxRecDepth 100000
set_option linter.unusedSimpArgs false
set_option linter.unusedVariables false
namespace Go.Ago

/-- One act on numbers, where it is right and reads what is there. -/
def seqDo (vals : List Int) (a : ActG) : List Int := if a.isW then vals.set a.loc.toNat a.new else vals
def seqErr (l : List LocG) (vals : List Int) (a : ActG) : Int :=
  if vals.length = l.length then (if a.right l then (if a.isR && !decide (vals.getD a.loc.toNat 0 = a.old) then 3 else 0) else 1) else 1

def seqRes (l : List LocG) (vals : List Int) (a : ActG) : List Int := if seqErr l vals a = 0 then seqDo vals a else []

def sp_seq_Do : Sp := ⟨List LocG × Bool × List Int × Bool × ActG, fun x => [.d (.list (x.1.map LocG.row) x.2.1), .d (.list (x.2.2.1.map rowI) x.2.2.2.1), x.2.2.2.2.av],
  fun x => .data (x.2.2.1.length ≤ 1048576) (.tup [.d (.list ((seqRes x.1 x.2.2.1 x.2.2.2.2).map rowI) false), .d (.int .i64 (seqErr x.1 x.2.2.1 x.2.2.2.2))]) true⟩
theorem at_seq_Do (l : List LocG) (f : Bool) (vals : List Int) (g : Bool) (k o m n : Int) : sp_seq_Do.at [.d (.list (l.map LocG.row) f), .d (.list (vals.map rowI) g), .agg [.d (.int .i64 k), .d (.int .i64 o), .d (.int .i64 m), .d (.int .i64 n)]] =
    .data (vals.length ≤ 1048576) (.tup [.d (.list ((seqRes l vals ⟨k, o, m, n⟩).map rowI) false), .d (.int .i64 (seqErr l vals ⟨k, o, m, n⟩))]) true :=
  Sp.at_enc (s := sp_seq_Do) (fun x y h => by
    obtain ⟨a, b, c, d, e⟩ := x; obtain ⟨a', b', c', d', e'⟩ := y
    simp only [sp_seq_Do, List.cons.injEq, AV.d.injEq, DV.list.injEq, and_true] at h
    obtain ⟨⟨h1, h2⟩, ⟨h3, h4⟩, h5⟩ := h
    rw [Z4o LocG.row_inj h1, h2, Z4o rowI_inj h3, h4, ActG.av_inj _ _ h5]) (l, f, vals, g, ⟨k, o, m, n⟩)

theorem body_seq_Do {T : Tab} {n1 n2 : Nat} (k1 : Knows T n1 sp_act_Right) (k2 : Knows T n2 (cloneS 1 8)) : sp_seq_Do.Body T V_seq_Do (L_seq_Do n1 n2) R_seq_Do := by
  have F1 := k1.F; have G1 := k1.G; have F2 := k2.F; have G2 := k2.G
  rintro ⟨l, f, vals, g, a⟩ hlen
  have hlen : vals.length ≤ 1048576 := hlen
  refine .inr ⟨rfl, ?_⟩
  unfold V_seq_Do L_seq_Do R_seq_Do
  simp only [↓Z29, ↓Z33, ↓Z26, ↓Z0x, ↓Z28, ↓Z1x, Z3t, Z3u, ↓Z34, ↓Z25, ↓Z1d, ↓Z27, ↓Z24, ↓Z30, ↓Z32, ↓Z31, ↓Z1k, ↓Z1n, ↓Z1l, ↓Z1m, ↓Z2z, ↓Z3x, ↓Z3w, ↓Z2w, ↓Z2y, ↓Z2x, ↓Z3n, ↓Z3p, ↓Z3o, ↓Z0i, ↓Z08, ↓Z14, ↓Z13, ↓Z12, Z4h, Z0y, Z0z, Z3j, Z10, Z3v, evN, Z2j, Z2o, Z3q, Z3r, Z2m, Z1h, Z2k, Z23, Z1q, Z1p, Z15, Z2l, evT, Opd.ev, Z0e, Z06, Z3l, Z3k, Z3m, Z1j, Z11, Z2u, Z2t, Z2s, Z2a, Z1z, Z41, LOp.isNew, State.prune, Z3a, Z35, AV.leaf, Heap.at, Z0r, Z09, Z04, Z0c, Z01, Z4g, Z4j, Z2r, Z2q, Z2p, Z1r, Z16, Z03, Z0a, Z02, Z00, Z1v, rowI, rowU, RatG.row, LocG.row, ActG.row, StepG.row, StampG.row, ActG.av, ActG.eta, RatG.eta, LocG.eta, beq_true, beq_false, Z1w, Z22, Z2d, Z1i, Z2b, Z1y, Z2c, Z0w, Z0h, Z0u, Z0v, Z0g, Z0f, Z07, List.length_set, List.length_replicate, Int.toNat_natCast, Int.reduceToNat, Z4f, Z1g, Z3z, Src.all, Src.len, Src.leaf, Src.leafN, Z2h, Z3f, Z45, Z0j, Z0k, Z0l, Z0m, Z0n, Z0o, Z0p, Z0q, Z42, drows, evMk, List.length_map, Z4n, Z4u, Z47, Z4a, Z4e, evUn, binT, binQ, chk, Z3b, List.contains_cons, List.contains_nil, Bool.or_false, Bool.false_or, Bool.and_self, resQ, resV, resT, Z4c, Z2i, Z3i, Z3h, fnOf, Z3c, isD, HO.drow, Z48, Z3d, evEq, eqV, eqK, eqC1, Z3g, Z3e, Z2g, Z2e, Z3s, Z2v, Z40, Z38, Z1u, Z19, Z1t, Z18, Z1s, Z17, Z1a, Z0s, Z0t, Z0b, List.mem_cons, List.not_mem_nil, or_false, forall_eq, putRow, Z36, Z2n, RetS, RetF, RetD, AV.frz, AV.frzL, AV.freshP, AV.freshL, DV.less, Z20, Z1b, Z21, Z1c, Z1f, Z0d, Z05, Option.some.injEq, AV.tup.injEq, AV.agg.injEq, List.cons.injEq, DV.list.injEq, List.isEmpty_nil, Nat.le_refl, AV.d.injEq, DV.int.injEq, DV.bool.injEq, ↓reduceIte, Nat.reduceEqDiff, Nat.reduceAdd, Nat.reduceBEq, List.length_cons, List.length_nil, List.replicate_succ, List.replicate_zero, List.nil_append, List.cons_append, List.append_nil, List.foldl_cons, List.foldl_nil, List.map_cons, List.map_nil, List.all_cons, List.all_nil, List.set_cons_zero, List.set_cons_succ, List.getD_cons_zero, List.getD_cons_succ, List.drop_zero, List.drop_succ_cons, List.take_succ_cons, List.take_zero, List.flatten_cons, List.flatten_nil, Bool.true_and, Bool.and_true, Bool.not_true, Bool.not_false, true_and, and_true, true_or, or_true, Option.bind_some, Option.map_some, decide_true, decide_false, beq_self_eq_true, true_implies, false_implies, implies_true, not_true_eq_false, not_false_eq_true, and_self, Bool.and_false, Bool.false_and, Nat.reduceLT, Nat.reduceLeDiff, List.reverse_cons, List.reverse_nil, Nat.zero_add, Nat.add_zero, Bool.false_eq_true, List.getElem?_cons_zero, sp_seq_Do, F1, G1, at_act_Right, F2, G2, Z4i]
  simp only [boolK]
  have r1 : roomy vals.length 8 := Z4d hlen (by omega)
  have r2 : ∀ r ∈ vals.map rowI, r.length = 1 := rows_len (f := rowI) (fun _ => rfl) _
  have key : a.right l = true → vals.length = l.length → a.kind = 6 ∨ (1 ≤ a.kind ∧ a.kind ≤ 5 ∧ 0 ≤ a.loc ∧ a.loc < vals.length) := fun h h' => by
    unfold ActG.right at h
    split at h
    · exact .inl (by assumption)
    · simp only [Bool.and_eq_true, decide_eq_true_eq] at h
      exact .inr ⟨h.1.1.1.1.1.1, h.1.1.1.1.1.2, h.1.1.1.1.2, by have := h.1.1.1.2; omega⟩
  have hd : default = (0 : Int) := rfl
  rw [hd]
  refine ⟨fun h1 => ⟨fun h2 => ⟨r1, ?_⟩, fun h2 => ?_⟩, fun h1 => ?_⟩
  · have h1' : vals.length = l.length := by omega
    have hE : seqErr l vals a = if a.isR && !decide (vals.getD a.loc.toNat 0 = a.old) then 3 else 0 := by simp only [seqErr, h1', h2, if_true]
    have k := key h2 h1'
    simp only [hE, seqRes, seqDo, ActG.isR, ActG.isW]
    generalize vals.getD a.loc.toNat 0 = v at *
    clear hE key
    (repeat' (first | intro _ | apply And.intro))
    all_goals first | omega | (simp [*]; done) | (simp only [*]; simp; done)
  · have hE : seqErr l vals a = 1 := by simp only [seqErr, h2, Bool.false_eq_true, if_false]; split <;> rfl
    simp [hE, seqRes]
  · have hE : seqErr l vals a = 1 := by rw [seqErr, if_neg (by omega)]
    simp [hE, seqRes]
/-- Acts one behind the other: the numbers then, how many were right, the error of the next one. -/
def seqGo (l : List LocG) : List Int → List ActG → List Int × Nat × Int
  | vals, [] => (vals, 0, 0)
  | vals, a :: as => if seqErr l vals a = 0 then ((seqGo l (seqDo vals a) as).1, (seqGo l (seqDo vals a) as).2.1 + 1, (seqGo l (seqDo vals a) as).2.2) else ([], 0, seqErr l vals a)
def seqRun (l : List LocG) (as : List ActG) : List Int × Nat × Int := seqGo l (l.map LocG.init) as

theorem seqDo_len {v : List Int} {a : ActG} : (seqDo v a).length = v.length := by unfold seqDo; split <;> simp

def seqSt (l : List LocG) (f : Bool) (as : List ActG) (g : Bool) : Nat × Bool × List Int → State
  | (i, true, v) => ⟨[(0, .d (.list (l.map LocG.row) f)), (1, .d (.list (as.map ActG.row) g)), (7, .ref 0 1 0 v.length true), (30, .d (.list (as.map ActG.row) g)), (31, .d (.int .i64 as.length)), (32, .d (.int .i64 i))], [.dvec 1 (v.map rowI)]⟩
  | (i, false, v) => ⟨[(0, .d (.list (l.map LocG.row) f)), (1, .d (.list (as.map ActG.row) g)), (7, .d (.list (v.map rowI) false)), (30, .d (.list (as.map ActG.row) g)), (31, .d (.int .i64 as.length)), (32, .d (.int .i64 i))], []⟩

theorem seqRun_next {l : List LocG} {as : List ActG} {v : List Int} {i : Nat} (h : i < as.length) (hr : seqRun l as = ((seqGo l v (as.drop i)).1, i + (seqGo l v (as.drop i)).2.1, (seqGo l v (as.drop i)).2.2)) :
    (seqErr l v (as.getD i default) = 0 → seqRun l as = ((seqGo l (seqDo v (as.getD i default)) (as.drop (i + 1))).1, (i + 1) + (seqGo l (seqDo v (as.getD i default)) (as.drop (i + 1))).2.1, (seqGo l (seqDo v (as.getD i default)) (as.drop (i + 1))).2.2)) ∧
    (seqErr l v (as.getD i default) ≠ 0 → seqRun l as = ([], i, seqErr l v (as.getD i default))) := by
  rw [Z4q h]
  rw [List.drop_eq_getElem_cons h] at hr
  refine ⟨fun e => ?_, fun e => ?_⟩
  · simp only [seqGo, e, if_true] at hr
    rw [hr]; congr 2; omega
  · simp only [seqGo, e, if_false] at hr
    exact hr

def sp_seq_Run : Sp := ⟨List LocG × Bool × List ActG × Bool, fun x => [.d (.list (x.1.map LocG.row) x.2.1), .d (.list (x.2.2.1.map ActG.row) x.2.2.2)],
  fun x => .data (x.1.length ≤ 1048576 ∧ x.2.2.1.length ≤ 1048576) (.tup [.d (.list ((seqRun x.1 x.2.2.1).1.map rowI) false), .d (.int .i64 (seqRun x.1 x.2.2.1).2.1), .d (.int .i64 (seqRun x.1 x.2.2.1).2.2)]) false⟩
theorem at_seq_Run (l : List LocG) (f : Bool) (as : List ActG) (g : Bool) : sp_seq_Run.at [.d (.list (l.map LocG.row) f), .d (.list (as.map ActG.row) g)] =
    .data (l.length ≤ 1048576 ∧ as.length ≤ 1048576) (.tup [.d (.list ((seqRun l as).1.map rowI) false), .d (.int .i64 (seqRun l as).2.1), .d (.int .i64 (seqRun l as).2.2)]) false :=
  Sp.at_enc (s := sp_seq_Run) (fun x y h => by
    obtain ⟨a, b, c, d⟩ := x; obtain ⟨a', b', c', d'⟩ := y
    simp only [sp_seq_Run, List.cons.injEq, AV.d.injEq, DV.list.injEq, and_true] at h
    obtain ⟨⟨h1, h2⟩, h3, h4⟩ := h
    rw [Z4o LocG.row_inj h1, h2, Z4o ActG.row_inj h3, h4]) (l, f, as, g)

theorem body_seq_Run {T : Tab} {n1 : Nat} (k1 : Knows T n1 sp_seq_Do) : sp_seq_Run.Body T V_seq_Run (L_seq_Run n1) R_seq_Run := by
  have F1 := k1.F; have G1 := k1.G
  rintro ⟨l, f, as, g⟩ ⟨hlen, hlen2⟩
  have hlen : l.length ≤ 1048576 := hlen
  have hlen2 : as.length ≤ 1048576 := hlen2
  refine ⟨rfl, ?_⟩
  unfold V_seq_Run L_seq_Run R_seq_Run
  simp only [↓Z29, ↓Z33, ↓Z26, ↓Z0x, ↓Z28, ↓Z1x, Z3t, Z3u, ↓Z34, ↓Z25, ↓Z1d, ↓Z27, ↓Z24, ↓Z30, ↓Z32, ↓Z31, ↓Z1k, ↓Z1n, ↓Z1l, ↓Z1m, ↓Z2z, ↓Z3x, ↓Z3w, ↓Z2w, ↓Z2y, ↓Z2x, ↓Z3n, ↓Z3p, ↓Z3o, ↓Z0i, ↓Z08, ↓Z14, ↓Z13, ↓Z12, Z4h, Z0y, Z0z, Z3j, Z10, Z3v, evN, Z2j, Z2o, Z3q, Z3r, Z2m, Z1h, Z2k, Z23, Z1q, Z1p, Z15, Z2l, evT, Opd.ev, Z0e, Z06, Z3l, Z3k, Z3m, Z1j, Z11, Z2u, Z2t, Z2s, Z2a, Z1z, Z41, LOp.isNew, State.prune, Z3a, Z35, AV.leaf, Heap.at, Z0r, Z09, Z04, Z0c, Z01, Z4g, Z4j, Z2r, Z2q, Z2p, Z1r, Z16, Z03, Z0a, Z02, Z00, Z1v, rowI, rowU, RatG.row, LocG.row, ActG.row, StepG.row, StampG.row, ActG.av, ActG.eta, RatG.eta, LocG.eta, beq_true, beq_false, Z1w, Z22, Z2d, Z1i, Z2b, Z1y, Z2c, Z0w, Z0h, Z0u, Z0v, Z0g, Z0f, Z07, List.length_set, List.length_replicate, Int.toNat_natCast, Int.reduceToNat, Z4f, Z1g, Z3z, Src.all, Src.len, Src.leaf, Src.leafN, Z2h, Z3f, Z45, Z0j, Z0k, Z0l, Z0m, Z0n, Z0o, Z0p, Z0q, Z42, drows, evMk, List.length_map, Z4n, Z4u, Z47, Z4a, Z4e, evUn, binT, binQ, chk, Z3b, List.contains_cons, List.contains_nil, Bool.or_false, Bool.false_or, Bool.and_self, resQ, resV, resT, Z4c, Z2i, Z3i, Z3h, fnOf, Z3c, isD, HO.drow, Z48, Z3d, evEq, eqV, eqK, eqC1, Z3g, Z3e, Z2g, Z2e, Z3s, Z2v, Z40, Z38, Z1u, Z19, Z1t, Z18, Z1s, Z17, Z1a, Z0s, Z0t, Z0b, List.mem_cons, List.not_mem_nil, or_false, forall_eq, putRow, Z36, Z2n, RetS, RetF, RetD, AV.frz, AV.frzL, AV.freshP, AV.freshL, DV.less, Z20, Z1b, Z21, Z1c, Z1f, Z0d, Z05, Option.some.injEq, AV.tup.injEq, AV.agg.injEq, List.cons.injEq, DV.list.injEq, List.isEmpty_nil, Nat.le_refl, AV.d.injEq, DV.int.injEq, DV.bool.injEq, ↓reduceIte, Nat.reduceEqDiff, Nat.reduceAdd, Nat.reduceBEq, List.length_cons, List.length_nil, List.replicate_succ, List.replicate_zero, List.nil_append, List.cons_append, List.append_nil, List.foldl_cons, List.foldl_nil, List.map_cons, List.map_nil, List.all_cons, List.all_nil, List.set_cons_zero, List.set_cons_succ, List.getD_cons_zero, List.getD_cons_succ, List.drop_zero, List.drop_succ_cons, List.take_succ_cons, List.take_zero, List.flatten_cons, List.flatten_nil, Bool.true_and, Bool.and_true, Bool.not_true, Bool.not_false, true_and, and_true, true_or, or_true, Option.bind_some, Option.map_some, decide_true, decide_false, beq_self_eq_true, true_implies, false_implies, implies_true, not_true_eq_false, not_false_eq_true, and_self, Bool.and_false, Bool.false_and, Nat.reduceLT, Nat.reduceLeDiff, List.reverse_cons, List.reverse_nil, Nat.zero_add, Nat.add_zero, Bool.false_eq_true, List.getElem?_cons_zero, sp_seq_Run, F1, G1, at_seq_Do]
  have r1 : roomy l.length 8 := Z4d hlen (by omega)
  refine ⟨⟨by omega, by omega, r1⟩, ?_⟩
  refine Loop.fam [0, 1, 7, 17, 18, 19] (fun i : Nat => ⟨[(0, .d (.list (l.map LocG.row) f)), (1, .d (.list (as.map ActG.row) g)), (7, .ref 0 1 0 l.length true), (17, .d (.list (l.map LocG.row) f)), (18, .d (.int .i64 l.length)), (19, .d (.int .i64 i))],
      [.dvec 1 (((l.map LocG.init).take i ++ List.replicate (l.length - i) 0).map rowI)]⟩) (fun i => i ≤ l.length) (fun i => l.length - i) 0 [0] (by simp) (by simp)
    (by simp only [State.can, AV.can, AV.canL, HO.can, Z37, idx, Z0e, Z06, Heap.at, Nat.reduceBEq, ↓reduceIte, Nat.reduceEqDiff, Option.getD_some, Option.map_some, List.map_cons, List.map_nil, List.getD_cons_zero, List.getD_cons_succ]; simp) (by omega) ?_
  intro i hi
  simp only [↓Z29, ↓Z33, ↓Z26, ↓Z0x, ↓Z28, ↓Z1x, Z3t, Z3u, ↓Z34, ↓Z25, ↓Z1d, ↓Z27, ↓Z24, ↓Z30, ↓Z32, ↓Z31, ↓Z1k, ↓Z1n, ↓Z1l, ↓Z1m, ↓Z2z, ↓Z3x, ↓Z3w, ↓Z2w, ↓Z2y, ↓Z2x, ↓Z3n, ↓Z3p, ↓Z3o, ↓Z0i, ↓Z08, ↓Z14, ↓Z13, ↓Z12, Z4h, Z0y, Z0z, Z3j, Z10, Z3v, evN, Z2j, Z2o, Z3q, Z3r, Z2m, Z1h, Z2k, Z23, Z1q, Z1p, Z15, Z2l, evT, Opd.ev, Z0e, Z06, Z3l, Z3k, Z3m, Z1j, Z11, Z2u, Z2t, Z2s, Z2a, Z1z, Z41, LOp.isNew, State.prune, Z3a, Z35, AV.leaf, Heap.at, Z0r, Z09, Z04, Z0c, Z01, Z4g, Z4j, Z2r, Z2q, Z2p, Z1r, Z16, Z03, Z0a, Z02, Z00, Z1v, rowI, rowU, RatG.row, LocG.row, ActG.row, StepG.row, StampG.row, ActG.av, ActG.eta, RatG.eta, LocG.eta, beq_true, beq_false, Z1w, Z22, Z2d, Z1i, Z2b, Z1y, Z2c, Z0w, Z0h, Z0u, Z0v, Z0g, Z0f, Z07, List.length_set, List.length_replicate, Int.toNat_natCast, Int.reduceToNat, Z4f, Z1g, Z3z, Src.all, Src.len, Src.leaf, Src.leafN, Z2h, Z3f, Z45, Z0j, Z0k, Z0l, Z0m, Z0n, Z0o, Z0p, Z0q, Z42, drows, evMk, List.length_map, Z4n, Z4u, Z47, Z4a, Z4e, evUn, binT, binQ, chk, Z3b, List.contains_cons, List.contains_nil, Bool.or_false, Bool.false_or, Bool.and_self, resQ, resV, resT, Z4c, Z2i, Z3i, Z3h, fnOf, Z3c, isD, HO.drow, Z48, Z3d, evEq, eqV, eqK, eqC1, Z3g, Z3e, Z2g, Z2e, Z3s, Z2v, Z40, Z38, Z1u, Z19, Z1t, Z18, Z1s, Z17, Z1a, Z0s, Z0t, Z0b, List.mem_cons, List.not_mem_nil, or_false, forall_eq, putRow, Z36, Z2n, RetS, RetF, RetD, AV.frz, AV.frzL, AV.freshP, AV.freshL, DV.less, Z20, Z1b, Z21, Z1c, Z1f, Z0d, Z05, Option.some.injEq, AV.tup.injEq, AV.agg.injEq, List.cons.injEq, DV.list.injEq, List.isEmpty_nil, Nat.le_refl, AV.d.injEq, DV.int.injEq, DV.bool.injEq, ↓reduceIte, Nat.reduceEqDiff, Nat.reduceAdd, Nat.reduceBEq, List.length_cons, List.length_nil, List.replicate_succ, List.replicate_zero, List.nil_append, List.cons_append, List.append_nil, List.foldl_cons, List.foldl_nil, List.map_cons, List.map_nil, List.all_cons, List.all_nil, List.set_cons_zero, List.set_cons_succ, List.getD_cons_zero, List.getD_cons_succ, List.drop_zero, List.drop_succ_cons, List.take_succ_cons, List.take_zero, List.flatten_cons, List.flatten_nil, Bool.true_and, Bool.and_true, Bool.not_true, Bool.not_false, true_and, and_true, true_or, or_true, Option.bind_some, Option.map_some, decide_true, decide_false, beq_self_eq_true, true_implies, false_implies, implies_true, not_true_eq_false, not_false_eq_true, and_self, Bool.and_false, Bool.false_and, Nat.reduceLT, Nat.reduceLeDiff, List.reverse_cons, List.reverse_nil, Nat.zero_add, Nat.add_zero, Bool.false_eq_true, List.getElem?_cons_zero, F1, G1, at_seq_Do]
  have hv : ((l.map LocG.init).take i ++ List.replicate (l.length - i) 0).length = l.length := by simp; omega
  refine ⟨fun h => ?_, fun h => ?_⟩
  · have h' : i < l.length := by omega
    rw [Z44 h' (by unfold maxLen; omega)]
    refine ⟨⟨by omega, by omega⟩, ⟨by omega, by omega⟩, by omega, Z2f.mk [0] (i + 1) (by simp) (by simp) ?_ (by omega) (by omega)⟩
    simp only [State.can, AV.can, AV.canL, HO.can, Z37, idx, Z0e, Z06, Heap.at, Nat.reduceBEq, ↓reduceIte, Nat.reduceEqDiff, Option.getD_some, Option.map_some, List.map_cons, List.map_nil, List.getD_cons_zero, List.getD_cons_succ]
    have e : ((l.map LocG.init).take i ++ List.replicate (l.length - i) 0).set i (l.getD i default).init = (l.map LocG.init).take (i + 1) ++ List.replicate (l.length - (i + 1)) 0 := by
      rw [List.set_append_right _ _ (by simp; omega), List.take_add_one, List.getElem?_eq_getElem (by simpa using h'), Z4q h']
      have : l.length - i = (l.length - (i + 1)) + 1 := by omega
      rw [this, List.replicate_succ]
      have : i - (List.take i (List.map LocG.init l)).length = 0 := by simp; omega
      rw [this]
      simp
    rw [e]
  · have : i = l.length := by omega
    subst this
    have e1 : List.take l.length (List.map LocG.init l) ++ List.replicate (l.length - l.length) 0 = l.map LocG.init := by
      rw [List.take_of_length_le (by simp)]; simp
    rw [e1]
    refine Loop.fam [0, 1, 7, 30, 31, 32] (seqSt l f as g) (fun x => x.1 ≤ as.length ∧ x.2.2.length = l.length ∧ seqRun l as = ((seqGo l x.2.2 (as.drop x.1)).1, x.1 + (seqGo l x.2.2 (as.drop x.1)).2.1, (seqGo l x.2.2 (as.drop x.1)).2.2))
      (fun x => as.length - x.1) (0, true, l.map LocG.init) [0] (by simp) (by simp) (by simp only [State.can, AV.can, AV.canL, HO.can, Z37, idx, Z0e, Z06, Heap.at, Nat.reduceBEq, ↓reduceIte, Nat.reduceEqDiff, Option.getD_some, Option.map_some, List.map_cons, List.map_nil, List.getD_cons_zero, List.getD_cons_succ, seqSt]; simp) ⟨by omega, by simp, by simp [seqRun]⟩ ?_
    rintro ⟨i, b, v⟩ ⟨i1, i2, i3⟩
    have i1 : i ≤ as.length := i1
    have i2 : v.length = l.length := i2
    have i3 : seqRun l as = ((seqGo l v (as.drop i)).1, i + (seqGo l v (as.drop i)).2.1, (seqGo l v (as.drop i)).2.2) := i3
    have stop : ¬ (i : Int) < as.length → (seqRun l as).1 = v ∧ (seqRun l as).2.1 = as.length ∧ (seqRun l as).2.2 = 0 := fun h => by
      have : i = as.length := by omega
      subst this
      rw [i3, List.drop_length]; simp [seqGo]
    cases b with
    | true =>
      simp only [↓Z29, ↓Z33, ↓Z26, ↓Z0x, ↓Z28, ↓Z1x, Z3t, Z3u, ↓Z34, ↓Z25, ↓Z1d, ↓Z27, ↓Z24, ↓Z30, ↓Z32, ↓Z31, ↓Z1k, ↓Z1n, ↓Z1l, ↓Z1m, ↓Z2z, ↓Z3x, ↓Z3w, ↓Z2w, ↓Z2y, ↓Z2x, ↓Z3n, ↓Z3p, ↓Z3o, ↓Z0i, ↓Z08, ↓Z14, ↓Z13, ↓Z12, Z4h, Z0y, Z0z, Z3j, Z10, Z3v, evN, Z2j, Z2o, Z3q, Z3r, Z2m, Z1h, Z2k, Z23, Z1q, Z1p, Z15, Z2l, evT, Opd.ev, Z0e, Z06, Z3l, Z3k, Z3m, Z1j, Z11, Z2u, Z2t, Z2s, Z2a, Z1z, Z41, LOp.isNew, State.prune, Z3a, Z35, AV.leaf, Heap.at, Z0r, Z09, Z04, Z0c, Z01, Z4g, Z4j, Z2r, Z2q, Z2p, Z1r, Z16, Z03, Z0a, Z02, Z00, Z1v, rowI, rowU, RatG.row, LocG.row, ActG.row, StepG.row, StampG.row, ActG.av, ActG.eta, RatG.eta, LocG.eta, beq_true, beq_false, Z1w, Z22, Z2d, Z1i, Z2b, Z1y, Z2c, Z0w, Z0h, Z0u, Z0v, Z0g, Z0f, Z07, List.length_set, List.length_replicate, Int.toNat_natCast, Int.reduceToNat, Z4f, Z1g, Z3z, Src.all, Src.len, Src.leaf, Src.leafN, Z2h, Z3f, Z45, Z0j, Z0k, Z0l, Z0m, Z0n, Z0o, Z0p, Z0q, Z42, drows, evMk, List.length_map, Z4n, Z4u, Z47, Z4a, Z4e, evUn, binT, binQ, chk, Z3b, List.contains_cons, List.contains_nil, Bool.or_false, Bool.false_or, Bool.and_self, resQ, resV, resT, Z4c, Z2i, Z3i, Z3h, fnOf, Z3c, isD, HO.drow, Z48, Z3d, evEq, eqV, eqK, eqC1, Z3g, Z3e, Z2g, Z2e, Z3s, Z2v, Z40, Z38, Z1u, Z19, Z1t, Z18, Z1s, Z17, Z1a, Z0s, Z0t, Z0b, List.mem_cons, List.not_mem_nil, or_false, forall_eq, putRow, Z36, Z2n, RetS, RetF, RetD, AV.frz, AV.frzL, AV.freshP, AV.freshL, DV.less, Z20, Z1b, Z21, Z1c, Z1f, Z0d, Z05, Option.some.injEq, AV.tup.injEq, AV.agg.injEq, List.cons.injEq, DV.list.injEq, List.isEmpty_nil, Nat.le_refl, AV.d.injEq, DV.int.injEq, DV.bool.injEq, ↓reduceIte, Nat.reduceEqDiff, Nat.reduceAdd, Nat.reduceBEq, List.length_cons, List.length_nil, List.replicate_succ, List.replicate_zero, List.nil_append, List.cons_append, List.append_nil, List.foldl_cons, List.foldl_nil, List.map_cons, List.map_nil, List.all_cons, List.all_nil, List.set_cons_zero, List.set_cons_succ, List.getD_cons_zero, List.getD_cons_succ, List.drop_zero, List.drop_succ_cons, List.take_succ_cons, List.take_zero, List.flatten_cons, List.flatten_nil, Bool.true_and, Bool.and_true, Bool.not_true, Bool.not_false, true_and, and_true, true_or, or_true, Option.bind_some, Option.map_some, decide_true, decide_false, beq_self_eq_true, true_implies, false_implies, implies_true, not_true_eq_false, not_false_eq_true, and_self, Bool.and_false, Bool.false_and, Nat.reduceLT, Nat.reduceLeDiff, List.reverse_cons, List.reverse_nil, Nat.zero_add, Nat.add_zero, Bool.false_eq_true, List.getElem?_cons_zero, F1, G1, at_seq_Do, seqSt]
      refine ⟨fun h => ?_, fun h => ?_⟩
      · have h' : i < as.length := by omega
        obtain ⟨n1, n2⟩ := seqRun_next h' i3
        refine ⟨⟨by omega, by omega⟩, by omega, ?_⟩
        rw [Z44 h' (by unfold maxLen; omega)]
        generalize as.getD i default = a at *
        refine ⟨fun e => ?_, fun e => ?_⟩
        · rw [show seqRes l v a = seqDo v a by rw [seqRes, if_pos e]]
          exact Z2f.mk [] (i + 1, false, seqDo v a) (by simp) (by simp) (by simp only [State.can, AV.can, AV.canL, HO.can, Z37, idx, Z0e, Z06, Heap.at, Nat.reduceBEq, ↓reduceIte, Nat.reduceEqDiff, Option.getD_some, Option.map_some, List.map_cons, List.map_nil, List.getD_cons_zero, List.getD_cons_succ, seqSt]) ⟨by show i + 1 ≤ as.length; omega, by show (seqDo v a).length = _; rw [seqDo_len, i2], n1 e⟩ (by show as.length - (i + 1) < as.length - i; omega)
        · rw [n2 e]; simp
      · obtain ⟨s1, s2, s3⟩ := stop h
        rw [s1, s2, s3]; simp
    | false =>
      simp only [↓Z29, ↓Z33, ↓Z26, ↓Z0x, ↓Z28, ↓Z1x, Z3t, Z3u, ↓Z34, ↓Z25, ↓Z1d, ↓Z27, ↓Z24, ↓Z30, ↓Z32, ↓Z31, ↓Z1k, ↓Z1n, ↓Z1l, ↓Z1m, ↓Z2z, ↓Z3x, ↓Z3w, ↓Z2w, ↓Z2y, ↓Z2x, ↓Z3n, ↓Z3p, ↓Z3o, ↓Z0i, ↓Z08, ↓Z14, ↓Z13, ↓Z12, Z4h, Z0y, Z0z, Z3j, Z10, Z3v, evN, Z2j, Z2o, Z3q, Z3r, Z2m, Z1h, Z2k, Z23, Z1q, Z1p, Z15, Z2l, evT, Opd.ev, Z0e, Z06, Z3l, Z3k, Z3m, Z1j, Z11, Z2u, Z2t, Z2s, Z2a, Z1z, Z41, LOp.isNew, State.prune, Z3a, Z35, AV.leaf, Heap.at, Z0r, Z09, Z04, Z0c, Z01, Z4g, Z4j, Z2r, Z2q, Z2p, Z1r, Z16, Z03, Z0a, Z02, Z00, Z1v, rowI, rowU, RatG.row, LocG.row, ActG.row, StepG.row, StampG.row, ActG.av, ActG.eta, RatG.eta, LocG.eta, beq_true, beq_false, Z1w, Z22, Z2d, Z1i, Z2b, Z1y, Z2c, Z0w, Z0h, Z0u, Z0v, Z0g, Z0f, Z07, List.length_set, List.length_replicate, Int.toNat_natCast, Int.reduceToNat, Z4f, Z1g, Z3z, Src.all, Src.len, Src.leaf, Src.leafN, Z2h, Z3f, Z45, Z0j, Z0k, Z0l, Z0m, Z0n, Z0o, Z0p, Z0q, Z42, drows, evMk, List.length_map, Z4n, Z4u, Z47, Z4a, Z4e, evUn, binT, binQ, chk, Z3b, List.contains_cons, List.contains_nil, Bool.or_false, Bool.false_or, Bool.and_self, resQ, resV, resT, Z4c, Z2i, Z3i, Z3h, fnOf, Z3c, isD, HO.drow, Z48, Z3d, evEq, eqV, eqK, eqC1, Z3g, Z3e, Z2g, Z2e, Z3s, Z2v, Z40, Z38, Z1u, Z19, Z1t, Z18, Z1s, Z17, Z1a, Z0s, Z0t, Z0b, List.mem_cons, List.not_mem_nil, or_false, forall_eq, putRow, Z36, Z2n, RetS, RetF, RetD, AV.frz, AV.frzL, AV.freshP, AV.freshL, DV.less, Z20, Z1b, Z21, Z1c, Z1f, Z0d, Z05, Option.some.injEq, AV.tup.injEq, AV.agg.injEq, List.cons.injEq, DV.list.injEq, List.isEmpty_nil, Nat.le_refl, AV.d.injEq, DV.int.injEq, DV.bool.injEq, ↓reduceIte, Nat.reduceEqDiff, Nat.reduceAdd, Nat.reduceBEq, List.length_cons, List.length_nil, List.replicate_succ, List.replicate_zero, List.nil_append, List.cons_append, List.append_nil, List.foldl_cons, List.foldl_nil, List.map_cons, List.map_nil, List.all_cons, List.all_nil, List.set_cons_zero, List.set_cons_succ, List.getD_cons_zero, List.getD_cons_succ, List.drop_zero, List.drop_succ_cons, List.take_succ_cons, List.take_zero, List.flatten_cons, List.flatten_nil, Bool.true_and, Bool.and_true, Bool.not_true, Bool.not_false, true_and, and_true, true_or, or_true, Option.bind_some, Option.map_some, decide_true, decide_false, beq_self_eq_true, true_implies, false_implies, implies_true, not_true_eq_false, not_false_eq_true, and_self, Bool.and_false, Bool.false_and, Nat.reduceLT, Nat.reduceLeDiff, List.reverse_cons, List.reverse_nil, Nat.zero_add, Nat.add_zero, Bool.false_eq_true, List.getElem?_cons_zero, F1, G1, at_seq_Do, seqSt]
      refine ⟨fun h => ?_, fun h => ?_⟩
      · have h' : i < as.length := by omega
        obtain ⟨n1, n2⟩ := seqRun_next h' i3
        refine ⟨⟨by omega, by omega⟩, by omega, ?_⟩
        rw [Z44 h' (by unfold maxLen; omega)]
        generalize as.getD i default = a at *
        refine ⟨fun e => ?_, fun e => ?_⟩
        · rw [show seqRes l v a = seqDo v a by rw [seqRes, if_pos e]]
          exact Z2f.mk [] (i + 1, false, seqDo v a) (by simp) (by simp) (by simp only [State.can, AV.can, AV.canL, HO.can, Z37, idx, Z0e, Z06, Heap.at, Nat.reduceBEq, ↓reduceIte, Nat.reduceEqDiff, Option.getD_some, Option.map_some, List.map_cons, List.map_nil, List.getD_cons_zero, List.getD_cons_succ, seqSt]) ⟨by show i + 1 ≤ as.length; omega, by show (seqDo v a).length = _; rw [seqDo_len, i2], n1 e⟩ (by show as.length - (i + 1) < as.length - i; omega)
        · rw [n2 e]; simp
      · obtain ⟨s1, s2, s3⟩ := stop h
        rw [s1, s2, s3]; simp

end Go.Ago

/- RaceLatest. Conditions: none. -/
set_option maxRecDepth 100000
set_option linter.unusedSimpArgs false
set_option linter.unusedVariables false
namespace Go.Ago
/-- What a memory holds last. -/
def lateV (m : Mem) (x : Nat) : Int := if (m.locs.getD x default).atom = true then m.vals.getD x 0 else (((paAt m x).getLast?).getD default).val
def latest (m : Mem) : List Int := (List.range m.locs.length).map (lateV m)
theorem latest_len {m : Mem} : (latest m).length = m.locs.length := by simp [latest]
theorem latest_get {m : Mem} {x : Nat} (h : x < m.locs.length) : (latest m).getD x 0 = lateV m x := by
  rw [Z4q (by rw [latest_len]; exact h)]; simp [latest]
theorem late_elem {m : Mem} {x : Nat} (h : x < (latest m).length) : (latest m)[x] = lateV m x := by simp [latest]
def Mem.Full (m : Mem) : Prop := ∀ x, x < m.locs.length → (m.locs.getD x default).atom = false → paAt m x ≠ []
theorem take_val {m : Mem} {s : StepG} (he : doErr m s = 0) (ha : isAt s.act.kind = true) (h4 : s.act.kind ≠ 4) : m.vals.getD s.act.loc.toNat 0 = s.act.old := by
  have hg := doErr_good he
  have h := isAt_iff.1 ha
  unfold doErr at he
  rw [if_neg (by rw [hg]; simp), if_neg (by omega), if_neg (by omega)] at he
  split at he
  · cases he
  · rename_i hn
    by_cases e : m.vals.getD s.act.loc.toNat 0 = s.act.old
    · exact e
    · exact absurd ⟨ha, h4, e⟩ hn
theorem lateV_plain {m : Mem} {x : Nat} {P : List StampG} {e : StampG} (ha : (m.locs.getD x default).atom = false) (h : paAt m x = P ++ [e]) : lateV m x = e.val := by
  unfold lateV; rw [ha, h]; simp
theorem lateV_atom {m : Mem} {x : Nat} (ha : (m.locs.getD x default).atom = true) : lateV m x = m.vals.getD x 0 := if_pos ha
theorem kinds {a : ActG} {l : List LocG} (h : a.right l = true) : 1 ≤ a.kind ∧ a.kind ≤ 6 := by
  unfold ActG.right at h
  split at h
  · omega
  · simp only [Bool.and_eq_true, decide_eq_true_eq] at h
    omega
theorem late_step {m : Mem} {s : StepG} {b : Nat} (hg : m.Good b) (he : doErr m s = 0) (hf : m.Full) {M : MemG} (hM : M.plain = m) (hw : wkB M s = false) :
    seqErr m.locs (latest m) s.act = 0 ∧ seqDo (latest m) s.act = latest (doMem m s) ∧ (doMem m s).Full := by
  have ht := taken he
  have hk := kinds ht.right
  have hlocs := doMem_locs m s
  have hF : ∀ x, x < m.locs.length → (m.locs.getD x default).atom = false → ∃ P e, paAt m x = P ++ [e] := fun x hx ha =>
    ⟨(paAt m x).dropLast, (paAt m x).getLast (hf x hx ha), (List.dropLast_concat_getLast _).symm⟩
  have same : (s.act.kind = 1 ∨ s.act.kind = 3 ∨ s.act.kind = 6) → latest (doMem m s) = latest m ∧ (doMem m s).Full := fun h => by
    have hp : ∀ x, paAt (doMem m s) x = paAt m x := fun x => pa_same (fun e => by omega)
    have hv : (doMem m s).vals = m.vals := by
      unfold doMem
      rw [if_neg (by omega)]
      split
      · rename_i ha; rw [isAt_iff] at ha
        simp only [if_pos (show s.act.kind = 3 by omega)]
      · rfl
    refine ⟨?_, fun x hx ha => by rw [hp]; rw [hlocs] at hx ha; exact hf x hx ha⟩
    unfold latest
    rw [hlocs]
    apply List.map_congr_left
    intro x _
    unfold lateV
    rw [hlocs, hv, hp]
  have noW : s.act.isW = false → seqDo (latest m) s.act = latest m := fun h => by unfold seqDo; rw [h]; rfl
  have errOK : (s.act.isR = true → (latest m).getD s.act.loc.toNat 0 = s.act.old) → seqErr m.locs (latest m) s.act = 0 := fun h => by
    unfold seqErr
    rw [if_pos latest_len, if_pos ht.right, if_neg]
    intro h2
    simp only [Bool.and_eq_true, Bool.not_eq_true', decide_eq_false_iff_not] at h2
    exact h2.2 (h h2.1)
  have wk : isPl s.act.kind = true → ∀ P e, paAt m s.act.loc.toNat = P ++ [e] → ¬ cmpQ' s.when e.when < 0 ∧ (s.act.kind = 1 → cmpQ' s.when e.when = 0) := fun hp P e hpe => by
    have hl := ht.loc (.inl hp)
    have hpl : M.plain.past.length = m.locs.length := by rw [hM]; exact hg.wf.past
    have hlast : lastG M s.act.loc = some e := by
      rw [lastG_plain, if_pos ⟨hl.1, by rw [hpl]; exact hl.2⟩, hM, hpe, List.getLast?_append]; rfl
    unfold wkB at hw
    rw [hlast] at hw
    unfold wkO at hw
    have hw : (isPl s.act.kind && (decide (cmpQ' s.when e.when < 0) || (decide (s.act.kind = 1) && !decide (cmpQ' s.when e.when = 0)))) = false := hw
    rw [hp, Bool.true_and, Bool.or_eq_false_iff] at hw
    refine ⟨by simpa using hw.1, fun h1 => ?_⟩
    have := hw.2
    rw [decide_eq_true h1, Bool.true_and] at this
    simpa using this
  have hcase : s.act.kind = 1 ∨ s.act.kind = 2 ∨ s.act.kind = 3 ∨ s.act.kind = 4 ∨ s.act.kind = 5 ∨ s.act.kind = 6 := by omega
  rcases hcase with h1 | h2 | h3 | h4 | h5 | h6
  · -- Read
    have hp : isPl s.act.kind = true := by rw [h1]; rfl
    obtain ⟨hx, ha⟩ := plain_loc he hp
    obtain ⟨P, e, hpe⟩ := hF _ hx ha
    have hc := (wk hp P e hpe).2 h1
    obtain ⟨hb, -, hv⟩ := ht.read h1
    have hpo : pastOf m s = P ++ [e] := hpe
    rw [hpo] at hb hv
    have hr := pa_rising hg hx
    rw [hpe] at hr
    have hat := (bsHas_of hr (ht.when hp) (k := P.length) (by simp) (by rw [getD_last, cmpQ_anti]; omega)).2
    rw [hat, getD_last] at hv
    obtain ⟨e1, e2⟩ := same (.inl h1)
    refine ⟨errOK fun _ => ?_, ?_, e2⟩
    · rw [latest_get hx, lateV_plain ha hpe, hv]
    · rw [e1]; exact noW (by unfold ActG.isW; rw [h1]; rfl)
  · -- Write
    have hp : isPl s.act.kind = true := by rw [h2]; rfl
    obtain ⟨hx, ha⟩ := plain_loc he hp
    obtain ⟨P, e, hpe⟩ := hF _ hx ha
    have hc := (wk hp P e hpe).1
    have hwr := ht.when hp
    obtain ⟨hb, -⟩ := ht.write h2
    have hr := pa_rising hg hx
    have hpo : pastOf m s = paAt m s.act.loc.toNat := rfl
    rw [hpo] at hb
    have hne := bsHas_false hr hwr hb (k := P.length) (by rw [hpe]; simp)
    have hr2 := hr
    rw [hpe] at hr2
    have her : rightQ e.when = true := by have := hr2.get (i := P.length) (by simp); rwa [getD_last] at this
    rw [hpe, getD_last] at hne
    have hlt : cmpQ' e.when s.when < 0 := by have := cmpQ_anti s.when e.when; omega
    have hall := top_lt hpe hr hwr hlt
    have hnew : paAt (doMem m s) s.act.loc.toNat = paAt m s.act.loc.toNat ++ [⟨leastQ s.when, s.act.new⟩] := by
      rw [pa_write hg he h2 rfl, bs_end hr hwr hall, insG_end]
    have hv : (doMem m s).vals = m.vals := by unfold doMem; rw [if_pos h2]
    refine ⟨errOK fun h => ?_, ?_, fun x hx2 ha2 => ?_⟩
    · exfalso; unfold ActG.isR at h; rw [h2] at h; exact absurd h (by decide)
    · unfold seqDo
      rw [if_pos (by unfold ActG.isW; rw [h2]; rfl)]
      apply List.ext_getElem
      · rw [List.length_set, latest_len, latest_len, hlocs]
      · intro x hx1 hx2
        rw [List.getElem_set]
        split
        · rename_i ex
          subst ex
          have hxm : s.act.loc.toNat < (doMem m s).locs.length := by rw [hlocs]; exact hx
          have := latest_get hxm
          rw [Z4q hx2] at this
          rw [this, lateV_plain (by rw [hlocs]; exact ha) hnew]
        · rename_i ex
          rw [late_elem, late_elem]
          unfold lateV
          rw [hlocs, hv, pa_same (fun e => ex e.2)]
    · rw [hlocs] at hx2 ha2
      by_cases ex : s.act.loc.toNat = x
      · subst ex; rw [hnew]; simp
      · rw [pa_same (fun e => ex e.2)]; exact hf x hx2 ha2
  · -- Get
    have hat : isAt s.act.kind = true := by rw [h3]; rfl
    obtain ⟨hx, ha⟩ := take_at he hat
    obtain ⟨e1, e2⟩ := same (.inr (.inl h3))
    refine ⟨errOK fun _ => ?_, ?_, e2⟩
    · rw [latest_get hx, lateV_atom ha]; exact take_val he hat (by omega)
    · rw [e1]; exact noW (by unfold ActG.isW; rw [h3]; rfl)
  all_goals try (
    have hat : isAt s.act.kind = true := by first | (rw [h4]; rfl) | (rw [h5]; rfl)
    obtain ⟨hx, ha⟩ := take_at he hat
    have hp : ∀ x, paAt (doMem m s) x = paAt m x := fun x => pa_same (fun e => by omega)
    have hv : (doMem m s).vals = m.vals.set s.act.loc.toNat s.act.new := by
      unfold doMem
      rw [if_neg (by omega), if_pos hat]
      simp only [if_neg (show ¬ s.act.kind = 3 by omega)]
    refine ⟨errOK fun h => ?_, ?_, fun x hx ha => by rw [hp]; rw [hlocs] at hx ha; exact hf x hx ha⟩
    · rw [latest_get hx, lateV_atom ha]
      refine take_val he hat fun e => ?_
      unfold ActG.isR at h; rw [e] at h; exact absurd h (by decide)
    · unfold seqDo
      rw [if_pos (by unfold ActG.isW; first | (rw [h4]; rfl) | (rw [h5]; rfl))]
      apply List.ext_getElem
      · rw [List.length_set, latest_len, latest_len, hlocs]
      · intro x hx1 hx2
        have hxl : x < m.locs.length := by rw [latest_len, hlocs] at hx2; exact hx2
        rw [List.getElem_set]
        rw [late_elem, late_elem]
        unfold lateV
        rw [hlocs, hv, hp, getD_setQ]
        split
        · rename_i ex
          subst ex
          rw [if_pos ha, if_pos ⟨rfl, by rw [hg.wf.vals]; exact hx⟩]
        · rename_i ex
          rw [if_neg (show ¬ (s.act.loc.toNat = x ∧ x < m.vals.length) from fun h => ex h.1)])
  · -- Sync
    obtain ⟨e1, e2⟩ := same (.inr (.inr h6))
    refine ⟨errOK fun h => ?_, ?_, e2⟩
    · exfalso; unfold ActG.isR at h; rw [h6] at h; exact absurd h (by decide)
    · rw [e1]; exact noW (by unfold ActG.isW; rw [h6]; rfl)
theorem new_full {l : List LocG} {t : Int} (h : newErr l t = 0) : (newM l t).plain.Full := fun x hx ha => by
  rw [new_locs h] at hx ha
  rw [new_past h hx ha]; simp
theorem new_late {l : List LocG} {t : Int} (h : newErr l t = 0) : latest (newM l t).plain = l.map LocG.init := by
  have hl := new_locs h
  apply List.ext_getElem
  · rw [latest_len, hl, List.length_map]
  · intro x h1 h2
    have hx : x < l.length := by simpa using h2
    rw [late_elem, List.getElem_map]
    unfold lateV
    rw [hl]
    cases ha : (l.getD x default).atom with
    | true =>
      rw [if_pos rfl]
      have : (newM l t).plain.vals = l.map valX := by unfold newM; rw [if_pos h]; rfl
      rw [this, List.getD_eq_getElem?_getD, List.getElem?_map, List.getElem?_eq_getElem hx]
      rw [Z4q hx] at ha
      show valX l[x] = _
      unfold valX; rw [if_pos ha]
    | false =>
      rw [if_neg (by decide), new_past h hx ha, Z4q hx]; rfl
theorem late_run {l : List LocG} {t : Int} {ss : List StepG} (he : playErr l t ss = 0) (hw : ∀ i, i < ss.length → (weakL l t ss).getD i default = false) : (seqRun l (ss.map (·.act))).2 = (ss.length, 0) := by
  obtain ⟨hne, -⟩ := playErr_new he
  have hrun := run_of he
  have hwk : ∀ i, i < ss.length → wkB (goM (newM l t) ss i) (stepAt ss i) = false := fun i hi => by
    have := hw i hi
    unfold weakL at this
    rw [if_pos he, Z4q (by simpa using hi)] at this
    simp only [List.getElem_map, List.getElem_range] at this
    exact this
  have hfull : ∀ i, i ≤ ss.length → (memAt l t ss i).Full := fun i => by
    induction i with
    | zero => intro _; exact new_full hne
    | succ i ih =>
      intro hi
      rw [hrun.next i (by omega)]
      exact (late_step (hrun.good i (by omega)) (hrun.ok i (by omega)) (ih (by omega)) (M := goM (newM l t) ss i) rfl (hwk i (by omega))).2.2
  have key : ∀ k i, i + k = ss.length → (seqGo l (latest (memAt l t ss i)) ((ss.map (·.act)).drop i)).2 = (k, 0) := by
    intro k
    induction k with
    | zero =>
      intro i hi
      rw [List.drop_of_length_le (by simp; omega)]; rfl
    | succ k ih =>
      intro i hi
      have hlt : i < ss.length := by omega
      have hst := late_step (hrun.good i (by omega)) (hrun.ok i hlt) (hfull i (by omega)) (M := goM (newM l t) ss i) rfl (hwk i hlt)
      rw [run_locs he (by omega), ← hrun.next i hlt] at hst
      have hd : (ss.map (·.act)).drop i = (stepAt ss i).act :: (ss.map (·.act)).drop (i + 1) := by
        rw [List.drop_eq_getElem_cons (by simpa using hlt)]
        unfold stepAt
        rw [Z4q hlt, List.getElem_map]
      rw [hd]
      simp only [seqGo]
      rw [if_pos hst.1, hst.2.1]
      have := ih (i + 1) (by omega)
      show (_, _) = _
      rw [show (seqGo l (latest (memAt l t ss (i + 1))) (List.drop (i + 1) (List.map (fun x => x.act) ss))).2.1 = k from by rw [this], show (seqGo l (latest (memAt l t ss (i + 1))) (List.drop (i + 1) (List.map (fun x => x.act) ss))).2.2 = 0 from by rw [this]]
  have := key ss.length 0 (by omega)
  rw [List.drop_zero] at this
  unfold seqRun
  rw [← new_late hne]
  exact this
def actsN (ss : List StepG) (i : Nat) : List ActG := (List.range i).map fun j => (ss.getD j default).act
theorem actsN_len {ss : List StepG} {i : Nat} : (actsN ss i).length = i := by simp [actsN]
theorem actsN_take {ss : List StepG} {i : Nat} : List.take i (actsN ss i) = actsN ss i := List.take_of_length_le (by rw [actsN_len]; omega)
theorem actsN_succ {ss : List StepG} {i : Nat} : actsN ss (i + 1) = actsN ss i ++ [(ss.getD i default).act] := by unfold actsN; rw [List.range_succ, List.map_append]; rfl
theorem actsN_all {ss : List StepG} : actsN ss ss.length = ss.map (·.act) := by
  apply List.ext_getElem
  · simp [actsN]
  · intro i h1 h2
    have : i < ss.length := by simpa using h2
    simp only [actsN, List.getElem_map, List.getElem_range]
    exact congrArg StepG.act (Z4q this)
theorem at_seq_Run0 (l : List LocG) (f g : Bool) : sp_seq_Run.at [.d (.list (l.map LocG.row) f), .d (.list [] g)] =
    .data (l.length ≤ 1048576 ∧ 0 ≤ 1048576) (.tup [.d (.list ((l.map LocG.init).map rowI) false), .d (.int .i64 0), .d (.int .i64 0)]) false := at_seq_Run l f [] g
def laSt (ss : List StepG) (l : List LocG) (f g : Bool) (W : List Bool) : Nat → State
  | 0 => ⟨[(0, .d (.list (l.map LocG.row) f)), (2, .d (.list (ss.map StepG.row) g)), (7, .d (.list (W.map rowB) false)), (9, .d (.list [] true)), (10, .d (.int .i64 0))], []⟩
  | i + 1 => ⟨[(0, .d (.list (l.map LocG.row) f)), (2, .d (.list (ss.map StepG.row) g)), (7, .d (.list (W.map rowB) false)), (9, .ref 0 4 0 (i + 1) true), (10, .d (.int .i64 ((i + 1 : Nat) : Int)))], [.dvec 4 ((actsN ss (i + 1)).map ActG.row)]⟩
set_option maxHeartbeats 4000000 in
theorem law_RaceLatest {T : Tab} {n1 n2 n3 : Nat} (k1 : Knows T n1 sp_true) (k2 : Knows T n2 sp_Weak) (k3 : Knows T n3 sp_seq_Run) (l : List LocG) (f : Bool) (t : Int) (ss : List StepG) (g : Bool) (hl : l.length ≤ maxLen) (hs : ss.length ≤ maxLen) :
    Holds T V_law22_RaceLatest (L_law22_RaceLatest n1 n2 n3) R_law22_RaceLatest [.d (.list (l.map LocG.row) f), .d (.int .i64 t), .d (.list (ss.map StepG.row) g)] := by
  have F1 := k1.F; have G1 := k1.G; have F2 := k2.F; have G2 := k2.G; have F3 := k3.F; have G3 := k3.G
  unfold V_law22_RaceLatest L_law22_RaceLatest R_law22_RaceLatest
  simp (maxSteps := 3000000) only [↓Z29, ↓Z33, ↓Z26, ↓Z0x, ↓Z28, ↓Z1x, Z3t, Z3u, ↓Z34, ↓Z25, ↓Z1d, ↓Z27, ↓Z24, ↓Z30, ↓Z32, ↓Z31, ↓Z1k, ↓Z1n, ↓Z1l, ↓Z1m, ↓Z2z, ↓Z3x, ↓Z3w, ↓Z2w, ↓Z2y, ↓Z2x, ↓Z3n, ↓Z3p, ↓Z3o, ↓Z0i, ↓Z08, ↓Z14, ↓Z13, ↓Z12, Z4h, Z0y, Z0z, Z3j, Z10, Z3v, evN, Z2j, Z2o, Z3q, Z3r, Z2m, Z1h, Z2k, Z23, Z1q, Z1p, Z15, Z2l, evT, Opd.ev, Z0e, Z06, Z3l, Z3k, Z3m, Z1j, Z11, Z2u, Z2t, Z2s, Z2a, Z1z, Z41, LOp.isNew, State.prune, Z3a, Z35, AV.leaf, Heap.at, Z0r, Z09, Z04, Z0c, Z01, Z4g, Z4j, Z2r, Z2q, Z2p, Z1r, Z16, Z03, Z0a, Z02, Z00, Z1v, rowI, rowU, RatG.row, LocG.row, ActG.row, StepG.row, StampG.row, ActG.av, ActG.eta, RatG.eta, LocG.eta, beq_true, beq_false, Z1w, Z22, Z2d, Z1i, Z2b, Z1y, Z2c, Z0w, Z0h, Z0u, Z0v, Z0g, Z0f, Z07, List.length_set, List.length_replicate, Int.toNat_natCast, Int.reduceToNat, Z4f, Z1g, Z3z, Src.all, Src.len, Src.leaf, Src.leafN, Z2h, Z3f, Z45, Z0j, Z0k, Z0l, Z0m, Z0n, Z0o, Z0p, Z0q, Z42, drows, evMk, List.length_map, Z1e, Z1o, List.take_length, List.take_left, List.length_append, Nat.le_add_right, ite_self, List.take_of_length_le, Z39, Z49, Z3y, Option.isSome_none, Option.isSome_some, Nat.sub_zero, Z47, Z4a, Z4e, evUn, binT, binQ, chk, Z3b, List.contains_cons, List.contains_nil, Bool.or_false, Bool.false_or, Bool.and_self, resQ, resV, resT, Z4c, Z2i, Z3i, Z3h, fnOf, Z3c, isD, HO.drow, Z48, Z3d, evEq, eqV, eqK, eqC1, Z3g, Z3e, Z2g, Z2e, Z3s, Z2v, Z40, Z38, Z1u, Z19, Z1t, Z18, Z1s, Z17, Z1a, Z0s, Z0t, Z0b, List.mem_cons, List.not_mem_nil, or_false, forall_eq, putRow, Z36, Z2n, RetS, RetF, RetD, AV.frz, AV.frzL, AV.freshP, AV.freshL, DV.less, Z20, Z1b, Z21, Z1c, Z1f, Z0d, Z05, Option.some.injEq, AV.tup.injEq, AV.agg.injEq, List.cons.injEq, DV.list.injEq, List.isEmpty_nil, Nat.le_refl, AV.d.injEq, DV.int.injEq, DV.bool.injEq, ↓reduceIte, Nat.reduceEqDiff, Nat.reduceAdd, Nat.reduceBEq, List.length_cons, List.length_nil, List.replicate_succ, List.replicate_zero, List.nil_append, List.cons_append, List.append_nil, List.foldl_cons, List.foldl_nil, List.map_cons, List.map_nil, List.all_cons, List.all_nil, List.set_cons_zero, List.set_cons_succ, List.getD_cons_zero, List.getD_cons_succ, List.drop_zero, List.drop_succ_cons, List.take_succ_cons, List.take_zero, List.flatten_cons, List.flatten_nil, Bool.true_and, Bool.and_true, Bool.not_true, Bool.not_false, true_and, and_true, true_or, or_true, Option.bind_some, Option.map_some, decide_true, decide_false, beq_self_eq_true, true_implies, false_implies, implies_true, not_true_eq_false, not_false_eq_true, and_self, Bool.and_false, Bool.false_and, Nat.reduceLT, Nat.reduceLeDiff, List.reverse_cons, List.reverse_nil, Nat.zero_add, Nat.add_zero, Bool.false_eq_true, List.getElem?_cons_zero, F1, G1, F2, G2, F3, G3, at_true, at_Weak, at_seq_Run, Z04, Z02]
  have hm : maxLen = 9223372036854775807 := rfl
  refine fun _ => ⟨⟨hl, hs⟩, fun he => ?_, fun he => by unfold weakL; rw [if_neg he]; rfl⟩
  have hn := playErr_len he
  have hwl := weakL_len he
  have hrun : (∀ i, i < ss.length → (weakL l t ss).getD i default = false) → (seqRun l (ss.map (·.act))).2 = (ss.length, 0) := late_run he
  have hl16 : l.length ≤ 16 := by
    have := (playErr_new he).1
    unfold newErr at this
    split at this
    · cases this
    · omega
  generalize weakL l t ss = W at *
  refine Loop.fam [0, 2, 7, 9, 10] (laSt ss l f g W) (fun i => i ≤ ss.length ∧ ∀ j, j < i → W.getD j default = false) (fun i => ss.length - i) 0 [] (by simp) (by simp) (by simp only [State.can, AV.can, AV.canL, HO.can, Z37, idx, Z0e, Z06, Heap.at, Nat.reduceBEq, ↓reduceIte, Nat.reduceEqDiff, Option.getD_some, Option.map_some, List.map_cons, List.map_nil, List.getD_cons_zero, List.getD_cons_succ, laSt]) ⟨Nat.zero_le _, fun j hj => absurd hj (by omega)⟩ ?_
  rintro i ⟨hi, hj⟩
  have hi : i ≤ ss.length := hi
  have hjn : ∀ {n : Nat}, n = i → W.getD n default = false → ∀ j, j < n + 1 → W.getD j default = false := fun {n} e h j hj2 => by
    subst e
    by_cases e2 : j = n
    · subst e2; exact h
    · exact hj j (by omega)
  have hend : i = ss.length → (seqRun l (actsN ss i)).2 = (ss.length, 0) := fun e => by
    subst e
    rw [actsN_all]
    exact hrun (fun j hj2 => hj j hj2)
  rcases i with _ | n
  case' zero =>
    simp (maxSteps := 3000000) only [↓Z29, ↓Z33, ↓Z26, ↓Z0x, ↓Z28, ↓Z1x, Z3t, Z3u, ↓Z34, ↓Z25, ↓Z1d, ↓Z27, ↓Z24, ↓Z30, ↓Z32, ↓Z31, ↓Z1k, ↓Z1n, ↓Z1l, ↓Z1m, ↓Z2z, ↓Z3x, ↓Z3w, ↓Z2w, ↓Z2y, ↓Z2x, ↓Z3n, ↓Z3p, ↓Z3o, ↓Z0i, ↓Z08, ↓Z14, ↓Z13, ↓Z12, Z4h, Z0y, Z0z, Z3j, Z10, Z3v, evN, Z2j, Z2o, Z3q, Z3r, Z2m, Z1h, Z2k, Z23, Z1q, Z1p, Z15, Z2l, evT, Opd.ev, Z0e, Z06, Z3l, Z3k, Z3m, Z1j, Z11, Z2u, Z2t, Z2s, Z2a, Z1z, Z41, LOp.isNew, State.prune, Z3a, Z35, AV.leaf, Heap.at, Z0r, Z09, Z04, Z0c, Z01, Z4g, Z4j, Z2r, Z2q, Z2p, Z1r, Z16, Z03, Z0a, Z02, Z00, Z1v, rowI, rowU, RatG.row, LocG.row, ActG.row, StepG.row, StampG.row, ActG.av, ActG.eta, RatG.eta, LocG.eta, beq_true, beq_false, Z1w, Z22, Z2d, Z1i, Z2b, Z1y, Z2c, Z0w, Z0h, Z0u, Z0v, Z0g, Z0f, Z07, List.length_set, List.length_replicate, Int.toNat_natCast, Int.reduceToNat, Z4f, Z1g, Z3z, Src.all, Src.len, Src.leaf, Src.leafN, Z2h, Z3f, Z45, Z0j, Z0k, Z0l, Z0m, Z0n, Z0o, Z0p, Z0q, Z42, drows, evMk, List.length_map, Z1e, Z1o, List.take_length, List.take_left, List.length_append, Nat.le_add_right, ite_self, List.take_of_length_le, Z39, Z49, Z3y, Option.isSome_none, Option.isSome_some, Nat.sub_zero, Z47, Z4a, Z4e, evUn, binT, binQ, chk, Z3b, List.contains_cons, List.contains_nil, Bool.or_false, Bool.false_or, Bool.and_self, resQ, resV, resT, Z4c, Z2i, Z3i, Z3h, fnOf, Z3c, isD, HO.drow, Z48, Z3d, evEq, eqV, eqK, eqC1, Z3g, Z3e, Z2g, Z2e, Z3s, Z2v, Z40, Z38, Z1u, Z19, Z1t, Z18, Z1s, Z17, Z1a, Z0s, Z0t, Z0b, List.mem_cons, List.not_mem_nil, or_false, forall_eq, putRow, Z36, Z2n, RetS, RetF, RetD, AV.frz, AV.frzL, AV.freshP, AV.freshL, DV.less, Z20, Z1b, Z21, Z1c, Z1f, Z0d, Z05, Option.some.injEq, AV.tup.injEq, AV.agg.injEq, List.cons.injEq, DV.list.injEq, List.isEmpty_nil, Nat.le_refl, AV.d.injEq, DV.int.injEq, DV.bool.injEq, ↓reduceIte, Nat.reduceEqDiff, Nat.reduceAdd, Nat.reduceBEq, List.length_cons, List.length_nil, List.replicate_succ, List.replicate_zero, List.nil_append, List.cons_append, List.append_nil, List.foldl_cons, List.foldl_nil, List.map_cons, List.map_nil, List.all_cons, List.all_nil, List.set_cons_zero, List.set_cons_succ, List.getD_cons_zero, List.getD_cons_succ, List.drop_zero, List.drop_succ_cons, List.take_succ_cons, List.take_zero, List.flatten_cons, List.flatten_nil, Bool.true_and, Bool.and_true, Bool.not_true, Bool.not_false, true_and, and_true, true_or, or_true, Option.bind_some, Option.map_some, decide_true, decide_false, beq_self_eq_true, true_implies, false_implies, implies_true, not_true_eq_false, not_false_eq_true, and_self, Bool.and_false, Bool.false_and, Nat.reduceLT, Nat.reduceLeDiff, List.reverse_cons, List.reverse_nil, Nat.zero_add, Nat.add_zero, Bool.false_eq_true, List.getElem?_cons_zero, laSt, F1, G1, F2, G2, F3, G3, at_seq_Run0, idx_B, rowB, Z04, Z02]
    refine ⟨fun c => ⟨⟨by omega, by omega⟩, fun _ => trivial, fun h => ⟨⟨by omega, by omega⟩, Z4d (by decide) (by decide), ?_⟩⟩, fun c => ?_⟩
  case' succ =>
    simp (maxSteps := 3000000) only [↓Z29, ↓Z33, ↓Z26, ↓Z0x, ↓Z28, ↓Z1x, Z3t, Z3u, ↓Z34, ↓Z25, ↓Z1d, ↓Z27, ↓Z24, ↓Z30, ↓Z32, ↓Z31, ↓Z1k, ↓Z1n, ↓Z1l, ↓Z1m, ↓Z2z, ↓Z3x, ↓Z3w, ↓Z2w, ↓Z2y, ↓Z2x, ↓Z3n, ↓Z3p, ↓Z3o, ↓Z0i, ↓Z08, ↓Z14, ↓Z13, ↓Z12, Z4h, Z0y, Z0z, Z3j, Z10, Z3v, evN, Z2j, Z2o, Z3q, Z3r, Z2m, Z1h, Z2k, Z23, Z1q, Z1p, Z15, Z2l, evT, Opd.ev, Z0e, Z06, Z3l, Z3k, Z3m, Z1j, Z11, Z2u, Z2t, Z2s, Z2a, Z1z, Z41, LOp.isNew, State.prune, Z3a, Z35, AV.leaf, Heap.at, Z0r, Z09, Z04, Z0c, Z01, Z4g, Z4j, Z2r, Z2q, Z2p, Z1r, Z16, Z03, Z0a, Z02, Z00, Z1v, rowI, rowU, RatG.row, LocG.row, ActG.row, StepG.row, StampG.row, ActG.av, ActG.eta, RatG.eta, LocG.eta, beq_true, beq_false, Z1w, Z22, Z2d, Z1i, Z2b, Z1y, Z2c, Z0w, Z0h, Z0u, Z0v, Z0g, Z0f, Z07, List.length_set, List.length_replicate, Int.toNat_natCast, Int.reduceToNat, Z4f, Z1g, Z3z, Src.all, Src.len, Src.leaf, Src.leafN, Z2h, Z3f, Z45, Z0j, Z0k, Z0l, Z0m, Z0n, Z0o, Z0p, Z0q, Z42, drows, evMk, List.length_map, Z1e, Z1o, List.take_length, List.take_left, List.length_append, Nat.le_add_right, ite_self, List.take_of_length_le, Z39, Z49, Z3y, Option.isSome_none, Option.isSome_some, Nat.sub_zero, Z47, Z4a, Z4e, evUn, binT, binQ, chk, Z3b, List.contains_cons, List.contains_nil, Bool.or_false, Bool.false_or, Bool.and_self, resQ, resV, resT, Z4c, Z2i, Z3i, Z3h, fnOf, Z3c, isD, HO.drow, Z48, Z3d, evEq, eqV, eqK, eqC1, Z3g, Z3e, Z2g, Z2e, Z3s, Z2v, Z40, Z38, Z1u, Z19, Z1t, Z18, Z1s, Z17, Z1a, Z0s, Z0t, Z0b, List.mem_cons, List.not_mem_nil, or_false, forall_eq, putRow, Z36, Z2n, RetS, RetF, RetD, AV.frz, AV.frzL, AV.freshP, AV.freshL, DV.less, Z20, Z1b, Z21, Z1c, Z1f, Z0d, Z05, Option.some.injEq, AV.tup.injEq, AV.agg.injEq, List.cons.injEq, DV.list.injEq, List.isEmpty_nil, Nat.le_refl, AV.d.injEq, DV.int.injEq, DV.bool.injEq, ↓reduceIte, Nat.reduceEqDiff, Nat.reduceAdd, Nat.reduceBEq, List.length_cons, List.length_nil, List.replicate_succ, List.replicate_zero, List.nil_append, List.cons_append, List.append_nil, List.foldl_cons, List.foldl_nil, List.map_cons, List.map_nil, List.all_cons, List.all_nil, List.set_cons_zero, List.set_cons_succ, List.getD_cons_zero, List.getD_cons_succ, List.drop_zero, List.drop_succ_cons, List.take_succ_cons, List.take_zero, List.flatten_cons, List.flatten_nil, Bool.true_and, Bool.and_true, Bool.not_true, Bool.not_false, true_and, and_true, true_or, or_true, Option.bind_some, Option.map_some, decide_true, decide_false, beq_self_eq_true, true_implies, false_implies, implies_true, not_true_eq_false, not_false_eq_true, and_self, Bool.and_false, Bool.false_and, Nat.reduceLT, Nat.reduceLeDiff, List.reverse_cons, List.reverse_nil, Nat.zero_add, Nat.add_zero, Bool.false_eq_true, List.getElem?_cons_zero, laSt, F1, G1, F2, G2, F3, G3, at_seq_Run, idx_B, rowB, Z04, Z02, actsN_len, actsN_take]
    refine ⟨fun c => ⟨⟨by omega, by omega⟩, fun _ => trivial, fun h => ⟨⟨by omega, by omega⟩, Z4d (by omega) (by decide), ?_⟩⟩, fun c => ⟨⟨by omega, by omega⟩, ?_⟩⟩
  case zero.refine_1 =>
    exact Z2f.mk [1] 1 (by simp) (by simp) (by simp only [State.can, AV.can, AV.canL, HO.can, Z37, idx, Z0e, Z06, Heap.at, Nat.reduceBEq, ↓reduceIte, Nat.reduceEqDiff, Option.getD_some, Option.map_some, List.map_cons, List.map_nil, List.getD_cons_zero, List.getD_cons_succ, laSt]; rfl) ⟨by show 1 ≤ _; omega, hjn rfl h⟩ (by show _ - 1 < _; omega)
  case succ.refine_1 =>
    exact Z2f.mk [2] (n + 2) (by simp) (by simp) (by simp only [State.can, AV.can, AV.canL, HO.can, Z37, idx, Z0e, Z06, Heap.at, Nat.reduceBEq, ↓reduceIte, Nat.reduceEqDiff, Option.getD_some, Option.map_some, List.map_cons, List.map_nil, List.getD_cons_zero, List.getD_cons_succ, laSt, Z44 (show n + 1 < ss.length by omega) (by omega), actsN_succ]) ⟨by show n + 2 ≤ _; omega, hjn rfl h⟩ (by show _ - (n + 2) < _ - (n + 1); omega)
  case succ.refine_2 =>
    have h := hend (by omega)
    rw [h]
    exact ⟨fun _ => by simp, fun h2 => h2 rfl⟩
  case zero.refine_2 =>
    exact ⟨by omega, decide_eq_true (by omega)⟩
end Go.Ago
