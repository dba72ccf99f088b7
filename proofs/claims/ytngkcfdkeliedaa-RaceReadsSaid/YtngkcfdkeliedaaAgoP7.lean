/- Package race: runs that are played, and their order. Conditions: none. -/
import Derived.Test.YtngkcfdkeliedaaAgoP6
import Derived.Test.YtngkcfdkeliedaaAgoP4
set_option maxRecDepth 100000
set_option linter.unusedSimpArgs false
set_option linter.unusedVariables false
namespace Go.Ago
/-! ### plain, atomic -/
def sp_rplain : Sp := ⟨ActG, fun a => [a.av], fun a => .data True (.d (.bool (isPl a.kind))) true⟩
theorem at_rplain (k o q v : Int) : sp_rplain.at [.agg [.d (.int .i64 k), .d (.int .i64 o), .d (.int .i64 q), .d (.int .i64 v)]] = .data True (.d (.bool (isPl k))) true :=
  Sp.at_enc (s := sp_rplain) (fun x y h => by
    obtain ⟨k, o, q, v⟩ := x; obtain ⟨k', o', q', v'⟩ := y
    simp only [sp_rplain, ActG.av, List.cons.injEq, AV.agg.injEq, AV.d.injEq, DV.int.injEq, and_true, true_and] at h
    obtain ⟨h1, h2, h3, h4⟩ := h
    rw [h1, h2, h3, h4]) ⟨k, o, q, v⟩
theorem body_race_plain {T : Tab} : sp_rplain.Body T V_race_plain L_race_plain R_race_plain := by
  rintro ⟨k, o, q, v⟩ -
  refine .inl ⟨rfl, ?_⟩
  unfold V_race_plain L_race_plain R_race_plain
  simp (maxSteps := 3000000) only [↓Z28, ↓Z34, ↓Z25, ↓Z0x, ↓Z27, ↓Z1x, Z3t, Z3u, ↓Z35, ↓Z24, ↓Z1e, ↓Z26, ↓Z23, ↓Z31, ↓Z33, ↓Z32, ↓Z1l, ↓Z1o, ↓Z1m, ↓Z1n, ↓Z30, ↓Z3x, ↓Z3w, ↓Z2x, ↓Z2z, ↓Z2y, ↓Z3n, ↓Z3p, ↓Z3o, ↓Z0i, ↓Z08, ↓Z15, ↓Z14, ↓Z13, Z4h, Z0z, Z10, Z3j, Z11, Z3v, evN, Z2k, Z2p, Z3q, Z3r, Z2n, Z1i, Z2l, Z22, Z1q, Z1p, Z16, Z2m, evT, Opd.ev, Z0e, Z05, Z3l, Z3k, Z3m, Z1k, Z12, Z2v, Z2u, Z2t, Z2a, Z29, Z42, LOp.isNew, State.prune, Z3a, Z36, AV.leaf, Heap.at, Z0r, Z09, Z04, Z0c, Z02, Z4g, Z4l, Z2s, Z2r, Z2q, Z1r, Z17, Z03, Z0a, Z01, Z00, Z1v, rowI, rowU, RatG.row, LocG.row, ActG.row, StepG.row, StampG.row, ActG.av, ActG.eta, RatG.eta, LocG.eta, beq_true, beq_false, Z1w, Z21, Z2d, Z1j, Z2b, Z1y, Z2c, Z0w, Z0h, Z0u, Z0v, Z0g, Z0f, Z07, List.length_set, List.length_replicate, Int.toNat_natCast, Int.reduceToNat, Z4f, Z1h, Z40, Src.all, Src.len, Src.leaf, Src.leafN, Z2h, Z3f, Z45, Z0j, Z0k, Z0l, Z0m, Z0n, Z0o, Z0p, Z0q, Z43, drows, evMk, List.length_map, Z0y, Z1f, List.take_length, List.take_left, List.length_append, Nat.le_add_right, ite_self, List.take_of_length_le, Z38, Z48, Z3y, Option.isSome_none, Option.isSome_some, Nat.sub_zero, Z46, Z4b, Z4e, evUn, binT, binQ, chk, Z3b, List.contains_cons, List.contains_nil, Bool.or_false, Bool.false_or, Bool.and_self, resQ, resV, resT, Z4c, Z2i, Z3i, Z3h, fnOf, Z3c, isD, HO.drow, Z4a, Z3d, evEq, eqV, eqK, eqC1, Z3g, Z3e, Z2g, Z2f, Z3s, Z2w, Z41, Z39, Z1u, Z1a, Z1t, Z19, Z1s, Z18, Z1b, Z0s, Z0t, Z0b, List.mem_cons, List.not_mem_nil, or_false, forall_eq, putRow, Z37, Z2o, RetS, RetF, RetD, AV.frz, AV.frzL, AV.freshP, AV.freshL, DV.less, Z1z, Z1c, Z20, Z1d, Z1g, Z0d, Z06, Option.some.injEq, AV.tup.injEq, AV.agg.injEq, List.cons.injEq, DV.list.injEq, List.isEmpty_nil, Nat.le_refl, AV.d.injEq, DV.int.injEq, DV.bool.injEq, ↓reduceIte, Nat.reduceEqDiff, Nat.reduceAdd, Nat.reduceBEq, List.length_cons, List.length_nil, List.replicate_succ, List.replicate_zero, List.nil_append, List.cons_append, List.append_nil, List.foldl_cons, List.foldl_nil, List.map_cons, List.map_nil, List.all_cons, List.all_nil, List.set_cons_zero, List.set_cons_succ, List.getD_cons_zero, List.getD_cons_succ, List.drop_zero, List.drop_succ_cons, List.take_succ_cons, List.take_zero, List.flatten_cons, List.flatten_nil, Bool.true_and, Bool.and_true, Bool.not_true, Bool.not_false, true_and, and_true, true_or, or_true, Option.bind_some, Option.map_some, decide_true, decide_false, beq_self_eq_true, true_implies, false_implies, implies_true, not_true_eq_false, not_false_eq_true, and_self, Bool.and_false, Bool.false_and, Nat.reduceLT, Nat.reduceLeDiff, List.reverse_cons, List.reverse_nil, Nat.zero_add, Nat.add_zero, Bool.false_eq_true, List.getElem?_cons_zero, sp_rplain, ActG.av, Z04]
  refine ⟨fun h => ?_, fun h => ?_⟩
  · rw [isPl_iff.2 (.inl h)]
  · unfold isPl; rw [decide_eq_false h]; rfl
def isSet (k : Int) : Bool := decide (k = 4) || decide (k = 5)
def sp_ratomic : Sp := ⟨ActG, fun a => [a.av], fun a => .data True (.tup [.d (.bool (isAt a.kind)), .d (.bool (isSet a.kind))]) true⟩
theorem at_ratomic (k o q v : Int) : sp_ratomic.at [.agg [.d (.int .i64 k), .d (.int .i64 o), .d (.int .i64 q), .d (.int .i64 v)]] = .data True (.tup [.d (.bool (isAt k)), .d (.bool (isSet k))]) true :=
  Sp.at_enc (s := sp_ratomic) (fun x y h => by
    obtain ⟨k, o, q, v⟩ := x; obtain ⟨k', o', q', v'⟩ := y
    simp only [sp_ratomic, ActG.av, List.cons.injEq, AV.agg.injEq, AV.d.injEq, DV.int.injEq, and_true, true_and] at h
    obtain ⟨h1, h2, h3, h4⟩ := h
    rw [h1, h2, h3, h4]) ⟨k, o, q, v⟩
theorem body_race_atomic {T : Tab} : sp_ratomic.Body T V_race_atomic L_race_atomic R_race_atomic := by
  rintro ⟨k, o, q, v⟩ -
  refine .inl ⟨rfl, ?_⟩
  unfold V_race_atomic L_race_atomic R_race_atomic
  simp (maxSteps := 3000000) only [↓Z28, ↓Z34, ↓Z25, ↓Z0x, ↓Z27, ↓Z1x, Z3t, Z3u, ↓Z35, ↓Z24, ↓Z1e, ↓Z26, ↓Z23, ↓Z31, ↓Z33, ↓Z32, ↓Z1l, ↓Z1o, ↓Z1m, ↓Z1n, ↓Z30, ↓Z3x, ↓Z3w, ↓Z2x, ↓Z2z, ↓Z2y, ↓Z3n, ↓Z3p, ↓Z3o, ↓Z0i, ↓Z08, ↓Z15, ↓Z14, ↓Z13, Z4h, Z0z, Z10, Z3j, Z11, Z3v, evN, Z2k, Z2p, Z3q, Z3r, Z2n, Z1i, Z2l, Z22, Z1q, Z1p, Z16, Z2m, evT, Opd.ev, Z0e, Z05, Z3l, Z3k, Z3m, Z1k, Z12, Z2v, Z2u, Z2t, Z2a, Z29, Z42, LOp.isNew, State.prune, Z3a, Z36, AV.leaf, Heap.at, Z0r, Z09, Z04, Z0c, Z02, Z4g, Z4l, Z2s, Z2r, Z2q, Z1r, Z17, Z03, Z0a, Z01, Z00, Z1v, rowI, rowU, RatG.row, LocG.row, ActG.row, StepG.row, StampG.row, ActG.av, ActG.eta, RatG.eta, LocG.eta, beq_true, beq_false, Z1w, Z21, Z2d, Z1j, Z2b, Z1y, Z2c, Z0w, Z0h, Z0u, Z0v, Z0g, Z0f, Z07, List.length_set, List.length_replicate, Int.toNat_natCast, Int.reduceToNat, Z4f, Z1h, Z40, Src.all, Src.len, Src.leaf, Src.leafN, Z2h, Z3f, Z45, Z0j, Z0k, Z0l, Z0m, Z0n, Z0o, Z0p, Z0q, Z43, drows, evMk, List.length_map, Z0y, Z1f, List.take_length, List.take_left, List.length_append, Nat.le_add_right, ite_self, List.take_of_length_le, Z38, Z48, Z3y, Option.isSome_none, Option.isSome_some, Nat.sub_zero, Z46, Z4b, Z4e, evUn, binT, binQ, chk, Z3b, List.contains_cons, List.contains_nil, Bool.or_false, Bool.false_or, Bool.and_self, resQ, resV, resT, Z4c, Z2i, Z3i, Z3h, fnOf, Z3c, isD, HO.drow, Z4a, Z3d, evEq, eqV, eqK, eqC1, Z3g, Z3e, Z2g, Z2f, Z3s, Z2w, Z41, Z39, Z1u, Z1a, Z1t, Z19, Z1s, Z18, Z1b, Z0s, Z0t, Z0b, List.mem_cons, List.not_mem_nil, or_false, forall_eq, putRow, Z37, Z2o, RetS, RetF, RetD, AV.frz, AV.frzL, AV.freshP, AV.freshL, DV.less, Z1z, Z1c, Z20, Z1d, Z1g, Z0d, Z06, Option.some.injEq, AV.tup.injEq, AV.agg.injEq, List.cons.injEq, DV.list.injEq, List.isEmpty_nil, Nat.le_refl, AV.d.injEq, DV.int.injEq, DV.bool.injEq, ↓reduceIte, Nat.reduceEqDiff, Nat.reduceAdd, Nat.reduceBEq, List.length_cons, List.length_nil, List.replicate_succ, List.replicate_zero, List.nil_append, List.cons_append, List.append_nil, List.foldl_cons, List.foldl_nil, List.map_cons, List.map_nil, List.all_cons, List.all_nil, List.set_cons_zero, List.set_cons_succ, List.getD_cons_zero, List.getD_cons_succ, List.drop_zero, List.drop_succ_cons, List.take_succ_cons, List.take_zero, List.flatten_cons, List.flatten_nil, Bool.true_and, Bool.and_true, Bool.not_true, Bool.not_false, true_and, and_true, true_or, or_true, Option.bind_some, Option.map_some, decide_true, decide_false, beq_self_eq_true, true_implies, false_implies, implies_true, not_true_eq_false, not_false_eq_true, and_self, Bool.and_false, Bool.false_and, Nat.reduceLT, Nat.reduceLeDiff, List.reverse_cons, List.reverse_nil, Nat.zero_add, Nat.add_zero, Bool.false_eq_true, List.getElem?_cons_zero, sp_ratomic, ActG.av, Z04]
  unfold isAt isSet
  refine ⟨fun h => ⟨fun h2 => absurd h2 (by omega), fun h2 => ⟨?_, ?_⟩⟩, fun h => ⟨fun h2 => ⟨fun _ => ⟨?_, ?_⟩, fun h3 => absurd h2 h3⟩, fun h2 => ⟨fun h3 => absurd h3 h2, fun _ => ⟨?_, ?_⟩⟩⟩⟩
  all_goals simp [h, h2]
/-! ### played -/
def rowMem (m : MemG) : List DV := [.list (m.locs.map LocG.row) m.lf, .list (m.past.map rowStamps) m.pf, .list (m.vals.map rowI) m.vf, .list (m.marks.map rowRats) m.mf, .list (m.fronts.map rowRats) m.ff]
/-- The error of a run: of the first step that isn't taken. -/
def firstBad (m : MemG) : List StepG → Int
  | [] => 0
  | s :: r => if doErr m.plain s = 0 then firstBad (stepM m s) r else doErr m.plain s
def playErr (l : List LocG) (t : Int) (ss : List StepG) : Int := if 64 < ss.length then 15 else if newErr l t = 0 then firstBad (newM l t) ss else newErr l t
def mems (m : MemG) (ss : List StepG) (n : Nat) : List MemG := (List.range n).map fun j => goM m ss j
def playL (l : List LocG) (t : Int) (ss : List StepG) : List MemG := if playErr l t ss = 0 then mems (newM l t) ss ss.length else []
theorem firstBad_go {m : MemG} {ss : List StepG} : ∀ {n}, n ≤ ss.length → (∀ j, j < n → doErr (goM m ss j).plain (ss.getD j default) = 0) → firstBad m ss = firstBad (goM m ss n) (ss.drop n) := by
  intro n
  induction n with
  | zero => intro _ _; rfl
  | succ n ih =>
    intro hn h
    rw [ih (by omega) (fun j hj => h j (by omega)), goM_succ m (by omega), List.drop_eq_getElem_cons (by omega : n < ss.length)]
    have e := h n (by omega)
    rw [getD_lt (by omega)] at e ⊢
    simp only [firstBad]
    rw [if_pos e]
theorem firstBad_ok {m : MemG} {ss : List StepG} (h : ∀ j, j < ss.length → doErr (goM m ss j).plain (ss.getD j default) = 0) : firstBad m ss = 0 := by
  rw [firstBad_go (Nat.le_refl _) h, List.drop_length]; rfl
theorem firstBad_at {m : MemG} {ss : List StepG} {n : Nat} (hn : n < ss.length) (h : ∀ j, j < n → doErr (goM m ss j).plain (ss.getD j default) = 0) (hb : doErr (goM m ss n).plain (ss.getD n default) ≠ 0) : firstBad m ss = doErr (goM m ss n).plain (ss.getD n default) := by
  rw [firstBad_go (Nat.le_of_lt hn) h, List.drop_eq_getElem_cons hn]
  rw [getD_lt hn] at hb ⊢
  simp only [firstBad]
  rw [if_neg hb]
theorem firstBad_zero {m : MemG} : ∀ {ss : List StepG}, firstBad m ss = 0 → ∀ j, j < ss.length → doErr (goM m ss j).plain (ss.getD j default) = 0 := by
  intro ss
  induction ss generalizing m with
  | nil => intro _ j hj; cases hj
  | cons s r ih =>
    intro h j hj
    simp only [firstBad] at h
    split at h
    · rename_i e
      cases j with
      | zero => exact e
      | succ j => exact ih h j (by simpa using hj)
    · rename_i e; exact absurd h e
theorem mems_succ (m : MemG) (ss : List StepG) (n : Nat) : mems m ss (n + 1) = mems m ss n ++ [goM m ss n] := by unfold mems; rw [List.range_succ, List.map_append]; rfl
theorem mems_len (m : MemG) (ss : List StepG) (n : Nat) : (mems m ss n).length = n := by unfold mems; simp
def sp_played : Sp := ⟨List LocG × Bool × Int × List StepG × Bool, fun x => [.d (.list (x.1.map LocG.row) x.2.1), .d (.int .i64 x.2.2.1), .d (.list (x.2.2.2.1.map StepG.row) x.2.2.2.2)],
  fun x => .data (x.1.length ≤ maxLen ∧ x.2.2.2.1.length ≤ maxLen) (.tup [.d (.list ((playL x.1 x.2.2.1 x.2.2.2.1).map rowMem) false), .d (.int .i64 (playErr x.1 x.2.2.1 x.2.2.2.1))]) false⟩
theorem at_played (l : List LocG) (f : Bool) (t : Int) (ss : List StepG) (g : Bool) : sp_played.at [.d (.list (l.map LocG.row) f), .d (.int .i64 t), .d (.list (ss.map StepG.row) g)] =
    .data (l.length ≤ maxLen ∧ ss.length ≤ maxLen) (.tup [.d (.list ((playL l t ss).map rowMem) false), .d (.int .i64 (playErr l t ss))]) false :=
  Sp.at_enc (s := sp_played) (fun x y h => by
    obtain ⟨l, f, t, ss, g⟩ := x; obtain ⟨l', f', t', ss', g'⟩ := y
    simp only [sp_played, List.cons.injEq, AV.d.injEq, DV.list.injEq, DV.int.injEq, and_true, true_and] at h
    obtain ⟨⟨h1, h2⟩, h3, h4, h5⟩ := h
    rw [Z4p LocG.row_inj h1, h2, h3, Z4p StepG.row_inj h4, h5]) (l, f, t, ss, g)
def playSt (M : MemG) (ss : List StepG) (g : Bool) : Nat → State
  | 0 => ⟨[(8, .ptr 0 5 0 0), (10, .d (.list [] true)), (25, .d (.list (ss.map StepG.row) g)), (26, .d (.int .i64 ss.length)), (27, .d (.int .i64 0))], [.vec 5 [M.row]]⟩
  | i + 1 => ⟨[(8, .ptr 0 5 0 0), (10, .ref 1 5 0 (i + 1) true), (25, .d (.list (ss.map StepG.row) g)), (26, .d (.int .i64 ss.length)), (27, .d (.int .i64 ((i + 1 : Nat) : Int)))], [.vec 5 [(goM M ss (i + 1)).row], .dvec 5 ((mems M ss (i + 1)).map rowMem)]⟩
set_option maxHeartbeats 4000000 in
theorem body_race_played {T : Tab} {n1 n2 : Nat} (k1 : Knows T n1 sp_New) (k2 : Knows T n2 sp_Do) : sp_played.Body T V_race_played (L_race_played n1 n2) R_race_played := by
  have F1 := k1.F; have G1 := k1.G; have F2 := k2.F; have G2 := k2.G
  rintro ⟨l, f, t, ss, g⟩ ⟨hl, hs⟩
  have hl : l.length ≤ maxLen := hl
  have hs : ss.length ≤ maxLen := hs
  refine ⟨rfl, ?_⟩
  unfold V_race_played L_race_played R_race_played
  simp (maxSteps := 3000000) only [↓Z28, ↓Z34, ↓Z25, ↓Z0x, ↓Z27, ↓Z1x, Z3t, Z3u, ↓Z35, ↓Z24, ↓Z1e, ↓Z26, ↓Z23, ↓Z31, ↓Z33, ↓Z32, ↓Z1l, ↓Z1o, ↓Z1m, ↓Z1n, ↓Z30, ↓Z3x, ↓Z3w, ↓Z2x, ↓Z2z, ↓Z2y, ↓Z3n, ↓Z3p, ↓Z3o, ↓Z0i, ↓Z08, ↓Z15, ↓Z14, ↓Z13, Z4h, Z0z, Z10, Z3j, Z11, Z3v, evN, Z2k, Z2p, Z3q, Z3r, Z2n, Z1i, Z2l, Z22, Z1q, Z1p, Z16, Z2m, evT, Opd.ev, Z0e, Z05, Z3l, Z3k, Z3m, Z1k, Z12, Z2v, Z2u, Z2t, Z2a, Z29, Z42, LOp.isNew, State.prune, Z3a, Z36, AV.leaf, Heap.at, Z0r, Z09, Z04, Z0c, Z02, Z4g, Z4l, Z2s, Z2r, Z2q, Z1r, Z17, Z03, Z0a, Z01, Z00, Z1v, rowI, rowU, RatG.row, LocG.row, ActG.row, StepG.row, StampG.row, ActG.av, ActG.eta, RatG.eta, LocG.eta, beq_true, beq_false, Z1w, Z21, Z2d, Z1j, Z2b, Z1y, Z2c, Z0w, Z0h, Z0u, Z0v, Z0g, Z0f, Z07, List.length_set, List.length_replicate, Int.toNat_natCast, Int.reduceToNat, Z4f, Z1h, Z40, Src.all, Src.len, Src.leaf, Src.leafN, Z2h, Z3f, Z45, Z0j, Z0k, Z0l, Z0m, Z0n, Z0o, Z0p, Z0q, Z43, drows, evMk, List.length_map, Z0y, Z1f, List.take_length, List.take_left, List.length_append, Nat.le_add_right, ite_self, List.take_of_length_le, Z38, Z48, Z3y, Option.isSome_none, Option.isSome_some, Nat.sub_zero, Z46, Z4b, Z4e, evUn, binT, binQ, chk, Z3b, List.contains_cons, List.contains_nil, Bool.or_false, Bool.false_or, Bool.and_self, resQ, resV, resT, Z4c, Z2i, Z3i, Z3h, fnOf, Z3c, isD, HO.drow, Z4a, Z3d, evEq, eqV, eqK, eqC1, Z3g, Z3e, Z2g, Z2f, Z3s, Z2w, Z41, Z39, Z1u, Z1a, Z1t, Z19, Z1s, Z18, Z1b, Z0s, Z0t, Z0b, List.mem_cons, List.not_mem_nil, or_false, forall_eq, putRow, Z37, Z2o, RetS, RetF, RetD, AV.frz, AV.frzL, AV.freshP, AV.freshL, DV.less, Z1z, Z1c, Z20, Z1d, Z1g, Z0d, Z06, Option.some.injEq, AV.tup.injEq, AV.agg.injEq, List.cons.injEq, DV.list.injEq, List.isEmpty_nil, Nat.le_refl, AV.d.injEq, DV.int.injEq, DV.bool.injEq, ↓reduceIte, Nat.reduceEqDiff, Nat.reduceAdd, Nat.reduceBEq, List.length_cons, List.length_nil, List.replicate_succ, List.replicate_zero, List.nil_append, List.cons_append, List.append_nil, List.foldl_cons, List.foldl_nil, List.map_cons, List.map_nil, List.all_cons, List.all_nil, List.set_cons_zero, List.set_cons_succ, List.getD_cons_zero, List.getD_cons_succ, List.drop_zero, List.drop_succ_cons, List.take_succ_cons, List.take_zero, List.flatten_cons, List.flatten_nil, Bool.true_and, Bool.and_true, Bool.not_true, Bool.not_false, true_and, and_true, true_or, or_true, Option.bind_some, Option.map_some, decide_true, decide_false, beq_self_eq_true, true_implies, false_implies, implies_true, not_true_eq_false, not_false_eq_true, and_self, Bool.and_false, Bool.false_and, Nat.reduceLT, Nat.reduceLeDiff, List.reverse_cons, List.reverse_nil, Nat.zero_add, Nat.add_zero, Bool.false_eq_true, List.getElem?_cons_zero, sp_played, F1, G1, F2, G2, at_New, at_DoM, MemG.av, Z04, Z01]
  have bad : ∀ {e : Int}, playErr l t ss = e → e ≠ 0 → [] = List.map rowMem (playL l t ss) := fun {e} h h2 => by
    unfold playL; rw [if_neg (by omega)]; rfl
  refine ⟨fun c => ?_, fun c => ⟨hl, fun c2 => ?_, fun c2 => ?_⟩⟩
  · have e : playErr l t ss = 15 := if_pos (by omega)
    exact ⟨bad e (by decide), e.symm⟩
  · have hpe : playErr l t ss = firstBad (newM l t) ss := by unfold playErr; rw [if_neg (by omega), if_pos c2]
    have hg0 := newM_good c2
    have hpl : firstBad (newM l t) ss = 0 → playL l t ss = mems (newM l t) ss ss.length := fun h => by unfold playL; rw [if_pos (by rw [hpe]; exact h)]
    generalize newM l t = M at *
    refine Loop.fam [8, 10, 25, 26, 27] (playSt M ss g) (fun i => i ≤ ss.length ∧ ∀ j, j < i → doErr (goM M ss j).plain (ss.getD j default) = 0) (fun i => ss.length - i) 0 [0] (by simp) (by simp) (by simp only [State.can, AV.can, AV.canL, HO.can, Z2j, idx, Z0e, Z05, Heap.at, Nat.reduceBEq, ↓reduceIte, Nat.reduceEqDiff, Option.getD_some, Option.map_some, List.map_cons, List.map_nil, List.getD_cons_zero, List.getD_cons_succ, playSt, MemG.row]) ⟨Nat.zero_le _, fun j hj => absurd hj (by omega)⟩ ?_
    rintro i ⟨hi, hj⟩
    have hi : i ≤ ss.length := hi
    have hgood : (goM M ss i).plain.Good (1 + i) := goM_good hg0 ss i
    have next : i < ss.length → doErr (goM M ss i).plain (ss.getD i default) = 0 → (∀ j, j < i + 1 → doErr (goM M ss j).plain (ss.getD j default) = 0) ∧ resM (goM M ss i).plain (ss.getD i default) = goM M ss (i + 1) := fun hlt he => by
      refine ⟨fun j hj2 => ?_, ?_⟩
      · rcases Nat.lt_or_eq_of_le (Nat.le_of_lt_succ hj2) with h | rfl
        · exact hj j h
        · exact he
      · rw [goM_succ M hlt]; unfold stepM resM; rw [if_pos he, if_pos he]
    cases i with
    | zero =>
      have e0 : goM M ss 0 = M := rfl
      rw [e0] at hgood next
      simp (maxSteps := 3000000) only [↓Z28, ↓Z34, ↓Z25, ↓Z0x, ↓Z27, ↓Z1x, Z3t, Z3u, ↓Z35, ↓Z24, ↓Z1e, ↓Z26, ↓Z23, ↓Z31, ↓Z33, ↓Z32, ↓Z1l, ↓Z1o, ↓Z1m, ↓Z1n, ↓Z30, ↓Z3x, ↓Z3w, ↓Z2x, ↓Z2z, ↓Z2y, ↓Z3n, ↓Z3p, ↓Z3o, ↓Z0i, ↓Z08, ↓Z15, ↓Z14, ↓Z13, Z4h, Z0z, Z10, Z3j, Z11, Z3v, evN, Z2k, Z2p, Z3q, Z3r, Z2n, Z1i, Z2l, Z22, Z1q, Z1p, Z16, Z2m, evT, Opd.ev, Z0e, Z05, Z3l, Z3k, Z3m, Z1k, Z12, Z2v, Z2u, Z2t, Z2a, Z29, Z42, LOp.isNew, State.prune, Z3a, Z36, AV.leaf, Heap.at, Z0r, Z09, Z04, Z0c, Z02, Z4g, Z4l, Z2s, Z2r, Z2q, Z1r, Z17, Z03, Z0a, Z01, Z00, Z1v, rowI, rowU, RatG.row, LocG.row, ActG.row, StepG.row, StampG.row, ActG.av, ActG.eta, RatG.eta, LocG.eta, beq_true, beq_false, Z1w, Z21, Z2d, Z1j, Z2b, Z1y, Z2c, Z0w, Z0h, Z0u, Z0v, Z0g, Z0f, Z07, List.length_set, List.length_replicate, Int.toNat_natCast, Int.reduceToNat, Z4f, Z1h, Z40, Src.all, Src.len, Src.leaf, Src.leafN, Z2h, Z3f, Z45, Z0j, Z0k, Z0l, Z0m, Z0n, Z0o, Z0p, Z0q, Z43, drows, evMk, List.length_map, Z0y, Z1f, List.take_length, List.take_left, List.length_append, Nat.le_add_right, ite_self, List.take_of_length_le, Z38, Z48, Z3y, Option.isSome_none, Option.isSome_some, Nat.sub_zero, Z46, Z4b, Z4e, evUn, binT, binQ, chk, Z3b, List.contains_cons, List.contains_nil, Bool.or_false, Bool.false_or, Bool.and_self, resQ, resV, resT, Z4c, Z2i, Z3i, Z3h, fnOf, Z3c, isD, HO.drow, Z4a, Z3d, evEq, eqV, eqK, eqC1, Z3g, Z3e, Z2g, Z2f, Z3s, Z2w, Z41, Z39, Z1u, Z1a, Z1t, Z19, Z1s, Z18, Z1b, Z0s, Z0t, Z0b, List.mem_cons, List.not_mem_nil, or_false, forall_eq, putRow, Z37, Z2o, RetS, RetF, RetD, AV.frz, AV.frzL, AV.freshP, AV.freshL, DV.less, Z1z, Z1c, Z20, Z1d, Z1g, Z0d, Z06, Option.some.injEq, AV.tup.injEq, AV.agg.injEq, List.cons.injEq, DV.list.injEq, List.isEmpty_nil, Nat.le_refl, AV.d.injEq, DV.int.injEq, DV.bool.injEq, ↓reduceIte, Nat.reduceEqDiff, Nat.reduceAdd, Nat.reduceBEq, List.length_cons, List.length_nil, List.replicate_succ, List.replicate_zero, List.nil_append, List.cons_append, List.append_nil, List.foldl_cons, List.foldl_nil, List.map_cons, List.map_nil, List.all_cons, List.all_nil, List.set_cons_zero, List.set_cons_succ, List.getD_cons_zero, List.getD_cons_succ, List.drop_zero, List.drop_succ_cons, List.take_succ_cons, List.take_zero, List.flatten_cons, List.flatten_nil, Bool.true_and, Bool.and_true, Bool.not_true, Bool.not_false, true_and, and_true, true_or, or_true, Option.bind_some, Option.map_some, decide_true, decide_false, beq_self_eq_true, true_implies, false_implies, implies_true, not_true_eq_false, not_false_eq_true, and_self, Bool.and_false, Bool.false_and, Nat.reduceLT, Nat.reduceLeDiff, List.reverse_cons, List.reverse_nil, Nat.zero_add, Nat.add_zero, Bool.false_eq_true, List.getElem?_cons_zero, playSt, MemG.row, F1, G1, F2, G2, at_DoM, MemG.av, Z04, Z01]
      have rw1 : IntKind.i64.wrap (0 + 1) = ((1 : Nat) : Int) := by decide
      refine ⟨fun h => ⟨⟨by omega, by omega⟩, Z4j (by omega) (by omega), wfM hgood (by omega), fun he => ?_, fun he => ?_⟩, fun h => ?_⟩
      · obtain ⟨n1, n2⟩ := next (by omega) he
        rw [n2, rw1]
        exact Z2e.mk [0, 3] 1 (by simp) (by simp) (by simp only [State.can, AV.can, AV.canL, HO.can, Z2j, idx, Z0e, Z05, Heap.at, Nat.reduceBEq, ↓reduceIte, Nat.reduceEqDiff, Option.getD_some, Option.map_some, List.map_cons, List.map_nil, List.getD_cons_zero, List.getD_cons_succ, playSt, MemG.row]; rfl) ⟨by show 1 ≤ _; omega, n1⟩ (by show _ - 1 < _; omega)
      · have e := firstBad_at (m := M) (ss := ss) (n := 0) (by omega) (fun j hj => absurd hj (by omega)) he
        have e2 : playErr l t ss = doErr M.plain (ss.getD 0 default) := hpe.trans e
        exact ⟨bad e2 he, e2.symm⟩
      · have hss : ss = [] := List.length_eq_zero_iff.1 (by omega)
        subst hss
        have e2 : playErr l t [] = 0 := hpe.trans rfl
        exact ⟨by rw [hpl rfl]; rfl, e2.symm⟩
    | succ i =>
      have hrl : ((mems M ss (i + 1)).map rowMem).length = i + 1 := by rw [List.length_map, mems_len]
      have htk : List.take (i + 1) (mems M ss (i + 1)) = mems M ss (i + 1) := List.take_of_length_le (by rw [mems_len]; omega)
      simp (maxSteps := 3000000) only [↓Z28, ↓Z34, ↓Z25, ↓Z0x, ↓Z27, ↓Z1x, Z3t, Z3u, ↓Z35, ↓Z24, ↓Z1e, ↓Z26, ↓Z23, ↓Z31, ↓Z33, ↓Z32, ↓Z1l, ↓Z1o, ↓Z1m, ↓Z1n, ↓Z30, ↓Z3x, ↓Z3w, ↓Z2x, ↓Z2z, ↓Z2y, ↓Z3n, ↓Z3p, ↓Z3o, ↓Z0i, ↓Z08, ↓Z15, ↓Z14, ↓Z13, Z4h, Z0z, Z10, Z3j, Z11, Z3v, evN, Z2k, Z2p, Z3q, Z3r, Z2n, Z1i, Z2l, Z22, Z1q, Z1p, Z16, Z2m, evT, Opd.ev, Z0e, Z05, Z3l, Z3k, Z3m, Z1k, Z12, Z2v, Z2u, Z2t, Z2a, Z29, Z42, LOp.isNew, State.prune, Z3a, Z36, AV.leaf, Heap.at, Z0r, Z09, Z04, Z0c, Z02, Z4g, Z4l, Z2s, Z2r, Z2q, Z1r, Z17, Z03, Z0a, Z01, Z00, Z1v, rowI, rowU, RatG.row, LocG.row, ActG.row, StepG.row, StampG.row, ActG.av, ActG.eta, RatG.eta, LocG.eta, beq_true, beq_false, Z1w, Z21, Z2d, Z1j, Z2b, Z1y, Z2c, Z0w, Z0h, Z0u, Z0v, Z0g, Z0f, Z07, List.length_set, List.length_replicate, Int.toNat_natCast, Int.reduceToNat, Z4f, Z1h, Z40, Src.all, Src.len, Src.leaf, Src.leafN, Z2h, Z3f, Z45, Z0j, Z0k, Z0l, Z0m, Z0n, Z0o, Z0p, Z0q, Z43, drows, evMk, List.length_map, Z0y, Z1f, List.take_length, List.take_left, List.length_append, Nat.le_add_right, ite_self, List.take_of_length_le, Z38, Z48, Z3y, Option.isSome_none, Option.isSome_some, Nat.sub_zero, Z46, Z4b, Z4e, evUn, binT, binQ, chk, Z3b, List.contains_cons, List.contains_nil, Bool.or_false, Bool.false_or, Bool.and_self, resQ, resV, resT, Z4c, Z2i, Z3i, Z3h, fnOf, Z3c, isD, HO.drow, Z4a, Z3d, evEq, eqV, eqK, eqC1, Z3g, Z3e, Z2g, Z2f, Z3s, Z2w, Z41, Z39, Z1u, Z1a, Z1t, Z19, Z1s, Z18, Z1b, Z0s, Z0t, Z0b, List.mem_cons, List.not_mem_nil, or_false, forall_eq, putRow, Z37, Z2o, RetS, RetF, RetD, AV.frz, AV.frzL, AV.freshP, AV.freshL, DV.less, Z1z, Z1c, Z20, Z1d, Z1g, Z0d, Z06, Option.some.injEq, AV.tup.injEq, AV.agg.injEq, List.cons.injEq, DV.list.injEq, List.isEmpty_nil, Nat.le_refl, AV.d.injEq, DV.int.injEq, DV.bool.injEq, ↓reduceIte, Nat.reduceEqDiff, Nat.reduceAdd, Nat.reduceBEq, List.length_cons, List.length_nil, List.replicate_succ, List.replicate_zero, List.nil_append, List.cons_append, List.append_nil, List.foldl_cons, List.foldl_nil, List.map_cons, List.map_nil, List.all_cons, List.all_nil, List.set_cons_zero, List.set_cons_succ, List.getD_cons_zero, List.getD_cons_succ, List.drop_zero, List.drop_succ_cons, List.take_succ_cons, List.take_zero, List.flatten_cons, List.flatten_nil, Bool.true_and, Bool.and_true, Bool.not_true, Bool.not_false, true_and, and_true, true_or, or_true, Option.bind_some, Option.map_some, decide_true, decide_false, beq_self_eq_true, true_implies, false_implies, implies_true, not_true_eq_false, not_false_eq_true, and_self, Bool.and_false, Bool.false_and, Nat.reduceLT, Nat.reduceLeDiff, List.reverse_cons, List.reverse_nil, Nat.zero_add, Nat.add_zero, Bool.false_eq_true, List.getElem?_cons_zero, playSt, MemG.row, F1, G1, F2, G2, at_DoM, MemG.av, Z04, Z01, mems_len, htk]
      refine ⟨fun h => ⟨⟨by omega, by omega⟩, Z4j (by omega) (by omega), wfM hgood (by omega), fun he => ?_, fun he => ?_⟩, fun h => ?_⟩
      · have hlt : i + 1 < ss.length := by omega
        obtain ⟨n1, n2⟩ := next hlt he
        rw [n2, Z3z hlt hs]
        exact Z2e.mk [0, 4] (i + 2) (by simp) (by simp) (by simp only [State.can, AV.can, AV.canL, HO.can, Z2j, idx, Z0e, Z05, Heap.at, Nat.reduceBEq, ↓reduceIte, Nat.reduceEqDiff, Option.getD_some, Option.map_some, List.map_cons, List.map_nil, List.getD_cons_zero, List.getD_cons_succ, playSt, MemG.row, mems_succ M ss (i + 1), List.map_append]; rfl) ⟨by show i + 2 ≤ _; omega, n1⟩ (by show _ - (i + 2) < _ - (i + 1); omega)
      · have e := firstBad_at (m := M) (ss := ss) (n := i + 1) (by omega) hj he
        have e2 : playErr l t ss = doErr (goM M ss (i + 1)).plain (ss.getD (i + 1) default) := hpe.trans e
        exact ⟨bad e2 he, e2.symm⟩
      · have hie : i + 1 = ss.length := by omega
        have e := firstBad_ok (m := M) (ss := ss) (by rw [← hie]; exact hj)
        exact ⟨by rw [hpl e, hie], (hpe.trans e).symm⟩
  · have e : playErr l t ss = newErr l t := by unfold playErr; rw [if_neg (by omega), if_neg c2]
    exact ⟨bad e c2, e.symm⟩
end Go.Ago

/- Package race: the order of a run. Conditions: none. -/
set_option maxRecDepth 100000
set_option linter.unusedSimpArgs false
set_option linter.unusedVariables false
namespace Go.Ago
/-! ### Pairs -/
def pRow (q : Nat → Nat → Bool) (i k : Nat) : List RatG := ((List.range k).filter fun j => decide (i < j) && q i j).map fun (j : Nat) => ⟨(i : Int), (j : Int)⟩
def pAll (q : Nat → Nat → Bool) (n i : Nat) : List RatG := (List.range i).flatMap fun j => pRow q j n
theorem pRow_start (q : Nat → Nat → Bool) (i : Nat) : pRow q i (i + 1) = [] := by
  unfold pRow
  have : (List.range (i + 1)).filter (fun j => decide (i < j) && q i j) = [] := by
    rw [List.filter_eq_nil_iff]
    intro j hj
    have := List.mem_range.1 hj
    simp; omega
  rw [this]; rfl
theorem pRow_succ (q : Nat → Nat → Bool) {i k : Nat} (h : i < k) : pRow q i (k + 1) = pRow q i k ++ (if q i k = true then [⟨i, k⟩] else []) := by
  unfold pRow
  rw [List.range_succ, List.filter_append, List.map_append]
  congr 1
  rw [List.filter_cons, decide_eq_true h, Bool.true_and]
  split <;> rfl
theorem pAll_succ (q : Nat → Nat → Bool) (n i : Nat) : pAll q n (i + 1) = pAll q n i ++ pRow q i n := by unfold pAll; rw [List.range_succ, List.flatMap_append]; simp
theorem pRow_len (q : Nat → Nat → Bool) (i k : Nat) : (pRow q i k).length ≤ k := by
  unfold pRow
  rw [List.length_map]
  exact Nat.le_trans (List.length_filter_le _ _) (by simp)
theorem pAll_len (q : Nat → Nat → Bool) (n i : Nat) : (pAll q n i).length ≤ i * n := by
  induction i with
  | zero => simp [pAll]
  | succ i ih => rw [pAll_succ, List.length_append, Nat.succ_mul]; have := pRow_len q i n; omega
theorem pRow_mem {q : Nat → Nat → Bool} {i k : Nat} {x : RatG} : x ∈ pRow q i k ↔ ∃ j, j < k ∧ i < j ∧ q i j = true ∧ x = ⟨i, j⟩ := by
  unfold pRow
  rw [List.mem_map]
  constructor
  · rintro ⟨j, h, rfl⟩
    rw [List.mem_filter, List.mem_range] at h
    simp only [Bool.and_eq_true, decide_eq_true_eq] at h
    exact ⟨j, h.1, h.2.1, h.2.2, rfl⟩
  · rintro ⟨j, h1, h2, h3, rfl⟩
    exact ⟨j, List.mem_filter.2 ⟨List.mem_range.2 h1, by simp [h2, h3]⟩, rfl⟩
theorem pAll_mem {q : Nat → Nat → Bool} {n i : Nat} {x : RatG} : x ∈ pAll q n i ↔ ∃ a b, a < i ∧ b < n ∧ a < b ∧ q a b = true ∧ x = ⟨a, b⟩ := by
  unfold pAll
  rw [List.mem_flatMap]
  constructor
  · rintro ⟨a, ha, h⟩
    obtain ⟨b, h1, h2, h3, h4⟩ := pRow_mem.1 h
    exact ⟨a, b, List.mem_range.1 ha, h1, h2, h3, h4⟩
  · rintro ⟨a, b, h1, h2, h3, h4, h5⟩
    exact ⟨a, List.mem_range.2 h1, pRow_mem.2 ⟨b, h2, h3, h4, h5⟩⟩
def accAV (id : Nat) : List RatG → AV
  | [] => .d (.list [] true)
  | a :: r => .ref id 2 0 (r.length + 1) true
def accO : List RatG → Heap
  | [] => []
  | a :: r => [.dvec 2 ((a :: r).map RatG.row)]
theorem at_Of0 (n : Int) (f : Bool) : sp_Of.at [.d (.int .i64 n), .d (.list [] f)] = .data (0 ≤ maxLen) (.tup [.d (.list ((ofG n []).map rowW) false), .d (.int .i64 (ofErr n []))]) true := at_Of n [] f
theorem at_OfC (n : Int) (a : RatG) (r : List RatG) (f : Bool) : sp_Of.at [.d (.int .i64 n), .d (.list ([.int .i64 a.num, .int .i64 a.den] :: r.map RatG.row) f)] = .data ((a :: r).length ≤ maxLen) (.tup [.d (.list ((ofG n (a :: r)).map rowW) false), .d (.int .i64 (ofErr n (a :: r)))]) true := at_Of n (a :: r) f
theorem ofG_le {n : Int} {l : List RatG} : (ofG n l).length ≤ 64 := by
  unfold ofG
  split
  · rename_i h
    rw [mkR_len]
    unfold ofErr at h
    split at h
    · cases h
    · omega
  · simp
theorem ret1 (l : List W) : RetRows 1 (l.map rowW) (.ref 0 1 0 l.length true) [.dvec 1 (l.map rowW)] := .inl ⟨0, true, by rw [List.length_map], rfl⟩
theorem ret1' (l : List W) (o : HO) : RetRows 1 (l.map rowW) (.ref 1 1 0 l.length true) [o, .dvec 1 (l.map rowW)] := .inl ⟨1, true, by rw [List.length_map], rfl⟩
/-! ### ordered -/
def dirB (a b : StepG) : Bool := decide (a.thread = b.thread) || (isSet a.act.kind && isAt b.act.kind && decide (a.act.loc = b.act.loc))
theorem dirB_1 {a b : StepG} (h : a.thread = b.thread) : dirB a b = true := by unfold dirB; rw [decide_eq_true h]; rfl
theorem dirB_2 {a b : StepG} (h1 : isSet a.act.kind = true) (h2 : isAt b.act.kind = true) (h3 : a.act.loc = b.act.loc) : dirB a b = true := by unfold dirB; rw [h1, h2, decide_eq_true h3]; simp
theorem dirB_3 {a b : StepG} (h : ¬ a.thread = b.thread) (h1 : isSet a.act.kind = false) : dirB a b = false := by unfold dirB; rw [decide_eq_false h, h1]; rfl
theorem dirB_4 {a b : StepG} (h : ¬ a.thread = b.thread) (h1 : isAt b.act.kind = false) : dirB a b = false := by unfold dirB; rw [decide_eq_false h, h1]; simp
theorem dirB_5 {a b : StepG} (h : ¬ a.thread = b.thread) (h1 : ¬ a.act.loc = b.act.loc) : dirB a b = false := by unfold dirB; rw [decide_eq_false h, decide_eq_false h1]; simp
def dirQ (ss : List StepG) (i k : Nat) : Bool := dirB (ss.getD i default) (ss.getD k default)
def ordG (ss : List StepG) : List W := plusG (ofG ss.length (pAll (dirQ ss) ss.length ss.length))
def sp_ordered : Sp := ⟨List StepG × Bool, fun x => [.d (.list (x.1.map StepG.row) x.2)], fun x => .rows (x.1.length ≤ 64) 1 ((ordG x.1).map rowW)⟩
theorem at_ordered (ss : List StepG) (g : Bool) : sp_ordered.at [.d (.list (ss.map StepG.row) g)] = .rows (ss.length ≤ 64) 1 ((ordG ss).map rowW) :=
  Sp.at_enc (s := sp_ordered) (fun x y h => by
    obtain ⟨ss, g⟩ := x; obtain ⟨ss', g'⟩ := y
    simp only [sp_ordered, List.cons.injEq, AV.d.injEq, DV.list.injEq, and_true] at h
    rw [Z4p StepG.row_inj h.1, h.2]) (ss, g)
def ordSt1 (ss : List StepG) (g : Bool) (x : Nat × List RatG) : State :=
  ⟨[(0, .d (.list (ss.map StepG.row) g)), (14, .d (.list (ss.map StepG.row) g)), (15, .d (.int .i64 ss.length)), (16, .d (.int .i64 x.1)), (3, accAV 0 x.2)], accO x.2⟩
def ordSt2 (ss : List StepG) (g : Bool) (i : Nat) (x : Nat × List RatG) : State :=
  ⟨[(0, .d (.list (ss.map StepG.row) g)), (14, .d (.list (ss.map StepG.row) g)), (15, .d (.int .i64 ss.length)), (16, .d (.int .i64 i)), (4, .d (.int .i64 i)), (5, .ptr 0 7 0 0), (7, .d (.bool (isSet (ss.getD i default).act.kind))), (8, .d (.int .i64 x.1)), (3, accAV 1 x.2)],
    .vec 7 [[.d (.int .i64 (ss.getD i default).thread), .d (.int .i64 (ss.getD i default).act.kind), .d (.int .i64 (ss.getD i default).act.loc), .d (.int .i64 (ss.getD i default).act.old), .d (.int .i64 (ss.getD i default).act.new), .d (.int .i64 (ss.getD i default).when.num), .d (.int .i64 (ss.getD i default).when.den)]] :: accO x.2⟩
set_option maxHeartbeats 4000000 in
theorem body_race_ordered {T : Tab} {n1 n2 n3 : Nat} (k1 : Knows T n1 sp_ratomic) (k2 : Knows T n2 sp_Of) (k3 : Knows T n3 sp_Plus) : sp_ordered.Body T V_race_ordered (L_race_ordered n1 n2 n3) R_race_ordered := by
  have F1 := k1.F; have G1 := k1.G; have F2 := k2.F; have G2 := k2.G; have F3 := k3.F; have G3 := k3.G
  rintro ⟨ss, g⟩ hs
  have hs : ss.length ≤ 64 := hs
  refine ⟨fun r hr => by obtain ⟨x, -, rfl⟩ := List.mem_map.1 hr; rfl, ?_⟩
  show vck T 0 V_race_ordered (L_race_ordered n1 n2 n3) ⟨Z2a 0 [.d (.list (ss.map StepG.row) g)], []⟩ (retK R_race_ordered (RetRows 1 ((ordG ss).map rowW)))
  generalize hX : RetRows 1 _ = X
  unfold V_race_ordered L_race_ordered R_race_ordered
  simp (maxSteps := 3000000) only [↓Z28, ↓Z34, ↓Z25, ↓Z0x, ↓Z27, ↓Z1x, Z3t, Z3u, ↓Z35, ↓Z24, ↓Z1e, ↓Z26, ↓Z23, ↓Z31, ↓Z33, ↓Z32, ↓Z1l, ↓Z1o, ↓Z1m, ↓Z1n, ↓Z30, ↓Z3x, ↓Z3w, ↓Z2x, ↓Z2z, ↓Z2y, ↓Z3n, ↓Z3p, ↓Z3o, ↓Z0i, ↓Z08, ↓Z15, ↓Z14, ↓Z13, Z4h, Z0z, Z10, Z3j, Z11, Z3v, evN, Z2k, Z2p, Z3q, Z3r, Z2n, Z1i, Z2l, Z22, Z1q, Z1p, Z16, Z2m, evT, Opd.ev, Z0e, Z05, Z3l, Z3k, Z3m, Z1k, Z12, Z2v, Z2u, Z2t, Z2a, Z29, Z42, LOp.isNew, State.prune, Z3a, Z36, AV.leaf, Heap.at, Z0r, Z09, Z04, Z0c, Z02, Z4g, Z4l, Z2s, Z2r, Z2q, Z1r, Z17, Z03, Z0a, Z01, Z00, Z1v, rowI, rowU, RatG.row, LocG.row, ActG.row, StepG.row, StampG.row, ActG.av, ActG.eta, RatG.eta, LocG.eta, beq_true, beq_false, Z1w, Z21, Z2d, Z1j, Z2b, Z1y, Z2c, Z0w, Z0h, Z0u, Z0v, Z0g, Z0f, Z07, List.length_set, List.length_replicate, Int.toNat_natCast, Int.reduceToNat, Z4f, Z1h, Z40, Src.all, Src.len, Src.leaf, Src.leafN, Z2h, Z3f, Z45, Z0j, Z0k, Z0l, Z0m, Z0n, Z0o, Z0p, Z0q, Z43, drows, evMk, List.length_map, Z0y, Z1f, List.take_length, List.take_left, List.length_append, Nat.le_add_right, ite_self, List.take_of_length_le, Z38, Z48, Z3y, Option.isSome_none, Option.isSome_some, Nat.sub_zero, Z46, Z4b, Z4e, evUn, binT, binQ, chk, Z3b, List.contains_cons, List.contains_nil, Bool.or_false, Bool.false_or, Bool.and_self, resQ, resV, resT, Z4c, Z2i, Z3i, Z3h, fnOf, Z3c, isD, HO.drow, Z4a, Z3d, evEq, eqV, eqK, eqC1, Z3g, Z3e, Z2g, Z2f, Z3s, Z2w, Z41, Z39, Z1u, Z1a, Z1t, Z19, Z1s, Z18, Z1b, Z0s, Z0t, Z0b, List.mem_cons, List.not_mem_nil, or_false, forall_eq, putRow, Z37, Z2o, RetS, RetF, RetD, AV.frz, AV.frzL, AV.freshP, AV.freshL, DV.less, Z1z, Z1c, Z20, Z1d, Z1g, Z0d, Z06, Option.some.injEq, AV.tup.injEq, AV.agg.injEq, List.cons.injEq, DV.list.injEq, List.isEmpty_nil, Nat.le_refl, AV.d.injEq, DV.int.injEq, DV.bool.injEq, ↓reduceIte, Nat.reduceEqDiff, Nat.reduceAdd, Nat.reduceBEq, List.length_cons, List.length_nil, List.replicate_succ, List.replicate_zero, List.nil_append, List.cons_append, List.append_nil, List.foldl_cons, List.foldl_nil, List.map_cons, List.map_nil, List.all_cons, List.all_nil, List.set_cons_zero, List.set_cons_succ, List.getD_cons_zero, List.getD_cons_succ, List.drop_zero, List.drop_succ_cons, List.take_succ_cons, List.take_zero, List.flatten_cons, List.flatten_nil, Bool.true_and, Bool.and_true, Bool.not_true, Bool.not_false, true_and, and_true, true_or, or_true, Option.bind_some, Option.map_some, decide_true, decide_false, beq_self_eq_true, true_implies, false_implies, implies_true, not_true_eq_false, not_false_eq_true, and_self, Bool.and_false, Bool.false_and, Nat.reduceLT, Nat.reduceLeDiff, List.reverse_cons, List.reverse_nil, Nat.zero_add, Nat.add_zero, Bool.false_eq_true, List.getElem?_cons_zero, F1, G1, F2, G2, F3, G3, at_ratomic, at_Of, at_Plus, Z04, Z01]
  refine Loop.fam [0, 14, 15, 16, 3] (ordSt1 ss g) (fun x => x.1 ≤ ss.length ∧ x.2 = pAll (dirQ ss) ss.length x.1) (fun x => ss.length - x.1) (0, []) [] (by simp) (by simp) (by simp only [State.can, AV.can, AV.canL, HO.can, Z2j, idx, Z0e, Z05, Heap.at, Nat.reduceBEq, ↓reduceIte, Nat.reduceEqDiff, Option.getD_some, Option.map_some, List.map_cons, List.map_nil, List.getD_cons_zero, List.getD_cons_succ, ordSt1, accAV, accO]; rfl) ⟨Nat.zero_le _, rfl⟩ ?_
  rintro ⟨i, L⟩ ⟨hi, hL⟩
  have hi : i ≤ ss.length := hi
  have hL : L = pAll (dirQ ss) ss.length i := hL
  have hm : maxLen = 9223372036854775807 := rfl
  have hLl : L.length ≤ i * ss.length := by rw [hL]; exact pAll_len _ _ _
  have hLb : L.length ≤ 64 * 64 := Nat.le_trans hLl (Nat.mul_le_mul (by omega) hs)
  have key : ∀ k, i < k → k < ss.length → True := fun _ _ _ => trivial
  obtain _ | ⟨c0, e0⟩ := L
  case' nil =>
    simp (maxSteps := 3000000) only [↓Z28, ↓Z34, ↓Z25, ↓Z0x, ↓Z27, ↓Z1x, Z3t, Z3u, ↓Z35, ↓Z24, ↓Z1e, ↓Z26, ↓Z23, ↓Z31, ↓Z33, ↓Z32, ↓Z1l, ↓Z1o, ↓Z1m, ↓Z1n, ↓Z30, ↓Z3x, ↓Z3w, ↓Z2x, ↓Z2z, ↓Z2y, ↓Z3n, ↓Z3p, ↓Z3o, ↓Z0i, ↓Z08, ↓Z15, ↓Z14, ↓Z13, Z4h, Z0z, Z10, Z3j, Z11, Z3v, evN, Z2k, Z2p, Z3q, Z3r, Z2n, Z1i, Z2l, Z22, Z1q, Z1p, Z16, Z2m, evT, Opd.ev, Z0e, Z05, Z3l, Z3k, Z3m, Z1k, Z12, Z2v, Z2u, Z2t, Z2a, Z29, Z42, LOp.isNew, State.prune, Z3a, Z36, AV.leaf, Heap.at, Z0r, Z09, Z04, Z0c, Z02, Z4g, Z4l, Z2s, Z2r, Z2q, Z1r, Z17, Z03, Z0a, Z01, Z00, Z1v, rowI, rowU, RatG.row, LocG.row, ActG.row, StepG.row, StampG.row, ActG.av, ActG.eta, RatG.eta, LocG.eta, beq_true, beq_false, Z1w, Z21, Z2d, Z1j, Z2b, Z1y, Z2c, Z0w, Z0h, Z0u, Z0v, Z0g, Z0f, Z07, List.length_set, List.length_replicate, Int.toNat_natCast, Int.reduceToNat, Z4f, Z1h, Z40, Src.all, Src.len, Src.leaf, Src.leafN, Z2h, Z3f, Z45, Z0j, Z0k, Z0l, Z0m, Z0n, Z0o, Z0p, Z0q, Z43, drows, evMk, List.length_map, Z0y, Z1f, List.take_length, List.take_left, List.length_append, Nat.le_add_right, ite_self, List.take_of_length_le, Z38, Z48, Z3y, Option.isSome_none, Option.isSome_some, Nat.sub_zero, Z46, Z4b, Z4e, evUn, binT, binQ, chk, Z3b, List.contains_cons, List.contains_nil, Bool.or_false, Bool.false_or, Bool.and_self, resQ, resV, resT, Z4c, Z2i, Z3i, Z3h, fnOf, Z3c, isD, HO.drow, Z4a, Z3d, evEq, eqV, eqK, eqC1, Z3g, Z3e, Z2g, Z2f, Z3s, Z2w, Z41, Z39, Z1u, Z1a, Z1t, Z19, Z1s, Z18, Z1b, Z0s, Z0t, Z0b, List.mem_cons, List.not_mem_nil, or_false, forall_eq, putRow, Z37, Z2o, RetS, RetF, RetD, AV.frz, AV.frzL, AV.freshP, AV.freshL, DV.less, Z1z, Z1c, Z20, Z1d, Z1g, Z0d, Z06, Option.some.injEq, AV.tup.injEq, AV.agg.injEq, List.cons.injEq, DV.list.injEq, List.isEmpty_nil, Nat.le_refl, AV.d.injEq, DV.int.injEq, DV.bool.injEq, ↓reduceIte, Nat.reduceEqDiff, Nat.reduceAdd, Nat.reduceBEq, List.length_cons, List.length_nil, List.replicate_succ, List.replicate_zero, List.nil_append, List.cons_append, List.append_nil, List.foldl_cons, List.foldl_nil, List.map_cons, List.map_nil, List.all_cons, List.all_nil, List.set_cons_zero, List.set_cons_succ, List.getD_cons_zero, List.getD_cons_succ, List.drop_zero, List.drop_succ_cons, List.take_succ_cons, List.take_zero, List.flatten_cons, List.flatten_nil, Bool.true_and, Bool.and_true, Bool.not_true, Bool.not_false, true_and, and_true, true_or, or_true, Option.bind_some, Option.map_some, decide_true, decide_false, beq_self_eq_true, true_implies, false_implies, implies_true, not_true_eq_false, not_false_eq_true, and_self, Bool.and_false, Bool.false_and, Nat.reduceLT, Nat.reduceLeDiff, List.reverse_cons, List.reverse_nil, Nat.zero_add, Nat.add_zero, Bool.false_eq_true, List.getElem?_cons_zero, ordSt1, accAV, accO, F1, G1, F2, G2, F3, G3, at_ratomic, at_Of0, at_Plus, Z04, Z01]
    refine ⟨fun c => ⟨⟨by omega, by omega⟩, ?_⟩, fun c => ?_⟩
  case' cons =>
    simp (maxSteps := 3000000) only [↓Z28, ↓Z34, ↓Z25, ↓Z0x, ↓Z27, ↓Z1x, Z3t, Z3u, ↓Z35, ↓Z24, ↓Z1e, ↓Z26, ↓Z23, ↓Z31, ↓Z33, ↓Z32, ↓Z1l, ↓Z1o, ↓Z1m, ↓Z1n, ↓Z30, ↓Z3x, ↓Z3w, ↓Z2x, ↓Z2z, ↓Z2y, ↓Z3n, ↓Z3p, ↓Z3o, ↓Z0i, ↓Z08, ↓Z15, ↓Z14, ↓Z13, Z4h, Z0z, Z10, Z3j, Z11, Z3v, evN, Z2k, Z2p, Z3q, Z3r, Z2n, Z1i, Z2l, Z22, Z1q, Z1p, Z16, Z2m, evT, Opd.ev, Z0e, Z05, Z3l, Z3k, Z3m, Z1k, Z12, Z2v, Z2u, Z2t, Z2a, Z29, Z42, LOp.isNew, State.prune, Z3a, Z36, AV.leaf, Heap.at, Z0r, Z09, Z04, Z0c, Z02, Z4g, Z4l, Z2s, Z2r, Z2q, Z1r, Z17, Z03, Z0a, Z01, Z00, Z1v, rowI, rowU, RatG.row, LocG.row, ActG.row, StepG.row, StampG.row, ActG.av, ActG.eta, RatG.eta, LocG.eta, beq_true, beq_false, Z1w, Z21, Z2d, Z1j, Z2b, Z1y, Z2c, Z0w, Z0h, Z0u, Z0v, Z0g, Z0f, Z07, List.length_set, List.length_replicate, Int.toNat_natCast, Int.reduceToNat, Z4f, Z1h, Z40, Src.all, Src.len, Src.leaf, Src.leafN, Z2h, Z3f, Z45, Z0j, Z0k, Z0l, Z0m, Z0n, Z0o, Z0p, Z0q, Z43, drows, evMk, List.length_map, Z0y, Z1f, List.take_length, List.take_left, List.length_append, Nat.le_add_right, ite_self, List.take_of_length_le, Z38, Z48, Z3y, Option.isSome_none, Option.isSome_some, Nat.sub_zero, Z46, Z4b, Z4e, evUn, binT, binQ, chk, Z3b, List.contains_cons, List.contains_nil, Bool.or_false, Bool.false_or, Bool.and_self, resQ, resV, resT, Z4c, Z2i, Z3i, Z3h, fnOf, Z3c, isD, HO.drow, Z4a, Z3d, evEq, eqV, eqK, eqC1, Z3g, Z3e, Z2g, Z2f, Z3s, Z2w, Z41, Z39, Z1u, Z1a, Z1t, Z19, Z1s, Z18, Z1b, Z0s, Z0t, Z0b, List.mem_cons, List.not_mem_nil, or_false, forall_eq, putRow, Z37, Z2o, RetS, RetF, RetD, AV.frz, AV.frzL, AV.freshP, AV.freshL, DV.less, Z1z, Z1c, Z20, Z1d, Z1g, Z0d, Z06, Option.some.injEq, AV.tup.injEq, AV.agg.injEq, List.cons.injEq, DV.list.injEq, List.isEmpty_nil, Nat.le_refl, AV.d.injEq, DV.int.injEq, DV.bool.injEq, ↓reduceIte, Nat.reduceEqDiff, Nat.reduceAdd, Nat.reduceBEq, List.length_cons, List.length_nil, List.replicate_succ, List.replicate_zero, List.nil_append, List.cons_append, List.append_nil, List.foldl_cons, List.foldl_nil, List.map_cons, List.map_nil, List.all_cons, List.all_nil, List.set_cons_zero, List.set_cons_succ, List.getD_cons_zero, List.getD_cons_succ, List.drop_zero, List.drop_succ_cons, List.take_succ_cons, List.take_zero, List.flatten_cons, List.flatten_nil, Bool.true_and, Bool.and_true, Bool.not_true, Bool.not_false, true_and, and_true, true_or, or_true, Option.bind_some, Option.map_some, decide_true, decide_false, beq_self_eq_true, true_implies, false_implies, implies_true, not_true_eq_false, not_false_eq_true, and_self, Bool.and_false, Bool.false_and, Nat.reduceLT, Nat.reduceLeDiff, List.reverse_cons, List.reverse_nil, Nat.zero_add, Nat.add_zero, Bool.false_eq_true, List.getElem?_cons_zero, ordSt1, accAV, accO, F1, G1, F2, G2, F3, G3, at_ratomic, at_OfC, at_Plus, Z04, Z01]
    refine ⟨fun c => ⟨⟨by omega, by omega⟩, ?_⟩, fun c => ?_⟩
  case nil.refine_2 =>
    have hie : i = ss.length := by omega
    subst hie
    rw [← hX]
    unfold ordG
    rw [← hL]
    exact ⟨by decide, Nat.le_trans ofG_le (by decide), ret1 _⟩
  case cons.refine_2 =>
    have hie : i = ss.length := by omega
    subst hie
    rw [← hX]
    unfold ordG
    rw [← hL]
    have hLc : e0.length + 1 ≤ 64 * 64 := hLb
    exact ⟨by omega, Nat.le_trans ofG_le (by decide), ret1' _ _⟩
  case' nil.refine_1 =>
    refine Loop.fam [0, 14, 15, 16, 4, 5, 7, 8, 3] (ordSt2 ss g i) (fun x => i < x.1 ∧ x.1 ≤ ss.length ∧ x.2 = pAll (dirQ ss) ss.length i ++ pRow (dirQ ss) i x.1) (fun x => ss.length - x.1) (i + 1, []) [0] (by simp) (by simp) (by simp only [State.can, AV.can, AV.canL, HO.can, Z2j, idx, Z0e, Z05, Heap.at, Nat.reduceBEq, ↓reduceIte, Nat.reduceEqDiff, Option.getD_some, Option.map_some, List.map_cons, List.map_nil, List.getD_cons_zero, List.getD_cons_succ, ordSt2, accAV, accO, Z3z (show i < ss.length by omega) (by omega)]) ⟨Nat.lt_succ_self _, by show i + 1 ≤ _; omega, by show [] = _; rw [pRow_start, ← hL]; rfl⟩ ?_
  case' cons.refine_1 =>
    refine Loop.fam [0, 14, 15, 16, 4, 5, 7, 8, 3] (ordSt2 ss g i) (fun x => i < x.1 ∧ x.1 ≤ ss.length ∧ x.2 = pAll (dirQ ss) ss.length i ++ pRow (dirQ ss) i x.1) (fun x => ss.length - x.1) (i + 1, c0 :: e0) [1, 0] (by simp) (by simp) (by simp only [State.can, AV.can, AV.canL, HO.can, Z2j, idx, Z0e, Z05, Heap.at, Nat.reduceBEq, ↓reduceIte, Nat.reduceEqDiff, Option.getD_some, Option.map_some, List.map_cons, List.map_nil, List.getD_cons_zero, List.getD_cons_succ, ordSt2, accAV, accO, Z3z (show i < ss.length by omega) (by omega)]; rfl) ⟨Nat.lt_succ_self _, by show i + 1 ≤ _; omega, by show c0 :: e0 = _; rw [pRow_start, ← hL, List.append_nil]⟩ ?_
  all_goals
    have hi' : i < ss.length := by omega
    clear hL hLl hLb
    rintro ⟨k, M⟩ ⟨hik, hk, hM⟩
    have hik : i < k := hik
    have hk : k ≤ ss.length := hk
    have hM : M = pAll (dirQ ss) ss.length i ++ pRow (dirQ ss) i k := hM
    have hMl : M.length ≤ 4160 := by
      rw [hM, List.length_append]
      have h1 := pAll_len (dirQ ss) ss.length i
      have h2 := pRow_len (dirQ ss) i k
      have h3 : i * ss.length ≤ 64 * 64 := Nat.mul_le_mul (by omega) hs
      omega
    obtain _ | ⟨d, r⟩ := M
    case' nil =>
      simp (maxSteps := 3000000) only [↓Z28, ↓Z34, ↓Z25, ↓Z0x, ↓Z27, ↓Z1x, Z3t, Z3u, ↓Z35, ↓Z24, ↓Z1e, ↓Z26, ↓Z23, ↓Z31, ↓Z33, ↓Z32, ↓Z1l, ↓Z1o, ↓Z1m, ↓Z1n, ↓Z30, ↓Z3x, ↓Z3w, ↓Z2x, ↓Z2z, ↓Z2y, ↓Z3n, ↓Z3p, ↓Z3o, ↓Z0i, ↓Z08, ↓Z15, ↓Z14, ↓Z13, Z4h, Z0z, Z10, Z3j, Z11, Z3v, evN, Z2k, Z2p, Z3q, Z3r, Z2n, Z1i, Z2l, Z22, Z1q, Z1p, Z16, Z2m, evT, Opd.ev, Z0e, Z05, Z3l, Z3k, Z3m, Z1k, Z12, Z2v, Z2u, Z2t, Z2a, Z29, Z42, LOp.isNew, State.prune, Z3a, Z36, AV.leaf, Heap.at, Z0r, Z09, Z04, Z0c, Z02, Z4g, Z4l, Z2s, Z2r, Z2q, Z1r, Z17, Z03, Z0a, Z01, Z00, Z1v, rowI, rowU, RatG.row, LocG.row, ActG.row, StepG.row, StampG.row, ActG.av, ActG.eta, RatG.eta, LocG.eta, beq_true, beq_false, Z1w, Z21, Z2d, Z1j, Z2b, Z1y, Z2c, Z0w, Z0h, Z0u, Z0v, Z0g, Z0f, Z07, List.length_set, List.length_replicate, Int.toNat_natCast, Int.reduceToNat, Z4f, Z1h, Z40, Src.all, Src.len, Src.leaf, Src.leafN, Z2h, Z3f, Z45, Z0j, Z0k, Z0l, Z0m, Z0n, Z0o, Z0p, Z0q, Z43, drows, evMk, List.length_map, Z0y, Z1f, List.take_length, List.take_left, List.length_append, Nat.le_add_right, ite_self, List.take_of_length_le, Z38, Z48, Z3y, Option.isSome_none, Option.isSome_some, Nat.sub_zero, Z46, Z4b, Z4e, evUn, binT, binQ, chk, Z3b, List.contains_cons, List.contains_nil, Bool.or_false, Bool.false_or, Bool.and_self, resQ, resV, resT, Z4c, Z2i, Z3i, Z3h, fnOf, Z3c, isD, HO.drow, Z4a, Z3d, evEq, eqV, eqK, eqC1, Z3g, Z3e, Z2g, Z2f, Z3s, Z2w, Z41, Z39, Z1u, Z1a, Z1t, Z19, Z1s, Z18, Z1b, Z0s, Z0t, Z0b, List.mem_cons, List.not_mem_nil, or_false, forall_eq, putRow, Z37, Z2o, RetS, RetF, RetD, AV.frz, AV.frzL, AV.freshP, AV.freshL, DV.less, Z1z, Z1c, Z20, Z1d, Z1g, Z0d, Z06, Option.some.injEq, AV.tup.injEq, AV.agg.injEq, List.cons.injEq, DV.list.injEq, List.isEmpty_nil, Nat.le_refl, AV.d.injEq, DV.int.injEq, DV.bool.injEq, ↓reduceIte, Nat.reduceEqDiff, Nat.reduceAdd, Nat.reduceBEq, List.length_cons, List.length_nil, List.replicate_succ, List.replicate_zero, List.nil_append, List.cons_append, List.append_nil, List.foldl_cons, List.foldl_nil, List.map_cons, List.map_nil, List.all_cons, List.all_nil, List.set_cons_zero, List.set_cons_succ, List.getD_cons_zero, List.getD_cons_succ, List.drop_zero, List.drop_succ_cons, List.take_succ_cons, List.take_zero, List.flatten_cons, List.flatten_nil, Bool.true_and, Bool.and_true, Bool.not_true, Bool.not_false, true_and, and_true, true_or, or_true, Option.bind_some, Option.map_some, decide_true, decide_false, beq_self_eq_true, true_implies, false_implies, implies_true, not_true_eq_false, not_false_eq_true, and_self, Bool.and_false, Bool.false_and, Nat.reduceLT, Nat.reduceLeDiff, List.reverse_cons, List.reverse_nil, Nat.zero_add, Nat.add_zero, Bool.false_eq_true, List.getElem?_cons_zero, ordSt2, accAV, accO, F1, G1, F2, G2, F3, G3, at_ratomic, at_Of0, at_Plus, Z04, Z01]
    case' cons =>
      simp (maxSteps := 3000000) only [↓Z28, ↓Z34, ↓Z25, ↓Z0x, ↓Z27, ↓Z1x, Z3t, Z3u, ↓Z35, ↓Z24, ↓Z1e, ↓Z26, ↓Z23, ↓Z31, ↓Z33, ↓Z32, ↓Z1l, ↓Z1o, ↓Z1m, ↓Z1n, ↓Z30, ↓Z3x, ↓Z3w, ↓Z2x, ↓Z2z, ↓Z2y, ↓Z3n, ↓Z3p, ↓Z3o, ↓Z0i, ↓Z08, ↓Z15, ↓Z14, ↓Z13, Z4h, Z0z, Z10, Z3j, Z11, Z3v, evN, Z2k, Z2p, Z3q, Z3r, Z2n, Z1i, Z2l, Z22, Z1q, Z1p, Z16, Z2m, evT, Opd.ev, Z0e, Z05, Z3l, Z3k, Z3m, Z1k, Z12, Z2v, Z2u, Z2t, Z2a, Z29, Z42, LOp.isNew, State.prune, Z3a, Z36, AV.leaf, Heap.at, Z0r, Z09, Z04, Z0c, Z02, Z4g, Z4l, Z2s, Z2r, Z2q, Z1r, Z17, Z03, Z0a, Z01, Z00, Z1v, rowI, rowU, RatG.row, LocG.row, ActG.row, StepG.row, StampG.row, ActG.av, ActG.eta, RatG.eta, LocG.eta, beq_true, beq_false, Z1w, Z21, Z2d, Z1j, Z2b, Z1y, Z2c, Z0w, Z0h, Z0u, Z0v, Z0g, Z0f, Z07, List.length_set, List.length_replicate, Int.toNat_natCast, Int.reduceToNat, Z4f, Z1h, Z40, Src.all, Src.len, Src.leaf, Src.leafN, Z2h, Z3f, Z45, Z0j, Z0k, Z0l, Z0m, Z0n, Z0o, Z0p, Z0q, Z43, drows, evMk, List.length_map, Z0y, Z1f, List.take_length, List.take_left, List.length_append, Nat.le_add_right, ite_self, List.take_of_length_le, Z38, Z48, Z3y, Option.isSome_none, Option.isSome_some, Nat.sub_zero, Z46, Z4b, Z4e, evUn, binT, binQ, chk, Z3b, List.contains_cons, List.contains_nil, Bool.or_false, Bool.false_or, Bool.and_self, resQ, resV, resT, Z4c, Z2i, Z3i, Z3h, fnOf, Z3c, isD, HO.drow, Z4a, Z3d, evEq, eqV, eqK, eqC1, Z3g, Z3e, Z2g, Z2f, Z3s, Z2w, Z41, Z39, Z1u, Z1a, Z1t, Z19, Z1s, Z18, Z1b, Z0s, Z0t, Z0b, List.mem_cons, List.not_mem_nil, or_false, forall_eq, putRow, Z37, Z2o, RetS, RetF, RetD, AV.frz, AV.frzL, AV.freshP, AV.freshL, DV.less, Z1z, Z1c, Z20, Z1d, Z1g, Z0d, Z06, Option.some.injEq, AV.tup.injEq, AV.agg.injEq, List.cons.injEq, DV.list.injEq, List.isEmpty_nil, Nat.le_refl, AV.d.injEq, DV.int.injEq, DV.bool.injEq, ↓reduceIte, Nat.reduceEqDiff, Nat.reduceAdd, Nat.reduceBEq, List.length_cons, List.length_nil, List.replicate_succ, List.replicate_zero, List.nil_append, List.cons_append, List.append_nil, List.foldl_cons, List.foldl_nil, List.map_cons, List.map_nil, List.all_cons, List.all_nil, List.set_cons_zero, List.set_cons_succ, List.getD_cons_zero, List.getD_cons_succ, List.drop_zero, List.drop_succ_cons, List.take_succ_cons, List.take_zero, List.flatten_cons, List.flatten_nil, Bool.true_and, Bool.and_true, Bool.not_true, Bool.not_false, true_and, and_true, true_or, or_true, Option.bind_some, Option.map_some, decide_true, decide_false, beq_self_eq_true, true_implies, false_implies, implies_true, not_true_eq_false, not_false_eq_true, and_self, Bool.and_false, Bool.false_and, Nat.reduceLT, Nat.reduceLeDiff, List.reverse_cons, List.reverse_nil, Nat.zero_add, Nat.add_zero, Bool.false_eq_true, List.getElem?_cons_zero, ordSt2, accAV, accO, F1, G1, F2, G2, F3, G3, at_ratomic, at_OfC, at_Plus, Z04, Z01]
    case' nil =>
      refine ⟨fun c => ⟨⟨by omega, by omega⟩, ?_⟩, fun c => ?_⟩
    case' cons =>
      refine ⟨fun c => ⟨⟨by omega, by omega⟩, ?_⟩, fun c => ?_⟩
    case nil.refine_2 =>
      have hke : k = ss.length := by omega
      subst hke
      exact Z2e.mk [] (i + 1, []) (by simp) (by simp) (by simp only [State.can, AV.can, AV.canL, HO.can, Z2j, idx, Z0e, Z05, Heap.at, Nat.reduceBEq, ↓reduceIte, Nat.reduceEqDiff, Option.getD_some, Option.map_some, List.map_cons, List.map_nil, List.getD_cons_zero, List.getD_cons_succ, ordSt1, accAV, accO, Z3z hi' (by omega)]) ⟨by show i + 1 ≤ _; omega, by show [] = _; rw [pAll_succ, ← hM]⟩ (by show _ - (i + 1) < _ - i; omega)
    case cons.refine_2 =>
      have hke : k = ss.length := by omega
      subst hke
      exact Z2e.mk [1] (i + 1, d :: r) (by simp) (by simp) (by simp only [State.can, AV.can, AV.canL, HO.can, Z2j, idx, Z0e, Z05, Heap.at, Nat.reduceBEq, ↓reduceIte, Nat.reduceEqDiff, Option.getD_some, Option.map_some, List.map_cons, List.map_nil, List.getD_cons_zero, List.getD_cons_succ, ordSt1, accAV, accO, Z3z hi' (by omega)]; rfl) ⟨by show i + 1 ≤ _; omega, by show d :: r = _; rw [pAll_succ, ← hM]⟩ (by show _ - (i + 1) < _ - i; omega)
    case nil.refine_1 =>
      have hkl : k < ss.length := by omega
      have hq : dirQ ss i k = dirB (ss.getD i default) (ss.getD k default) := rfl
      have yes : dirB (ss.getD i default) (ss.getD k default) = true → [⟨(i : Int), (k : Int)⟩] = pAll (dirQ ss) ss.length i ++ pRow (dirQ ss) i (k + 1) := fun h => by
        rw [pRow_succ _ hik, if_pos (hq.trans h), ← List.append_assoc, ← hM]; rfl
      have no : dirB (ss.getD i default) (ss.getD k default) = false → [] = pAll (dirQ ss) ss.length i ++ pRow (dirQ ss) i (k + 1) := fun h => by
        rw [pRow_succ _ hik, if_neg (by rw [hq.trans h]; decide), List.append_nil, ← hM]
      have hroom : roomy 1 16 := Z4j (by decide) (by decide)
      clear hq hM
      refine ⟨fun c => ⟨hroom, ?_⟩, fun c => ⟨fun c1 => ⟨fun c2 => ⟨fun c3 => ⟨hroom, ?_⟩, fun c3 => ?_⟩, fun c2 => ?_⟩, fun c1 => ?_⟩⟩
      all_goals first
        | exact Z2e.mk [0, 3] (k + 1, [⟨(i : Int), (k : Int)⟩]) (by simp) (by simp) (by simp only [State.can, AV.can, AV.canL, HO.can, Z2j, idx, Z0e, Z05, Heap.at, Nat.reduceBEq, ↓reduceIte, Nat.reduceEqDiff, Option.getD_some, Option.map_some, List.map_cons, List.map_nil, List.getD_cons_zero, List.getD_cons_succ, ordSt2, accAV, accO, List.length_append, List.length_singleton, Z3z hkl (by omega)]; rfl) ⟨by show i < k + 1; omega, by show k + 1 ≤ _; omega, yes (by first | exact dirB_1 ‹_› | exact dirB_2 ‹_› ‹_› ‹_›)⟩ (by show _ - (k + 1) < _ - k; omega)
        | exact Z2e.mk [0] (k + 1, []) (by simp) (by simp) (by simp only [State.can, AV.can, AV.canL, HO.can, Z2j, idx, Z0e, Z05, Heap.at, Nat.reduceBEq, ↓reduceIte, Nat.reduceEqDiff, Option.getD_some, Option.map_some, List.map_cons, List.map_nil, List.getD_cons_zero, List.getD_cons_succ, ordSt2, accAV, accO, List.length_append, List.length_singleton, Z3z hkl (by omega)]) ⟨by show i < k + 1; omega, by show k + 1 ≤ _; omega, no (by first | exact dirB_3 ‹_› ‹_› | exact dirB_4 ‹_› ‹_› | exact dirB_5 ‹_› ‹_›)⟩ (by show _ - (k + 1) < _ - k; omega)
    case cons.refine_1 =>
      have hkl : k < ss.length := by omega
      have hq : dirQ ss i k = dirB (ss.getD i default) (ss.getD k default) := rfl
      have yes : dirB (ss.getD i default) (ss.getD k default) = true → d :: (r ++ [⟨(i : Int), (k : Int)⟩]) = pAll (dirQ ss) ss.length i ++ pRow (dirQ ss) i (k + 1) := fun h => by
        rw [pRow_succ _ hik, if_pos (hq.trans h), ← List.append_assoc, ← hM]; rfl
      have no : dirB (ss.getD i default) (ss.getD k default) = false → d :: r = pAll (dirQ ss) ss.length i ++ pRow (dirQ ss) i (k + 1) := fun h => by
        rw [pRow_succ _ hik, if_neg (by rw [hq.trans h]; decide), List.append_nil, ← hM]
      have hroom : roomy (r.length + 1 + 1) 16 := Z4j (by have := hMl; simp only [List.length_cons] at this; omega) (by decide)
      clear hq hM
      refine ⟨fun c => ⟨hroom, ?_⟩, fun c => ⟨fun c1 => ⟨fun c2 => ⟨fun c3 => ⟨hroom, ?_⟩, fun c3 => ?_⟩, fun c2 => ?_⟩, fun c1 => ?_⟩⟩
      all_goals first
        | exact Z2e.mk [0, 4] (k + 1, d :: (r ++ [⟨(i : Int), (k : Int)⟩])) (by simp) (by simp) (by simp only [State.can, AV.can, AV.canL, HO.can, Z2j, idx, Z0e, Z05, Heap.at, Nat.reduceBEq, ↓reduceIte, Nat.reduceEqDiff, Option.getD_some, Option.map_some, List.map_cons, List.map_nil, List.getD_cons_zero, List.getD_cons_succ, ordSt2, accAV, accO, List.length_append, List.length_singleton, Z3z hkl (by omega)]; rfl) ⟨by show i < k + 1; omega, by show k + 1 ≤ _; omega, yes (by first | exact dirB_1 ‹_› | exact dirB_2 ‹_› ‹_› ‹_›)⟩ (by show _ - (k + 1) < _ - k; omega)
        | exact Z2e.mk [0, 1] (k + 1, d :: r) (by simp) (by simp) (by simp only [State.can, AV.can, AV.canL, HO.can, Z2j, idx, Z0e, Z05, Heap.at, Nat.reduceBEq, ↓reduceIte, Nat.reduceEqDiff, Option.getD_some, Option.map_some, List.map_cons, List.map_nil, List.getD_cons_zero, List.getD_cons_succ, ordSt2, accAV, accO, List.length_append, List.length_singleton, Z3z hkl (by omega)]; rfl) ⟨by show i < k + 1; omega, by show k + 1 ≤ _; omega, no (by first | exact dirB_3 ‹_› ‹_› | exact dirB_4 ‹_› ‹_› | exact dirB_5 ‹_› ‹_›)⟩ (by show _ - (k + 1) < _ - k; omega)
end Go.Ago

/- Package race: Order and Races. Conditions: none. -/
set_option maxRecDepth 100000
set_option linter.unusedSimpArgs false
set_option linter.unusedVariables false
namespace Go.Ago
theorem playErr_len {l : List LocG} {t : Int} {ss : List StepG} (h : playErr l t ss = 0) : ss.length ≤ 64 := by
  unfold playErr at h
  split at h
  · cases h
  · omega
/-! ### Order -/
def ordL (l : List LocG) (t : Int) (ss : List StepG) : List W := if playErr l t ss = 0 then ordG ss else []
def sp_rOrder : Sp := ⟨List LocG × Bool × Int × List StepG × Bool, fun x => [.d (.list (x.1.map LocG.row) x.2.1), .d (.int .i64 x.2.2.1), .d (.list (x.2.2.2.1.map StepG.row) x.2.2.2.2)],
  fun x => .data (x.1.length ≤ maxLen ∧ x.2.2.2.1.length ≤ maxLen) (.tup [.d (.list ((ordL x.1 x.2.2.1 x.2.2.2.1).map rowW) false), .d (.int .i64 (playErr x.1 x.2.2.1 x.2.2.2.1))]) false⟩
theorem at_rOrder (l : List LocG) (f : Bool) (t : Int) (ss : List StepG) (g : Bool) : sp_rOrder.at [.d (.list (l.map LocG.row) f), .d (.int .i64 t), .d (.list (ss.map StepG.row) g)] =
    .data (l.length ≤ maxLen ∧ ss.length ≤ maxLen) (.tup [.d (.list ((ordL l t ss).map rowW) false), .d (.int .i64 (playErr l t ss))]) false :=
  Sp.at_enc (s := sp_rOrder) (fun x y h => by
    obtain ⟨l, f, t, ss, g⟩ := x; obtain ⟨l', f', t', ss', g'⟩ := y
    simp only [sp_rOrder, List.cons.injEq, AV.d.injEq, DV.list.injEq, DV.int.injEq, and_true, true_and] at h
    obtain ⟨⟨h1, h2⟩, h3, h4, h5⟩ := h
    rw [Z4p LocG.row_inj h1, h2, h3, Z4p StepG.row_inj h4, h5]) (l, f, t, ss, g)
theorem body_race_Order {T : Tab} {n1 n2 : Nat} (k1 : Knows T n1 sp_played) (k2 : Knows T n2 sp_ordered) : sp_rOrder.Body T V_race_Order (L_race_Order n1 n2) R_race_Order := by
  have F1 := k1.F; have G1 := k1.G; have F2 := k2.F; have G2 := k2.G
  rintro ⟨l, f, t, ss, g⟩ ⟨hl, hs⟩
  have hl : l.length ≤ maxLen := hl
  have hs : ss.length ≤ maxLen := hs
  refine ⟨rfl, ?_⟩
  unfold V_race_Order L_race_Order R_race_Order
  simp (maxSteps := 3000000) only [↓Z28, ↓Z34, ↓Z25, ↓Z0x, ↓Z27, ↓Z1x, Z3t, Z3u, ↓Z35, ↓Z24, ↓Z1e, ↓Z26, ↓Z23, ↓Z31, ↓Z33, ↓Z32, ↓Z1l, ↓Z1o, ↓Z1m, ↓Z1n, ↓Z30, ↓Z3x, ↓Z3w, ↓Z2x, ↓Z2z, ↓Z2y, ↓Z3n, ↓Z3p, ↓Z3o, ↓Z0i, ↓Z08, ↓Z15, ↓Z14, ↓Z13, Z4h, Z0z, Z10, Z3j, Z11, Z3v, evN, Z2k, Z2p, Z3q, Z3r, Z2n, Z1i, Z2l, Z22, Z1q, Z1p, Z16, Z2m, evT, Opd.ev, Z0e, Z05, Z3l, Z3k, Z3m, Z1k, Z12, Z2v, Z2u, Z2t, Z2a, Z29, Z42, LOp.isNew, State.prune, Z3a, Z36, AV.leaf, Heap.at, Z0r, Z09, Z04, Z0c, Z02, Z4g, Z4l, Z2s, Z2r, Z2q, Z1r, Z17, Z03, Z0a, Z01, Z00, Z1v, rowI, rowU, RatG.row, LocG.row, ActG.row, StepG.row, StampG.row, ActG.av, ActG.eta, RatG.eta, LocG.eta, beq_true, beq_false, Z1w, Z21, Z2d, Z1j, Z2b, Z1y, Z2c, Z0w, Z0h, Z0u, Z0v, Z0g, Z0f, Z07, List.length_set, List.length_replicate, Int.toNat_natCast, Int.reduceToNat, Z4f, Z1h, Z40, Src.all, Src.len, Src.leaf, Src.leafN, Z2h, Z3f, Z45, Z0j, Z0k, Z0l, Z0m, Z0n, Z0o, Z0p, Z0q, Z43, drows, evMk, List.length_map, Z0y, Z1f, List.take_length, List.take_left, List.length_append, Nat.le_add_right, ite_self, List.take_of_length_le, Z38, Z48, Z3y, Option.isSome_none, Option.isSome_some, Nat.sub_zero, Z46, Z4b, Z4e, evUn, binT, binQ, chk, Z3b, List.contains_cons, List.contains_nil, Bool.or_false, Bool.false_or, Bool.and_self, resQ, resV, resT, Z4c, Z2i, Z3i, Z3h, fnOf, Z3c, isD, HO.drow, Z4a, Z3d, evEq, eqV, eqK, eqC1, Z3g, Z3e, Z2g, Z2f, Z3s, Z2w, Z41, Z39, Z1u, Z1a, Z1t, Z19, Z1s, Z18, Z1b, Z0s, Z0t, Z0b, List.mem_cons, List.not_mem_nil, or_false, forall_eq, putRow, Z37, Z2o, RetS, RetF, RetD, AV.frz, AV.frzL, AV.freshP, AV.freshL, DV.less, Z1z, Z1c, Z20, Z1d, Z1g, Z0d, Z06, Option.some.injEq, AV.tup.injEq, AV.agg.injEq, List.cons.injEq, DV.list.injEq, List.isEmpty_nil, Nat.le_refl, AV.d.injEq, DV.int.injEq, DV.bool.injEq, ↓reduceIte, Nat.reduceEqDiff, Nat.reduceAdd, Nat.reduceBEq, List.length_cons, List.length_nil, List.replicate_succ, List.replicate_zero, List.nil_append, List.cons_append, List.append_nil, List.foldl_cons, List.foldl_nil, List.map_cons, List.map_nil, List.all_cons, List.all_nil, List.set_cons_zero, List.set_cons_succ, List.getD_cons_zero, List.getD_cons_succ, List.drop_zero, List.drop_succ_cons, List.take_succ_cons, List.take_zero, List.flatten_cons, List.flatten_nil, Bool.true_and, Bool.and_true, Bool.not_true, Bool.not_false, true_and, and_true, true_or, or_true, Option.bind_some, Option.map_some, decide_true, decide_false, beq_self_eq_true, true_implies, false_implies, implies_true, not_true_eq_false, not_false_eq_true, and_self, Bool.and_false, Bool.false_and, Nat.reduceLT, Nat.reduceLeDiff, List.reverse_cons, List.reverse_nil, Nat.zero_add, Nat.add_zero, Bool.false_eq_true, List.getElem?_cons_zero, sp_rOrder, F1, G1, F2, G2, at_played, at_ordered, Z04, Z01]
  unfold ordL
  refine ⟨⟨hl, hs⟩, fun he => ⟨playErr_len he, ?_⟩, fun he => ?_⟩
  · rw [if_pos he]
    exact ⟨rfl, he.symm⟩
  · rw [if_neg he]; rfl
/-! ### Races -/
theorem pl2 : isPl 2 = true := rfl
def rcB (R : List W) (ss : List StepG) (i k : Nat) : Bool :=
  isPl (ss.getD i default).act.kind && isPl (ss.getD k default).act.kind && decide ((ss.getD i default).act.loc = (ss.getD k default).act.loc) && !decide ((ss.getD i default).thread = (ss.getD k default).thread)
    && (decide ((ss.getD i default).act.kind = 2) || decide ((ss.getD k default).act.kind = 2)) && !hasI R i k
def racesL (l : List LocG) (t : Int) (ss : List StepG) : List RatG := if playErr l t ss = 0 then pAll (rcB (ordG ss) ss) ss.length ss.length else []
def sp_Races : Sp := ⟨List LocG × Bool × Int × List StepG × Bool, fun x => [.d (.list (x.1.map LocG.row) x.2.1), .d (.int .i64 x.2.2.1), .d (.list (x.2.2.2.1.map StepG.row) x.2.2.2.2)],
  fun x => .data (x.1.length ≤ maxLen ∧ x.2.2.2.1.length ≤ maxLen) (.tup [.d (.list ((racesL x.1 x.2.2.1 x.2.2.2.1).map RatG.row) false), .d (.int .i64 (playErr x.1 x.2.2.1 x.2.2.2.1))]) false⟩
theorem at_Races (l : List LocG) (f : Bool) (t : Int) (ss : List StepG) (g : Bool) : sp_Races.at [.d (.list (l.map LocG.row) f), .d (.int .i64 t), .d (.list (ss.map StepG.row) g)] =
    .data (l.length ≤ maxLen ∧ ss.length ≤ maxLen) (.tup [.d (.list ((racesL l t ss).map RatG.row) false), .d (.int .i64 (playErr l t ss))]) false :=
  Sp.at_enc (s := sp_Races) (fun x y h => by
    obtain ⟨l, f, t, ss, g⟩ := x; obtain ⟨l', f', t', ss', g'⟩ := y
    simp only [sp_Races, List.cons.injEq, AV.d.injEq, DV.list.injEq, DV.int.injEq, and_true, true_and] at h
    obtain ⟨⟨h1, h2⟩, h3, h4, h5⟩ := h
    rw [Z4p LocG.row_inj h1, h2, h3, Z4p StepG.row_inj h4, h5]) (l, f, t, ss, g)
def raSt1 (ss : List StepG) (g : Bool) (R : List W) (x : Nat × List RatG) : State :=
  ⟨[(2, .d (.list (ss.map StepG.row) g)), (29, .d (.list (ss.map StepG.row) g)), (30, .d (.int .i64 ss.length)), (31, .d (.int .i64 x.1)), (10, .ref 0 1 0 R.length true), (11, accAV 1 x.2)], .dvec 1 (R.map rowW) :: accO x.2⟩
def raSt2 (ss : List StepG) (g : Bool) (R : List W) (i : Nat) (x : Nat × List RatG) : State :=
  ⟨[(2, .d (.list (ss.map StepG.row) g)), (29, .d (.list (ss.map StepG.row) g)), (30, .d (.int .i64 ss.length)), (31, .d (.int .i64 i)), (12, .d (.int .i64 i)), (13, .ptr 1 7 0 0), (10, .ref 0 1 0 R.length true), (14, .d (.int .i64 x.1)), (11, accAV 2 x.2)],
    .dvec 1 (R.map rowW) :: .vec 7 [[.d (.int .i64 (ss.getD i default).thread), .d (.int .i64 (ss.getD i default).act.kind), .d (.int .i64 (ss.getD i default).act.loc), .d (.int .i64 (ss.getD i default).act.old), .d (.int .i64 (ss.getD i default).act.new), .d (.int .i64 (ss.getD i default).when.num), .d (.int .i64 (ss.getD i default).when.den)]] :: accO x.2⟩
theorem ordG_le {ss : List StepG} : (ordG ss).length ≤ 64 := by
  unfold ordG plusG
  rw [mkR_len]
  exact szR_le _
set_option maxHeartbeats 4000000 in
theorem body_race_Races {T : Tab} {n1 n2 n3 n4 : Nat} (k1 : Knows T n1 sp_Has) (k2 : Knows T n2 sp_played) (k3 : Knows T n3 sp_ordered) (k4 : Knows T n4 sp_rplain) : sp_Races.Body T V_race_Races (L_race_Races n1 n2 n3 n4) R_race_Races := by
  have F1 := k1.F; have G1 := k1.G; have F2 := k2.F; have G2 := k2.G; have F3 := k3.F; have G3 := k3.G; have F4 := k4.F; have G4 := k4.G
  rintro ⟨l, f, t, ss, g⟩ ⟨hl, hs⟩
  have hl : l.length ≤ maxLen := hl
  have hs : ss.length ≤ maxLen := hs
  refine ⟨rfl, ?_⟩
  unfold V_race_Races L_race_Races R_race_Races
  simp (maxSteps := 3000000) only [↓Z28, ↓Z34, ↓Z25, ↓Z0x, ↓Z27, ↓Z1x, Z3t, Z3u, ↓Z35, ↓Z24, ↓Z1e, ↓Z26, ↓Z23, ↓Z31, ↓Z33, ↓Z32, ↓Z1l, ↓Z1o, ↓Z1m, ↓Z1n, ↓Z30, ↓Z3x, ↓Z3w, ↓Z2x, ↓Z2z, ↓Z2y, ↓Z3n, ↓Z3p, ↓Z3o, ↓Z0i, ↓Z08, ↓Z15, ↓Z14, ↓Z13, Z4h, Z0z, Z10, Z3j, Z11, Z3v, evN, Z2k, Z2p, Z3q, Z3r, Z2n, Z1i, Z2l, Z22, Z1q, Z1p, Z16, Z2m, evT, Opd.ev, Z0e, Z05, Z3l, Z3k, Z3m, Z1k, Z12, Z2v, Z2u, Z2t, Z2a, Z29, Z42, LOp.isNew, State.prune, Z3a, Z36, AV.leaf, Heap.at, Z0r, Z09, Z04, Z0c, Z02, Z4g, Z4l, Z2s, Z2r, Z2q, Z1r, Z17, Z03, Z0a, Z01, Z00, Z1v, rowI, rowU, RatG.row, LocG.row, ActG.row, StepG.row, StampG.row, ActG.av, ActG.eta, RatG.eta, LocG.eta, beq_true, beq_false, Z1w, Z21, Z2d, Z1j, Z2b, Z1y, Z2c, Z0w, Z0h, Z0u, Z0v, Z0g, Z0f, Z07, List.length_set, List.length_replicate, Int.toNat_natCast, Int.reduceToNat, Z4f, Z1h, Z40, Src.all, Src.len, Src.leaf, Src.leafN, Z2h, Z3f, Z45, Z0j, Z0k, Z0l, Z0m, Z0n, Z0o, Z0p, Z0q, Z43, drows, evMk, List.length_map, Z0y, Z1f, List.take_length, List.take_left, List.length_append, Nat.le_add_right, ite_self, List.take_of_length_le, Z38, Z48, Z3y, Option.isSome_none, Option.isSome_some, Nat.sub_zero, Z46, Z4b, Z4e, evUn, binT, binQ, chk, Z3b, List.contains_cons, List.contains_nil, Bool.or_false, Bool.false_or, Bool.and_self, resQ, resV, resT, Z4c, Z2i, Z3i, Z3h, fnOf, Z3c, isD, HO.drow, Z4a, Z3d, evEq, eqV, eqK, eqC1, Z3g, Z3e, Z2g, Z2f, Z3s, Z2w, Z41, Z39, Z1u, Z1a, Z1t, Z19, Z1s, Z18, Z1b, Z0s, Z0t, Z0b, List.mem_cons, List.not_mem_nil, or_false, forall_eq, putRow, Z37, Z2o, RetS, RetF, RetD, AV.frz, AV.frzL, AV.freshP, AV.freshL, DV.less, Z1z, Z1c, Z20, Z1d, Z1g, Z0d, Z06, Option.some.injEq, AV.tup.injEq, AV.agg.injEq, List.cons.injEq, DV.list.injEq, List.isEmpty_nil, Nat.le_refl, AV.d.injEq, DV.int.injEq, DV.bool.injEq, ↓reduceIte, Nat.reduceEqDiff, Nat.reduceAdd, Nat.reduceBEq, List.length_cons, List.length_nil, List.replicate_succ, List.replicate_zero, List.nil_append, List.cons_append, List.append_nil, List.foldl_cons, List.foldl_nil, List.map_cons, List.map_nil, List.all_cons, List.all_nil, List.set_cons_zero, List.set_cons_succ, List.getD_cons_zero, List.getD_cons_succ, List.drop_zero, List.drop_succ_cons, List.take_succ_cons, List.take_zero, List.flatten_cons, List.flatten_nil, Bool.true_and, Bool.and_true, Bool.not_true, Bool.not_false, true_and, and_true, true_or, or_true, Option.bind_some, Option.map_some, decide_true, decide_false, beq_self_eq_true, true_implies, false_implies, implies_true, not_true_eq_false, not_false_eq_true, and_self, Bool.and_false, Bool.false_and, Nat.reduceLT, Nat.reduceLeDiff, List.reverse_cons, List.reverse_nil, Nat.zero_add, Nat.add_zero, Bool.false_eq_true, List.getElem?_cons_zero, sp_Races, F1, G1, F2, G2, F3, G3, F4, G4, at_played, at_ordered, at_rplain, at_Has, Z04, Z01]
  refine ⟨⟨hl, hs⟩, fun he => ⟨playErr_len he, ?_⟩, fun he => by unfold racesL; rw [if_neg he]; rfl⟩
  have hs := playErr_len he
  have hm : maxLen = 9223372036854775807 := rfl
  have hRl : (ordG ss).length ≤ maxLen := Nat.le_trans ordG_le (by decide)
  have hra : racesL l t ss = pAll (rcB (ordG ss) ss) ss.length ss.length := by unfold racesL; rw [if_pos he]
  rw [hra, he]
  generalize ordG ss = R at *
  refine Loop.fam [2, 29, 30, 31, 10, 11] (raSt1 ss g R) (fun x => x.1 ≤ ss.length ∧ x.2 = pAll (rcB R ss) ss.length x.1) (fun x => ss.length - x.1) (0, []) [0] (by simp) (by simp) (by simp only [State.can, AV.can, AV.canL, HO.can, Z2j, idx, Z0e, Z05, Heap.at, Nat.reduceBEq, ↓reduceIte, Nat.reduceEqDiff, Option.getD_some, Option.map_some, List.map_cons, List.map_nil, List.getD_cons_zero, List.getD_cons_succ, raSt1, accAV, accO]; rfl) ⟨Nat.zero_le _, rfl⟩ ?_
  rintro ⟨i, L⟩ ⟨hi, hL⟩
  have hi : i ≤ ss.length := hi
  have hL : L = pAll (rcB R ss) ss.length i := hL
  have hLl : L.length ≤ i * ss.length := by rw [hL]; exact pAll_len _ _ _
  have hLb : L.length ≤ 64 * 64 := Nat.le_trans hLl (Nat.mul_le_mul (by omega) hs)
  obtain _ | ⟨c0, e0⟩ := L
  case' nil =>
    simp (maxSteps := 3000000) only [↓Z28, ↓Z34, ↓Z25, ↓Z0x, ↓Z27, ↓Z1x, Z3t, Z3u, ↓Z35, ↓Z24, ↓Z1e, ↓Z26, ↓Z23, ↓Z31, ↓Z33, ↓Z32, ↓Z1l, ↓Z1o, ↓Z1m, ↓Z1n, ↓Z30, ↓Z3x, ↓Z3w, ↓Z2x, ↓Z2z, ↓Z2y, ↓Z3n, ↓Z3p, ↓Z3o, ↓Z0i, ↓Z08, ↓Z15, ↓Z14, ↓Z13, Z4h, Z0z, Z10, Z3j, Z11, Z3v, evN, Z2k, Z2p, Z3q, Z3r, Z2n, Z1i, Z2l, Z22, Z1q, Z1p, Z16, Z2m, evT, Opd.ev, Z0e, Z05, Z3l, Z3k, Z3m, Z1k, Z12, Z2v, Z2u, Z2t, Z2a, Z29, Z42, LOp.isNew, State.prune, Z3a, Z36, AV.leaf, Heap.at, Z0r, Z09, Z04, Z0c, Z02, Z4g, Z4l, Z2s, Z2r, Z2q, Z1r, Z17, Z03, Z0a, Z01, Z00, Z1v, rowI, rowU, RatG.row, LocG.row, ActG.row, StepG.row, StampG.row, ActG.av, ActG.eta, RatG.eta, LocG.eta, beq_true, beq_false, Z1w, Z21, Z2d, Z1j, Z2b, Z1y, Z2c, Z0w, Z0h, Z0u, Z0v, Z0g, Z0f, Z07, List.length_set, List.length_replicate, Int.toNat_natCast, Int.reduceToNat, Z4f, Z1h, Z40, Src.all, Src.len, Src.leaf, Src.leafN, Z2h, Z3f, Z45, Z0j, Z0k, Z0l, Z0m, Z0n, Z0o, Z0p, Z0q, Z43, drows, evMk, List.length_map, Z0y, Z1f, List.take_length, List.take_left, List.length_append, Nat.le_add_right, ite_self, List.take_of_length_le, Z38, Z48, Z3y, Option.isSome_none, Option.isSome_some, Nat.sub_zero, Z46, Z4b, Z4e, evUn, binT, binQ, chk, Z3b, List.contains_cons, List.contains_nil, Bool.or_false, Bool.false_or, Bool.and_self, resQ, resV, resT, Z4c, Z2i, Z3i, Z3h, fnOf, Z3c, isD, HO.drow, Z4a, Z3d, evEq, eqV, eqK, eqC1, Z3g, Z3e, Z2g, Z2f, Z3s, Z2w, Z41, Z39, Z1u, Z1a, Z1t, Z19, Z1s, Z18, Z1b, Z0s, Z0t, Z0b, List.mem_cons, List.not_mem_nil, or_false, forall_eq, putRow, Z37, Z2o, RetS, RetF, RetD, AV.frz, AV.frzL, AV.freshP, AV.freshL, DV.less, Z1z, Z1c, Z20, Z1d, Z1g, Z0d, Z06, Option.some.injEq, AV.tup.injEq, AV.agg.injEq, List.cons.injEq, DV.list.injEq, List.isEmpty_nil, Nat.le_refl, AV.d.injEq, DV.int.injEq, DV.bool.injEq, ↓reduceIte, Nat.reduceEqDiff, Nat.reduceAdd, Nat.reduceBEq, List.length_cons, List.length_nil, List.replicate_succ, List.replicate_zero, List.nil_append, List.cons_append, List.append_nil, List.foldl_cons, List.foldl_nil, List.map_cons, List.map_nil, List.all_cons, List.all_nil, List.set_cons_zero, List.set_cons_succ, List.getD_cons_zero, List.getD_cons_succ, List.drop_zero, List.drop_succ_cons, List.take_succ_cons, List.take_zero, List.flatten_cons, List.flatten_nil, Bool.true_and, Bool.and_true, Bool.not_true, Bool.not_false, true_and, and_true, true_or, or_true, Option.bind_some, Option.map_some, decide_true, decide_false, beq_self_eq_true, true_implies, false_implies, implies_true, not_true_eq_false, not_false_eq_true, and_self, Bool.and_false, Bool.false_and, Nat.reduceLT, Nat.reduceLeDiff, List.reverse_cons, List.reverse_nil, Nat.zero_add, Nat.add_zero, Bool.false_eq_true, List.getElem?_cons_zero, raSt1, accAV, accO, F1, G1, F2, G2, F3, G3, F4, G4, at_rplain, at_Has, Z04, Z01]
  case' cons =>
    simp (maxSteps := 3000000) only [↓Z28, ↓Z34, ↓Z25, ↓Z0x, ↓Z27, ↓Z1x, Z3t, Z3u, ↓Z35, ↓Z24, ↓Z1e, ↓Z26, ↓Z23, ↓Z31, ↓Z33, ↓Z32, ↓Z1l, ↓Z1o, ↓Z1m, ↓Z1n, ↓Z30, ↓Z3x, ↓Z3w, ↓Z2x, ↓Z2z, ↓Z2y, ↓Z3n, ↓Z3p, ↓Z3o, ↓Z0i, ↓Z08, ↓Z15, ↓Z14, ↓Z13, Z4h, Z0z, Z10, Z3j, Z11, Z3v, evN, Z2k, Z2p, Z3q, Z3r, Z2n, Z1i, Z2l, Z22, Z1q, Z1p, Z16, Z2m, evT, Opd.ev, Z0e, Z05, Z3l, Z3k, Z3m, Z1k, Z12, Z2v, Z2u, Z2t, Z2a, Z29, Z42, LOp.isNew, State.prune, Z3a, Z36, AV.leaf, Heap.at, Z0r, Z09, Z04, Z0c, Z02, Z4g, Z4l, Z2s, Z2r, Z2q, Z1r, Z17, Z03, Z0a, Z01, Z00, Z1v, rowI, rowU, RatG.row, LocG.row, ActG.row, StepG.row, StampG.row, ActG.av, ActG.eta, RatG.eta, LocG.eta, beq_true, beq_false, Z1w, Z21, Z2d, Z1j, Z2b, Z1y, Z2c, Z0w, Z0h, Z0u, Z0v, Z0g, Z0f, Z07, List.length_set, List.length_replicate, Int.toNat_natCast, Int.reduceToNat, Z4f, Z1h, Z40, Src.all, Src.len, Src.leaf, Src.leafN, Z2h, Z3f, Z45, Z0j, Z0k, Z0l, Z0m, Z0n, Z0o, Z0p, Z0q, Z43, drows, evMk, List.length_map, Z0y, Z1f, List.take_length, List.take_left, List.length_append, Nat.le_add_right, ite_self, List.take_of_length_le, Z38, Z48, Z3y, Option.isSome_none, Option.isSome_some, Nat.sub_zero, Z46, Z4b, Z4e, evUn, binT, binQ, chk, Z3b, List.contains_cons, List.contains_nil, Bool.or_false, Bool.false_or, Bool.and_self, resQ, resV, resT, Z4c, Z2i, Z3i, Z3h, fnOf, Z3c, isD, HO.drow, Z4a, Z3d, evEq, eqV, eqK, eqC1, Z3g, Z3e, Z2g, Z2f, Z3s, Z2w, Z41, Z39, Z1u, Z1a, Z1t, Z19, Z1s, Z18, Z1b, Z0s, Z0t, Z0b, List.mem_cons, List.not_mem_nil, or_false, forall_eq, putRow, Z37, Z2o, RetS, RetF, RetD, AV.frz, AV.frzL, AV.freshP, AV.freshL, DV.less, Z1z, Z1c, Z20, Z1d, Z1g, Z0d, Z06, Option.some.injEq, AV.tup.injEq, AV.agg.injEq, List.cons.injEq, DV.list.injEq, List.isEmpty_nil, Nat.le_refl, AV.d.injEq, DV.int.injEq, DV.bool.injEq, ↓reduceIte, Nat.reduceEqDiff, Nat.reduceAdd, Nat.reduceBEq, List.length_cons, List.length_nil, List.replicate_succ, List.replicate_zero, List.nil_append, List.cons_append, List.append_nil, List.foldl_cons, List.foldl_nil, List.map_cons, List.map_nil, List.all_cons, List.all_nil, List.set_cons_zero, List.set_cons_succ, List.getD_cons_zero, List.getD_cons_succ, List.drop_zero, List.drop_succ_cons, List.take_succ_cons, List.take_zero, List.flatten_cons, List.flatten_nil, Bool.true_and, Bool.and_true, Bool.not_true, Bool.not_false, true_and, and_true, true_or, or_true, Option.bind_some, Option.map_some, decide_true, decide_false, beq_self_eq_true, true_implies, false_implies, implies_true, not_true_eq_false, not_false_eq_true, and_self, Bool.and_false, Bool.false_and, Nat.reduceLT, Nat.reduceLeDiff, List.reverse_cons, List.reverse_nil, Nat.zero_add, Nat.add_zero, Bool.false_eq_true, List.getElem?_cons_zero, raSt1, accAV, accO, F1, G1, F2, G2, F3, G3, F4, G4, at_rplain, at_Has, Z04, Z01]
  case' nil =>
    refine ⟨fun c => ⟨⟨by omega, by omega⟩, ?_⟩, fun c => ?_⟩
  case' cons =>
    refine ⟨fun c => ⟨⟨by omega, by omega⟩, ?_⟩, fun c => ?_⟩
  case nil.refine_2 =>
    have hie : i = ss.length := by omega
    subst hie
    rw [← hL]; rfl
  case cons.refine_2 =>
    have hie : i = ss.length := by omega
    subst hie
    rw [← hL]; rfl
  case' nil.refine_1 =>
    refine Loop.fam [2, 29, 30, 31, 12, 13, 10, 14, 11] (raSt2 ss g R i) (fun x => i < x.1 ∧ x.1 ≤ ss.length ∧ x.2 = pAll (rcB R ss) ss.length i ++ pRow (rcB R ss) i x.1) (fun x => ss.length - x.1) (i + 1, []) [0, 1] (by simp) (by simp) (by simp only [State.can, AV.can, AV.canL, HO.can, Z2j, idx, Z0e, Z05, Heap.at, Nat.reduceBEq, ↓reduceIte, Nat.reduceEqDiff, Option.getD_some, Option.map_some, List.map_cons, List.map_nil, List.getD_cons_zero, List.getD_cons_succ, raSt2, accAV, accO, Z3z (show i < ss.length by omega) (by omega)]) ⟨Nat.lt_succ_self _, by show i + 1 ≤ _; omega, by show [] = _; rw [pRow_start, ← hL]; rfl⟩ ?_
  case' cons.refine_1 =>
    refine Loop.fam [2, 29, 30, 31, 12, 13, 10, 14, 11] (raSt2 ss g R i) (fun x => i < x.1 ∧ x.1 ≤ ss.length ∧ x.2 = pAll (rcB R ss) ss.length i ++ pRow (rcB R ss) i x.1) (fun x => ss.length - x.1) (i + 1, c0 :: e0) [0, 2, 1] (by simp) (by simp) (by simp only [State.can, AV.can, AV.canL, HO.can, Z2j, idx, Z0e, Z05, Heap.at, Nat.reduceBEq, ↓reduceIte, Nat.reduceEqDiff, Option.getD_some, Option.map_some, List.map_cons, List.map_nil, List.getD_cons_zero, List.getD_cons_succ, raSt2, accAV, accO, Z3z (show i < ss.length by omega) (by omega)]; rfl) ⟨Nat.lt_succ_self _, by show i + 1 ≤ _; omega, by show c0 :: e0 = _; rw [pRow_start, ← hL, List.append_nil]⟩ ?_
  all_goals
    have hi' : i < ss.length := by omega
    clear hL hLl hLb
    rintro ⟨k, M⟩ ⟨hik, hk, hM⟩
    have hik : i < k := hik
    have hk : k ≤ ss.length := hk
    have hM : M = pAll (rcB R ss) ss.length i ++ pRow (rcB R ss) i k := hM
    have hMl : M.length ≤ 4160 := by
      rw [hM, List.length_append]
      have h1 := pAll_len (rcB R ss) ss.length i
      have h2 := pRow_len (rcB R ss) i k
      have h3 : i * ss.length ≤ 64 * 64 := Nat.mul_le_mul (by omega) hs
      omega
    obtain _ | ⟨d, r⟩ := M
    case' nil =>
      simp (maxSteps := 3000000) only [↓Z28, ↓Z34, ↓Z25, ↓Z0x, ↓Z27, ↓Z1x, Z3t, Z3u, ↓Z35, ↓Z24, ↓Z1e, ↓Z26, ↓Z23, ↓Z31, ↓Z33, ↓Z32, ↓Z1l, ↓Z1o, ↓Z1m, ↓Z1n, ↓Z30, ↓Z3x, ↓Z3w, ↓Z2x, ↓Z2z, ↓Z2y, ↓Z3n, ↓Z3p, ↓Z3o, ↓Z0i, ↓Z08, ↓Z15, ↓Z14, ↓Z13, Z4h, Z0z, Z10, Z3j, Z11, Z3v, evN, Z2k, Z2p, Z3q, Z3r, Z2n, Z1i, Z2l, Z22, Z1q, Z1p, Z16, Z2m, evT, Opd.ev, Z0e, Z05, Z3l, Z3k, Z3m, Z1k, Z12, Z2v, Z2u, Z2t, Z2a, Z29, Z42, LOp.isNew, State.prune, Z3a, Z36, AV.leaf, Heap.at, Z0r, Z09, Z04, Z0c, Z02, Z4g, Z4l, Z2s, Z2r, Z2q, Z1r, Z17, Z03, Z0a, Z01, Z00, Z1v, rowI, rowU, RatG.row, LocG.row, ActG.row, StepG.row, StampG.row, ActG.av, ActG.eta, RatG.eta, LocG.eta, beq_true, beq_false, Z1w, Z21, Z2d, Z1j, Z2b, Z1y, Z2c, Z0w, Z0h, Z0u, Z0v, Z0g, Z0f, Z07, List.length_set, List.length_replicate, Int.toNat_natCast, Int.reduceToNat, Z4f, Z1h, Z40, Src.all, Src.len, Src.leaf, Src.leafN, Z2h, Z3f, Z45, Z0j, Z0k, Z0l, Z0m, Z0n, Z0o, Z0p, Z0q, Z43, drows, evMk, List.length_map, Z0y, Z1f, List.take_length, List.take_left, List.length_append, Nat.le_add_right, ite_self, List.take_of_length_le, Z38, Z48, Z3y, Option.isSome_none, Option.isSome_some, Nat.sub_zero, Z46, Z4b, Z4e, evUn, binT, binQ, chk, Z3b, List.contains_cons, List.contains_nil, Bool.or_false, Bool.false_or, Bool.and_self, resQ, resV, resT, Z4c, Z2i, Z3i, Z3h, fnOf, Z3c, isD, HO.drow, Z4a, Z3d, evEq, eqV, eqK, eqC1, Z3g, Z3e, Z2g, Z2f, Z3s, Z2w, Z41, Z39, Z1u, Z1a, Z1t, Z19, Z1s, Z18, Z1b, Z0s, Z0t, Z0b, List.mem_cons, List.not_mem_nil, or_false, forall_eq, putRow, Z37, Z2o, RetS, RetF, RetD, AV.frz, AV.frzL, AV.freshP, AV.freshL, DV.less, Z1z, Z1c, Z20, Z1d, Z1g, Z0d, Z06, Option.some.injEq, AV.tup.injEq, AV.agg.injEq, List.cons.injEq, DV.list.injEq, List.isEmpty_nil, Nat.le_refl, AV.d.injEq, DV.int.injEq, DV.bool.injEq, ↓reduceIte, Nat.reduceEqDiff, Nat.reduceAdd, Nat.reduceBEq, List.length_cons, List.length_nil, List.replicate_succ, List.replicate_zero, List.nil_append, List.cons_append, List.append_nil, List.foldl_cons, List.foldl_nil, List.map_cons, List.map_nil, List.all_cons, List.all_nil, List.set_cons_zero, List.set_cons_succ, List.getD_cons_zero, List.getD_cons_succ, List.drop_zero, List.drop_succ_cons, List.take_succ_cons, List.take_zero, List.flatten_cons, List.flatten_nil, Bool.true_and, Bool.and_true, Bool.not_true, Bool.not_false, true_and, and_true, true_or, or_true, Option.bind_some, Option.map_some, decide_true, decide_false, beq_self_eq_true, true_implies, false_implies, implies_true, not_true_eq_false, not_false_eq_true, and_self, Bool.and_false, Bool.false_and, Nat.reduceLT, Nat.reduceLeDiff, List.reverse_cons, List.reverse_nil, Nat.zero_add, Nat.add_zero, Bool.false_eq_true, List.getElem?_cons_zero, raSt2, accAV, accO, F1, G1, F2, G2, F3, G3, F4, G4, at_rplain, at_Has, Z04, Z01]
    case' cons =>
      simp (maxSteps := 3000000) only [↓Z28, ↓Z34, ↓Z25, ↓Z0x, ↓Z27, ↓Z1x, Z3t, Z3u, ↓Z35, ↓Z24, ↓Z1e, ↓Z26, ↓Z23, ↓Z31, ↓Z33, ↓Z32, ↓Z1l, ↓Z1o, ↓Z1m, ↓Z1n, ↓Z30, ↓Z3x, ↓Z3w, ↓Z2x, ↓Z2z, ↓Z2y, ↓Z3n, ↓Z3p, ↓Z3o, ↓Z0i, ↓Z08, ↓Z15, ↓Z14, ↓Z13, Z4h, Z0z, Z10, Z3j, Z11, Z3v, evN, Z2k, Z2p, Z3q, Z3r, Z2n, Z1i, Z2l, Z22, Z1q, Z1p, Z16, Z2m, evT, Opd.ev, Z0e, Z05, Z3l, Z3k, Z3m, Z1k, Z12, Z2v, Z2u, Z2t, Z2a, Z29, Z42, LOp.isNew, State.prune, Z3a, Z36, AV.leaf, Heap.at, Z0r, Z09, Z04, Z0c, Z02, Z4g, Z4l, Z2s, Z2r, Z2q, Z1r, Z17, Z03, Z0a, Z01, Z00, Z1v, rowI, rowU, RatG.row, LocG.row, ActG.row, StepG.row, StampG.row, ActG.av, ActG.eta, RatG.eta, LocG.eta, beq_true, beq_false, Z1w, Z21, Z2d, Z1j, Z2b, Z1y, Z2c, Z0w, Z0h, Z0u, Z0v, Z0g, Z0f, Z07, List.length_set, List.length_replicate, Int.toNat_natCast, Int.reduceToNat, Z4f, Z1h, Z40, Src.all, Src.len, Src.leaf, Src.leafN, Z2h, Z3f, Z45, Z0j, Z0k, Z0l, Z0m, Z0n, Z0o, Z0p, Z0q, Z43, drows, evMk, List.length_map, Z0y, Z1f, List.take_length, List.take_left, List.length_append, Nat.le_add_right, ite_self, List.take_of_length_le, Z38, Z48, Z3y, Option.isSome_none, Option.isSome_some, Nat.sub_zero, Z46, Z4b, Z4e, evUn, binT, binQ, chk, Z3b, List.contains_cons, List.contains_nil, Bool.or_false, Bool.false_or, Bool.and_self, resQ, resV, resT, Z4c, Z2i, Z3i, Z3h, fnOf, Z3c, isD, HO.drow, Z4a, Z3d, evEq, eqV, eqK, eqC1, Z3g, Z3e, Z2g, Z2f, Z3s, Z2w, Z41, Z39, Z1u, Z1a, Z1t, Z19, Z1s, Z18, Z1b, Z0s, Z0t, Z0b, List.mem_cons, List.not_mem_nil, or_false, forall_eq, putRow, Z37, Z2o, RetS, RetF, RetD, AV.frz, AV.frzL, AV.freshP, AV.freshL, DV.less, Z1z, Z1c, Z20, Z1d, Z1g, Z0d, Z06, Option.some.injEq, AV.tup.injEq, AV.agg.injEq, List.cons.injEq, DV.list.injEq, List.isEmpty_nil, Nat.le_refl, AV.d.injEq, DV.int.injEq, DV.bool.injEq, ↓reduceIte, Nat.reduceEqDiff, Nat.reduceAdd, Nat.reduceBEq, List.length_cons, List.length_nil, List.replicate_succ, List.replicate_zero, List.nil_append, List.cons_append, List.append_nil, List.foldl_cons, List.foldl_nil, List.map_cons, List.map_nil, List.all_cons, List.all_nil, List.set_cons_zero, List.set_cons_succ, List.getD_cons_zero, List.getD_cons_succ, List.drop_zero, List.drop_succ_cons, List.take_succ_cons, List.take_zero, List.flatten_cons, List.flatten_nil, Bool.true_and, Bool.and_true, Bool.not_true, Bool.not_false, true_and, and_true, true_or, or_true, Option.bind_some, Option.map_some, decide_true, decide_false, beq_self_eq_true, true_implies, false_implies, implies_true, not_true_eq_false, not_false_eq_true, and_self, Bool.and_false, Bool.false_and, Nat.reduceLT, Nat.reduceLeDiff, List.reverse_cons, List.reverse_nil, Nat.zero_add, Nat.add_zero, Bool.false_eq_true, List.getElem?_cons_zero, raSt2, accAV, accO, F1, G1, F2, G2, F3, G3, F4, G4, at_rplain, at_Has, Z04, Z01]
    case' nil =>
      refine ⟨fun c => ⟨⟨by omega, by omega⟩, ?_⟩, fun c => ?_⟩
    case' cons =>
      refine ⟨fun c => ⟨⟨by omega, by omega⟩, ?_⟩, fun c => ?_⟩
    case nil.refine_2 =>
      have hke : k = ss.length := by omega
      subst hke
      exact Z2e.mk [0] (i + 1, []) (by simp) (by simp) (by simp only [State.can, AV.can, AV.canL, HO.can, Z2j, idx, Z0e, Z05, Heap.at, Nat.reduceBEq, ↓reduceIte, Nat.reduceEqDiff, Option.getD_some, Option.map_some, List.map_cons, List.map_nil, List.getD_cons_zero, List.getD_cons_succ, raSt1, accAV, accO, Z3z hi' (by omega)]) ⟨by show i + 1 ≤ _; omega, by show [] = _; rw [pAll_succ, ← hM]⟩ (by show _ - (i + 1) < _ - i; omega)
    case cons.refine_2 =>
      have hke : k = ss.length := by omega
      subst hke
      exact Z2e.mk [0, 2] (i + 1, d :: r) (by simp) (by simp) (by simp only [State.can, AV.can, AV.canL, HO.can, Z2j, idx, Z0e, Z05, Heap.at, Nat.reduceBEq, ↓reduceIte, Nat.reduceEqDiff, Option.getD_some, Option.map_some, List.map_cons, List.map_nil, List.getD_cons_zero, List.getD_cons_succ, raSt1, accAV, accO, Z3z hi' (by omega)]; rfl) ⟨by show i + 1 ≤ _; omega, by show d :: r = _; rw [pAll_succ, ← hM]⟩ (by show _ - (i + 1) < _ - i; omega)
    case nil.refine_1 =>
      have hkl : k < ss.length := by omega
      have yes : rcB R ss i k = true → [⟨(i : Int), (k : Int)⟩] = pAll (rcB R ss) ss.length i ++ pRow (rcB R ss) i (k + 1) := fun h => by
        rw [pRow_succ _ hik, if_pos h, ← List.append_assoc, ← hM]; rfl
      have no : rcB R ss i k = false → [] = pAll (rcB R ss) ss.length i ++ pRow (rcB R ss) i (k + 1) := fun h => by
        rw [pRow_succ _ hik, if_neg (by rw [h]; decide), List.append_nil, ← hM]
      have hroom : roomy 1 16 := Z4j (by decide) (by decide)
      clear hM
      have hb : (0 : Int) ≤ k ∧ (k : Int) < ss.length := ⟨by omega, by omega⟩
      refine ⟨fun c => ⟨fun c1 => ⟨fun c2 => ⟨hb, fun c3 => ?_, fun c3 => ⟨fun c4 => ⟨hRl, fun c5 => ?_, fun c5 => ⟨hroom, ?_⟩⟩, fun c4 => ⟨fun c6 => ⟨hRl, fun c5 => ?_, fun c5 => ⟨hroom, ?_⟩⟩, fun c6 => ?_⟩⟩⟩, fun c2 => ?_⟩, fun c1 => ?_⟩, fun c => ?_⟩
      all_goals first
        | exact Z2e.mk [0, 1, 5] (k + 1, [⟨(i : Int), (k : Int)⟩]) (by simp) (by simp) (by simp only [State.can, AV.can, AV.canL, HO.can, Z2j, idx, Z0e, Z05, Heap.at, Nat.reduceBEq, ↓reduceIte, Nat.reduceEqDiff, Option.getD_some, Option.map_some, List.map_cons, List.map_nil, List.getD_cons_zero, List.getD_cons_succ, raSt2, accAV, accO, List.length_append, List.length_singleton, Z3z hkl (by omega)]; rfl) ⟨by show i < k + 1; omega, by show k + 1 ≤ _; omega, yes (by unfold rcB; simp only [*, pl2, decide_true, decide_false, Bool.and_true, Bool.true_and, Bool.and_false, Bool.false_and, Bool.or_true, Bool.true_or, Bool.not_true, Bool.not_false, Bool.or_false, Bool.false_or, reduceCtorEq])⟩ (by show _ - (k + 1) < _ - k; omega)
        | exact Z2e.mk [0, 1] (k + 1, []) (by simp) (by simp) (by simp only [State.can, AV.can, AV.canL, HO.can, Z2j, idx, Z0e, Z05, Heap.at, Nat.reduceBEq, ↓reduceIte, Nat.reduceEqDiff, Option.getD_some, Option.map_some, List.map_cons, List.map_nil, List.getD_cons_zero, List.getD_cons_succ, raSt2, accAV, accO, List.length_append, List.length_singleton, Z3z hkl (by omega)]) ⟨by show i < k + 1; omega, by show k + 1 ≤ _; omega, no (by unfold rcB; simp only [*, pl2, decide_true, decide_false, Bool.and_true, Bool.true_and, Bool.and_false, Bool.false_and, Bool.or_true, Bool.true_or, Bool.not_true, Bool.not_false, Bool.or_false, Bool.false_or, reduceCtorEq])⟩ (by show _ - (k + 1) < _ - k; omega)
    case cons.refine_1 =>
      have hkl : k < ss.length := by omega
      have yes : rcB R ss i k = true → d :: (r ++ [⟨(i : Int), (k : Int)⟩]) = pAll (rcB R ss) ss.length i ++ pRow (rcB R ss) i (k + 1) := fun h => by
        rw [pRow_succ _ hik, if_pos h, ← List.append_assoc, ← hM]; rfl
      have no : rcB R ss i k = false → d :: r = pAll (rcB R ss) ss.length i ++ pRow (rcB R ss) i (k + 1) := fun h => by
        rw [pRow_succ _ hik, if_neg (by rw [h]; decide), List.append_nil, ← hM]
      have hroom : roomy (r.length + 1 + 1) 16 := Z4j (by have := hMl; simp only [List.length_cons] at this; omega) (by decide)
      clear hM
      have hb : (0 : Int) ≤ k ∧ (k : Int) < ss.length := ⟨by omega, by omega⟩
      refine ⟨fun c => ⟨fun c1 => ⟨fun c2 => ⟨hb, fun c3 => ?_, fun c3 => ⟨fun c4 => ⟨hRl, fun c5 => ?_, fun c5 => ⟨hroom, ?_⟩⟩, fun c4 => ⟨fun c6 => ⟨hRl, fun c5 => ?_, fun c5 => ⟨hroom, ?_⟩⟩, fun c6 => ?_⟩⟩⟩, fun c2 => ?_⟩, fun c1 => ?_⟩, fun c => ?_⟩
      all_goals first
        | exact Z2e.mk [0, 1, 6] (k + 1, d :: (r ++ [⟨(i : Int), (k : Int)⟩])) (by simp) (by simp) (by simp only [State.can, AV.can, AV.canL, HO.can, Z2j, idx, Z0e, Z05, Heap.at, Nat.reduceBEq, ↓reduceIte, Nat.reduceEqDiff, Option.getD_some, Option.map_some, List.map_cons, List.map_nil, List.getD_cons_zero, List.getD_cons_succ, raSt2, accAV, accO, List.length_append, List.length_singleton, Z3z hkl (by omega)]; rfl) ⟨by show i < k + 1; omega, by show k + 1 ≤ _; omega, yes (by unfold rcB; simp only [*, pl2, decide_true, decide_false, Bool.and_true, Bool.true_and, Bool.and_false, Bool.false_and, Bool.or_true, Bool.true_or, Bool.not_true, Bool.not_false, Bool.or_false, Bool.false_or, reduceCtorEq])⟩ (by show _ - (k + 1) < _ - k; omega)
        | exact Z2e.mk [0, 1, 2] (k + 1, d :: r) (by simp) (by simp) (by simp only [State.can, AV.can, AV.canL, HO.can, Z2j, idx, Z0e, Z05, Heap.at, Nat.reduceBEq, ↓reduceIte, Nat.reduceEqDiff, Option.getD_some, Option.map_some, List.map_cons, List.map_nil, List.getD_cons_zero, List.getD_cons_succ, raSt2, accAV, accO, List.length_append, List.length_singleton, Z3z hkl (by omega)]; rfl) ⟨by show i < k + 1; omega, by show k + 1 ≤ _; omega, no (by unfold rcB; simp only [*, pl2, decide_true, decide_false, Bool.and_true, Bool.true_and, Bool.and_false, Bool.false_and, Bool.or_true, Bool.true_or, Bool.not_true, Bool.not_false, Bool.or_false, Bool.false_or, reduceCtorEq])⟩ (by show _ - (k + 1) < _ - k; omega)
end Go.Ago

/- Package race: Weak. Conditions: none. -/
set_option maxRecDepth 100000
set_option linter.unusedSimpArgs false
set_option linter.unusedVariables false
namespace Go.Ago
instance : Inhabited MemG := ⟨⟨[], false, [], false, [], false, [], false, [], false⟩⟩
theorem idx_Mem {l : List MemG} {full : Bool} {kd : IntKind} {n : Int} {k : Delta → Prop} : stepK (evIdxAddr 5 (.d (.list (l.map rowMem) full)) (.d (.int kd n))) k ↔ (0 ≤ n ∧ n < l.length) ∧ k ⟨.dptr (rowMem (l.getD n.toNat default)) 0, [], []⟩ := stepK_idx_map (fun _ => rfl)
theorem set_rowB' {l : List Bool} {i : Nat} {b x : Bool} : (l.map rowB).set i (.bool b :: List.drop 1 (rowB x)) = (l.set i b).map rowB := set_rowB
theorem playErr_new {l : List LocG} {t : Int} {ss : List StepG} (h : playErr l t ss = 0) : newErr l t = 0 ∧ firstBad (newM l t) ss = 0 := by
  unfold playErr at h
  split at h
  · cases h
  · split at h
    · exact ⟨by assumption, h⟩
    · exact absurd h (by assumption)
def wkO (s : StepG) : Option StampG → Bool
  | none => false
  | some st => isPl s.act.kind && (decide (Z4t s.when st.when < 0) || (decide (s.act.kind = 1) && !decide (Z4t s.when st.when = 0)))
def wkB (m : MemG) (s : StepG) : Bool := wkO s (lastG m s.act.loc)
def weakL (l : List LocG) (t : Int) (ss : List StepG) : List Bool := if playErr l t ss = 0 then (List.range ss.length).map fun i => wkB (goM (newM l t) ss i) (ss.getD i default) else []
def sp_Weak : Sp := ⟨List LocG × Bool × Int × List StepG × Bool, fun x => [.d (.list (x.1.map LocG.row) x.2.1), .d (.int .i64 x.2.2.1), .d (.list (x.2.2.2.1.map StepG.row) x.2.2.2.2)],
  fun x => .data (x.1.length ≤ maxLen ∧ x.2.2.2.1.length ≤ maxLen) (.tup [.d (.list ((weakL x.1 x.2.2.1 x.2.2.2.1).map rowB) false), .d (.int .i64 (playErr x.1 x.2.2.1 x.2.2.2.1))]) false⟩
theorem at_Weak (l : List LocG) (f : Bool) (t : Int) (ss : List StepG) (g : Bool) : sp_Weak.at [.d (.list (l.map LocG.row) f), .d (.int .i64 t), .d (.list (ss.map StepG.row) g)] =
    .data (l.length ≤ maxLen ∧ ss.length ≤ maxLen) (.tup [.d (.list ((weakL l t ss).map rowB) false), .d (.int .i64 (playErr l t ss))]) false :=
  Sp.at_enc (s := sp_Weak) (fun x y h => by
    obtain ⟨l, f, t, ss, g⟩ := x; obtain ⟨l', f', t', ss', g'⟩ := y
    simp only [sp_Weak, List.cons.injEq, AV.d.injEq, DV.list.injEq, DV.int.injEq, and_true, true_and] at h
    obtain ⟨⟨h1, h2⟩, h3, h4, h5⟩ := h
    rw [Z4p LocG.row_inj h1, h2, h3, Z4p StepG.row_inj h4, h5]) (l, f, t, ss, g)
def wkS (w : Nat → Bool) (n i : Nat) : List Bool := (List.range n).map fun j => decide (j < i) && w j
theorem wkS_len {w : Nat → Bool} {n i : Nat} : (wkS w n i).length = n := by simp [wkS]
theorem wkS_zero {w : Nat → Bool} {n : Nat} : List.replicate n false = wkS w n 0 := by
  unfold wkS
  apply List.ext_getElem
  · simp
  · intro i h1 h2; simp
theorem wkS_set {w : Nat → Bool} {n i : Nat} (h : i < n) : (wkS w n i).set i (w i) = wkS w n (i + 1) := by
  apply List.ext_getElem
  · simp [wkS]
  · intro j h1 h2
    simp only [wkS, List.getElem_set, List.getElem_map, List.getElem_range]
    split
    · rename_i e; subst e; simp
    · rename_i e
      have : j < i ↔ j < i + 1 := by omega
      simp [this]
theorem wkS_same {w : Nat → Bool} {n i : Nat} (h : w i = false) : wkS w n i = wkS w n (i + 1) := by
  unfold wkS
  apply List.map_congr_left
  intro j _
  by_cases e : j = i
  · subst e; simp [h]
  · have : j < i ↔ j < i + 1 := by omega
    simp [this]
theorem wkS_end {w : Nat → Bool} {n : Nat} : wkS w n n = (List.range n).map w := by
  unfold wkS
  apply List.map_congr_left
  intro j h
  simp [List.mem_range.1 h]
def wkSt (M : List MemG) (ss : List StepG) (g : Bool) (w : Nat → Bool) (i : Nat) : State :=
  ⟨[(29, .d (.list (ss.map StepG.row) g)), (30, .d (.int .i64 ss.length)), (31, .d (.int .i64 i)), (8, .d (.list (M.map rowMem) false)), (10, .ref 0 1 0 ss.length true)], [.dvec 1 ((wkS w ss.length i).map rowB)]⟩
set_option maxHeartbeats 4000000 in
theorem body_race_Weak {T : Tab} {n1 n2 n3 n4 : Nat} (k1 : Knows T n1 sp_played) (k2 : Knows T n2 sp_rplain) (k3 : Knows T n3 sp_Last) (k4 : Knows T n4 sp_rat_Cmp) : sp_Weak.Body T V_race_Weak (L_race_Weak n1 n2 n3 n4) R_race_Weak := by
  have F1 := k1.F; have G1 := k1.G; have F2 := k2.F; have G2 := k2.G; have F3 := k3.F; have G3 := k3.G; have F4 := k4.F; have G4 := k4.G
  rintro ⟨l, f, t, ss, g⟩ ⟨hl, hs⟩
  have hl : l.length ≤ maxLen := hl
  have hs : ss.length ≤ maxLen := hs
  refine ⟨rfl, ?_⟩
  unfold V_race_Weak L_race_Weak R_race_Weak
  simp (maxSteps := 3000000) only [↓Z28, ↓Z34, ↓Z25, ↓Z0x, ↓Z27, ↓Z1x, Z3t, Z3u, ↓Z35, ↓Z24, ↓Z1e, ↓Z26, ↓Z23, ↓Z31, ↓Z33, ↓Z32, ↓Z1l, ↓Z1o, ↓Z1m, ↓Z1n, ↓Z30, ↓Z3x, ↓Z3w, ↓Z2x, ↓Z2z, ↓Z2y, ↓Z3n, ↓Z3p, ↓Z3o, ↓Z0i, ↓Z08, ↓Z15, ↓Z14, ↓Z13, Z4h, Z0z, Z10, Z3j, Z11, Z3v, evN, Z2k, Z2p, Z3q, Z3r, Z2n, Z1i, Z2l, Z22, Z1q, Z1p, Z16, Z2m, evT, Opd.ev, Z0e, Z05, Z3l, Z3k, Z3m, Z1k, Z12, Z2v, Z2u, Z2t, Z2a, Z29, Z42, LOp.isNew, State.prune, Z3a, Z36, AV.leaf, Heap.at, Z0r, Z09, Z04, Z0c, Z02, Z4g, Z4l, Z2s, Z2r, Z2q, Z1r, Z17, Z03, Z0a, Z01, Z00, Z1v, rowI, rowU, RatG.row, LocG.row, ActG.row, StepG.row, StampG.row, ActG.av, ActG.eta, RatG.eta, LocG.eta, beq_true, beq_false, Z1w, Z21, Z2d, Z1j, Z2b, Z1y, Z2c, Z0w, Z0h, Z0u, Z0v, Z0g, Z0f, Z07, List.length_set, List.length_replicate, Int.toNat_natCast, Int.reduceToNat, Z4f, Z1h, Z40, Src.all, Src.len, Src.leaf, Src.leafN, Z2h, Z3f, Z45, Z0j, Z0k, Z0l, Z0m, Z0n, Z0o, Z0p, Z0q, Z43, drows, evMk, List.length_map, Z0y, Z1f, List.take_length, List.take_left, List.length_append, Nat.le_add_right, ite_self, List.take_of_length_le, Z38, Z48, Z3y, Option.isSome_none, Option.isSome_some, Nat.sub_zero, Z46, Z4b, Z4e, evUn, binT, binQ, chk, Z3b, List.contains_cons, List.contains_nil, Bool.or_false, Bool.false_or, Bool.and_self, resQ, resV, resT, Z4c, Z2i, Z3i, Z3h, fnOf, Z3c, isD, HO.drow, Z4a, Z3d, evEq, eqV, eqK, eqC1, Z3g, Z3e, Z2g, Z2f, Z3s, Z2w, Z41, Z39, Z1u, Z1a, Z1t, Z19, Z1s, Z18, Z1b, Z0s, Z0t, Z0b, List.mem_cons, List.not_mem_nil, or_false, forall_eq, putRow, Z37, Z2o, RetS, RetF, RetD, AV.frz, AV.frzL, AV.freshP, AV.freshL, DV.less, Z1z, Z1c, Z20, Z1d, Z1g, Z0d, Z06, Option.some.injEq, AV.tup.injEq, AV.agg.injEq, List.cons.injEq, DV.list.injEq, List.isEmpty_nil, Nat.le_refl, AV.d.injEq, DV.int.injEq, DV.bool.injEq, ↓reduceIte, Nat.reduceEqDiff, Nat.reduceAdd, Nat.reduceBEq, List.length_cons, List.length_nil, List.replicate_succ, List.replicate_zero, List.nil_append, List.cons_append, List.append_nil, List.foldl_cons, List.foldl_nil, List.map_cons, List.map_nil, List.all_cons, List.all_nil, List.set_cons_zero, List.set_cons_succ, List.getD_cons_zero, List.getD_cons_succ, List.drop_zero, List.drop_succ_cons, List.take_succ_cons, List.take_zero, List.flatten_cons, List.flatten_nil, Bool.true_and, Bool.and_true, Bool.not_true, Bool.not_false, true_and, and_true, true_or, or_true, Option.bind_some, Option.map_some, decide_true, decide_false, beq_self_eq_true, true_implies, false_implies, implies_true, not_true_eq_false, not_false_eq_true, and_self, Bool.and_false, Bool.false_and, Nat.reduceLT, Nat.reduceLeDiff, List.reverse_cons, List.reverse_nil, Nat.zero_add, Nat.add_zero, Bool.false_eq_true, List.getElem?_cons_zero, sp_Weak, F1, G1, F2, G2, F3, G3, F4, G4, at_played, at_LastM, at_rplain, at_rat_Cmp, rep_rowB, Z04, Z01]
  have hm : maxLen = 9223372036854775807 := rfl
  refine ⟨⟨hl, hs⟩, fun he => ⟨⟨by omega, by omega, Z4j (by have := playErr_len he; omega) (by decide)⟩, ?_⟩, fun he => by unfold weakL; rw [if_neg he]; rfl⟩
  have hw : weakL l t ss = (List.range ss.length).map fun i => wkB (goM (newM l t) ss i) (ss.getD i default) := by unfold weakL; rw [if_pos he]
  have hp : playL l t ss = mems (newM l t) ss ss.length := by unfold playL; rw [if_pos he]
  rw [hw, hp, he]
  have hml : ∀ i, i < ss.length → (mems (newM l t) ss ss.length).getD i default = goM (newM l t) ss i := fun i hi => by
    rw [getD_lt (by rw [mems_len]; exact hi)]; unfold mems; simp
  have hll : (mems (newM l t) ss ss.length).length = ss.length := mems_len _ _ _
  generalize mems (newM l t) ss ss.length = M at *
  obtain ⟨hne, -⟩ := playErr_new he
  have hg0 := newM_good hne
  generalize newM l t = m0 at *
  obtain ⟨w, hwd⟩ : ∃ w : Nat → Bool, w = fun i => wkB (goM m0 ss i) (ss.getD i default) := ⟨_, rfl⟩
  rw [← hwd]
  refine Loop.fam [29, 30, 31, 8, 10] (wkSt M ss g w) (fun i => i ≤ ss.length) (fun i => ss.length - i) 0 [0] (by simp) (by simp) (by simp only [State.can, AV.can, AV.canL, HO.can, Z2j, idx, Z0e, Z05, Heap.at, Nat.reduceBEq, ↓reduceIte, Nat.reduceEqDiff, Option.getD_some, Option.map_some, List.map_cons, List.map_nil, List.getD_cons_zero, List.getD_cons_succ, wkSt]; rw [← wkS_zero]; rfl) (Nat.zero_le _) ?_
  intro i hi
  have hi : i ≤ ss.length := hi
  have hwi : i < ss.length → w i = wkO (ss.getD i default) (lastG (M.getD i default) (ss.getD i default).act.loc) := fun h => by rw [hml i h, hwd]; rfl
  have hpast : i < ss.length → ∀ r ∈ (M.getD i default).past, r.1.length ≤ maxLen := fun h r hr => by
    rw [hml i h] at hr
    have := (goM_good hg0 ss i).wf.pasts r.1 (List.mem_map.2 ⟨r, hr, rfl⟩)
    have := playErr_len he
    omega
  have hend : ¬ (i : Int) < ss.length → (wkS w ss.length i).map rowB = (List.map w (List.range ss.length)).map rowB := fun h => by
    have hie : i = ss.length := by omega
    subst hie
    rw [wkS_end]
  clear hml hwd
  rcases hla : lastG (M.getD i default) (ss.getD i default).act.loc with _ | st
  case' none =>
    simp (maxSteps := 3000000) only [↓Z28, ↓Z34, ↓Z25, ↓Z0x, ↓Z27, ↓Z1x, Z3t, Z3u, ↓Z35, ↓Z24, ↓Z1e, ↓Z26, ↓Z23, ↓Z31, ↓Z33, ↓Z32, ↓Z1l, ↓Z1o, ↓Z1m, ↓Z1n, ↓Z30, ↓Z3x, ↓Z3w, ↓Z2x, ↓Z2z, ↓Z2y, ↓Z3n, ↓Z3p, ↓Z3o, ↓Z0i, ↓Z08, ↓Z15, ↓Z14, ↓Z13, Z4h, Z0z, Z10, Z3j, Z11, Z3v, evN, Z2k, Z2p, Z3q, Z3r, Z2n, Z1i, Z2l, Z22, Z1q, Z1p, Z16, Z2m, evT, Opd.ev, Z0e, Z05, Z3l, Z3k, Z3m, Z1k, Z12, Z2v, Z2u, Z2t, Z2a, Z29, Z42, LOp.isNew, State.prune, Z3a, Z36, AV.leaf, Heap.at, Z0r, Z09, Z04, Z0c, Z02, Z4g, Z4l, Z2s, Z2r, Z2q, Z1r, Z17, Z03, Z0a, Z01, Z00, Z1v, rowI, rowU, RatG.row, LocG.row, ActG.row, StepG.row, StampG.row, ActG.av, ActG.eta, RatG.eta, LocG.eta, beq_true, beq_false, Z1w, Z21, Z2d, Z1j, Z2b, Z1y, Z2c, Z0w, Z0h, Z0u, Z0v, Z0g, Z0f, Z07, List.length_set, List.length_replicate, Int.toNat_natCast, Int.reduceToNat, Z4f, Z1h, Z40, Src.all, Src.len, Src.leaf, Src.leafN, Z2h, Z3f, Z45, Z0j, Z0k, Z0l, Z0m, Z0n, Z0o, Z0p, Z0q, Z43, drows, evMk, List.length_map, Z0y, Z1f, List.take_length, List.take_left, List.length_append, Nat.le_add_right, ite_self, List.take_of_length_le, Z38, Z48, Z3y, Option.isSome_none, Option.isSome_some, Nat.sub_zero, Z46, Z4b, Z4e, evUn, binT, binQ, chk, Z3b, List.contains_cons, List.contains_nil, Bool.or_false, Bool.false_or, Bool.and_self, resQ, resV, resT, Z4c, Z2i, Z3i, Z3h, fnOf, Z3c, isD, HO.drow, Z4a, Z3d, evEq, eqV, eqK, eqC1, Z3g, Z3e, Z2g, Z2f, Z3s, Z2w, Z41, Z39, Z1u, Z1a, Z1t, Z19, Z1s, Z18, Z1b, Z0s, Z0t, Z0b, List.mem_cons, List.not_mem_nil, or_false, forall_eq, putRow, Z37, Z2o, RetS, RetF, RetD, AV.frz, AV.frzL, AV.freshP, AV.freshL, DV.less, Z1z, Z1c, Z20, Z1d, Z1g, Z0d, Z06, Option.some.injEq, AV.tup.injEq, AV.agg.injEq, List.cons.injEq, DV.list.injEq, List.isEmpty_nil, Nat.le_refl, AV.d.injEq, DV.int.injEq, DV.bool.injEq, ↓reduceIte, Nat.reduceEqDiff, Nat.reduceAdd, Nat.reduceBEq, List.length_cons, List.length_nil, List.replicate_succ, List.replicate_zero, List.nil_append, List.cons_append, List.append_nil, List.foldl_cons, List.foldl_nil, List.map_cons, List.map_nil, List.all_cons, List.all_nil, List.set_cons_zero, List.set_cons_succ, List.getD_cons_zero, List.getD_cons_succ, List.drop_zero, List.drop_succ_cons, List.take_succ_cons, List.take_zero, List.flatten_cons, List.flatten_nil, Bool.true_and, Bool.and_true, Bool.not_true, Bool.not_false, true_and, and_true, true_or, or_true, Option.bind_some, Option.map_some, decide_true, decide_false, beq_self_eq_true, true_implies, false_implies, implies_true, not_true_eq_false, not_false_eq_true, and_self, Bool.and_false, Bool.false_and, Nat.reduceLT, Nat.reduceLeDiff, List.reverse_cons, List.reverse_nil, Nat.zero_add, Nat.add_zero, Bool.false_eq_true, List.getElem?_cons_zero, wkSt, F1, G1, F2, G2, F3, G3, F4, G4, at_LastM, at_rplain, at_rat_Cmp, idx_Mem, rowMem, hla, lastAV, Z04, Z01, wkS_len]
    refine ⟨fun c => ⟨⟨by omega, by omega⟩, ⟨by omega, by omega⟩, hpast (by omega), ?_⟩, fun c => ?_⟩
  case' some =>
    simp (maxSteps := 3000000) only [↓Z28, ↓Z34, ↓Z25, ↓Z0x, ↓Z27, ↓Z1x, Z3t, Z3u, ↓Z35, ↓Z24, ↓Z1e, ↓Z26, ↓Z23, ↓Z31, ↓Z33, ↓Z32, ↓Z1l, ↓Z1o, ↓Z1m, ↓Z1n, ↓Z30, ↓Z3x, ↓Z3w, ↓Z2x, ↓Z2z, ↓Z2y, ↓Z3n, ↓Z3p, ↓Z3o, ↓Z0i, ↓Z08, ↓Z15, ↓Z14, ↓Z13, Z4h, Z0z, Z10, Z3j, Z11, Z3v, evN, Z2k, Z2p, Z3q, Z3r, Z2n, Z1i, Z2l, Z22, Z1q, Z1p, Z16, Z2m, evT, Opd.ev, Z0e, Z05, Z3l, Z3k, Z3m, Z1k, Z12, Z2v, Z2u, Z2t, Z2a, Z29, Z42, LOp.isNew, State.prune, Z3a, Z36, AV.leaf, Heap.at, Z0r, Z09, Z04, Z0c, Z02, Z4g, Z4l, Z2s, Z2r, Z2q, Z1r, Z17, Z03, Z0a, Z01, Z00, Z1v, rowI, rowU, RatG.row, LocG.row, ActG.row, StepG.row, StampG.row, ActG.av, ActG.eta, RatG.eta, LocG.eta, beq_true, beq_false, Z1w, Z21, Z2d, Z1j, Z2b, Z1y, Z2c, Z0w, Z0h, Z0u, Z0v, Z0g, Z0f, Z07, List.length_set, List.length_replicate, Int.toNat_natCast, Int.reduceToNat, Z4f, Z1h, Z40, Src.all, Src.len, Src.leaf, Src.leafN, Z2h, Z3f, Z45, Z0j, Z0k, Z0l, Z0m, Z0n, Z0o, Z0p, Z0q, Z43, drows, evMk, List.length_map, Z0y, Z1f, List.take_length, List.take_left, List.length_append, Nat.le_add_right, ite_self, List.take_of_length_le, Z38, Z48, Z3y, Option.isSome_none, Option.isSome_some, Nat.sub_zero, Z46, Z4b, Z4e, evUn, binT, binQ, chk, Z3b, List.contains_cons, List.contains_nil, Bool.or_false, Bool.false_or, Bool.and_self, resQ, resV, resT, Z4c, Z2i, Z3i, Z3h, fnOf, Z3c, isD, HO.drow, Z4a, Z3d, evEq, eqV, eqK, eqC1, Z3g, Z3e, Z2g, Z2f, Z3s, Z2w, Z41, Z39, Z1u, Z1a, Z1t, Z19, Z1s, Z18, Z1b, Z0s, Z0t, Z0b, List.mem_cons, List.not_mem_nil, or_false, forall_eq, putRow, Z37, Z2o, RetS, RetF, RetD, AV.frz, AV.frzL, AV.freshP, AV.freshL, DV.less, Z1z, Z1c, Z20, Z1d, Z1g, Z0d, Z06, Option.some.injEq, AV.tup.injEq, AV.agg.injEq, List.cons.injEq, DV.list.injEq, List.isEmpty_nil, Nat.le_refl, AV.d.injEq, DV.int.injEq, DV.bool.injEq, ↓reduceIte, Nat.reduceEqDiff, Nat.reduceAdd, Nat.reduceBEq, List.length_cons, List.length_nil, List.replicate_succ, List.replicate_zero, List.nil_append, List.cons_append, List.append_nil, List.foldl_cons, List.foldl_nil, List.map_cons, List.map_nil, List.all_cons, List.all_nil, List.set_cons_zero, List.set_cons_succ, List.getD_cons_zero, List.getD_cons_succ, List.drop_zero, List.drop_succ_cons, List.take_succ_cons, List.take_zero, List.flatten_cons, List.flatten_nil, Bool.true_and, Bool.and_true, Bool.not_true, Bool.not_false, true_and, and_true, true_or, or_true, Option.bind_some, Option.map_some, decide_true, decide_false, beq_self_eq_true, true_implies, false_implies, implies_true, not_true_eq_false, not_false_eq_true, and_self, Bool.and_false, Bool.false_and, Nat.reduceLT, Nat.reduceLeDiff, List.reverse_cons, List.reverse_nil, Nat.zero_add, Nat.add_zero, Bool.false_eq_true, List.getElem?_cons_zero, wkSt, F1, G1, F2, G2, F3, G3, F4, G4, at_LastM, at_rplain, at_rat_Cmp, idx_Mem, rowMem, hla, lastAV, Z04, Z01, set_rowB', wkS_len]
    have hb : (0 : Int) ≤ i ∧ (i : Int) < ss.length ↔ i < ss.length := by omega
    refine ⟨fun c => ⟨⟨by omega, by omega⟩, ⟨by omega, by omega⟩, hpast (by omega), fun c1 => ⟨fun c2 => ⟨⟨by omega, by omega⟩, by omega, ?_⟩, fun c2 => ⟨fun c3 => ⟨⟨by omega, by omega⟩, by omega, ?_⟩, fun c3 => ⟨⟨by omega, by omega⟩, by omega, ?_⟩⟩⟩, fun c1 => ?_⟩, fun c => ?_⟩
  case none.refine_2 => exact hend c
  case some.refine_5 => exact hend c
  case none.refine_1 =>
    have hlt : i < ss.length := by omega
    have e : w i = false := by rw [hwi hlt, hla]; rfl
    exact Z2e.mk [0] (i + 1) (by simp) (by simp) (by simp only [State.can, AV.can, AV.canL, HO.can, Z2j, idx, Z0e, Z05, Heap.at, Nat.reduceBEq, ↓reduceIte, Nat.reduceEqDiff, Option.getD_some, Option.map_some, List.map_cons, List.map_nil, List.getD_cons_zero, List.getD_cons_succ, wkSt, Z3z hlt (by omega)]; rw [← wkS_same e]) (by show i + 1 ≤ _; omega) (by show _ - (i + 1) < _ - i; omega)
  case some.refine_4 =>
    have hlt : i < ss.length := by omega
    have e : w i = false := by rw [hwi hlt, hla]; unfold wkO; simp only [c1, Bool.false_and]
    exact Z2e.mk [0] (i + 1) (by simp) (by simp) (by simp only [State.can, AV.can, AV.canL, HO.can, Z2j, idx, Z0e, Z05, Heap.at, Nat.reduceBEq, ↓reduceIte, Nat.reduceEqDiff, Option.getD_some, Option.map_some, List.map_cons, List.map_nil, List.getD_cons_zero, List.getD_cons_succ, wkSt, Z3z hlt (by omega)]; rw [← wkS_same e]) (by show i + 1 ≤ _; omega) (by show _ - (i + 1) < _ - i; omega)
  all_goals
    have hlt : i < ss.length := by omega
    have e : w i = wkO (ss.getD i default) (some st) := by rw [hwi hlt, hla]
    unfold wkO Z4t at e
    simp only [c1, c2, decide_true, decide_false, Bool.true_and, Bool.true_or, Bool.false_or] at e
    try simp only [c3, decide_true, decide_false, Bool.true_and, Bool.false_and] at e
    exact Z2e.mk [0] (i + 1) (by simp) (by simp) (by simp only [State.can, AV.can, AV.canL, HO.can, Z2j, idx, Z0e, Z05, Heap.at, Nat.reduceBEq, ↓reduceIte, Nat.reduceEqDiff, Option.getD_some, Option.map_some, List.map_cons, List.map_nil, List.getD_cons_zero, List.getD_cons_succ, wkSt, Z3z hlt (by omega)]; rw [← e, wkS_set hlt]) (by show i + 1 ≤ _; omega) (by show _ - (i + 1) < _ - i; omega)
end Go.Ago

/- Contracts of the reference of layer 2: its small functions, Put, Of, Lay, Then, Back. Conditions: none. -/
set_option maxRecDepth 100000
set_option linter.unusedSimpArgs false
set_option linter.unusedVariables false
namespace Go.Ago

/-! ### Put -/
end Go.Ago

/- Contracts of the reference of layer 2: most, Copy, Same, Of, Lay, Then, Back. Conditions: none. -/
set_option maxRecDepth 100000
set_option linter.unusedSimpArgs false
set_option linter.unusedVariables false
namespace Go.Ago

theorem szR_mk' {n : Nat} {p : Nat → Nat → Bool} (h : n ≤ 64) : szR (mkR n p) = n := by rw [szR_mk]; omega
end Go.Ago

/- Contracts of the reference of layer 2: Lay, Then, Back. Conditions: none. -/
set_option maxRecDepth 100000
set_option linter.unusedSimpArgs false
set_option linter.unusedVariables false
namespace Go.Ago

/-! Row by row, place by place: what lies ahead of (i, k). -/
/-! ### Lay -/
/-! ### Back -/
/-! ### Then -/
end Go.Ago

/- Ways: what is reached from where. Conditions: none. -/
set_option linter.unusedSimpArgs false
set_option linter.unusedVariables false
namespace Go.Ago

section
variable {p : Nat → Nat → Bool}
theorem way_up {m i k : Nat} (h : way p m i k = true) : way p (m + 1) i k = true := by simp only [way, h, Bool.true_or]
theorem way_mono {m m' i k : Nat} (hm : m ≤ m') (h : way p m i k = true) : way p m' i k = true := by
  induction hm with
  | refl => exact h
  | step _ ih => exact way_up ih
theorem way_of {m i k : Nat} (h : p i k = true) : way p m i k = true := way_mono (Nat.zero_le m) (by simpa only [way] using h)
/-- The least that is closed. -/
theorem way_min {V : Nat → Bool} (hc : ∀ b c, V b = true → p b c = true → V c = true) {m i : Nat} (hs : ∀ b, p i b = true → V b = true) : ∀ {k : Nat}, way p m i k = true → V k = true := by
  suffices h : ∀ m a k, (V a = true ∨ a = i) → way p m a k = true → V k = true from fun {k} hk => h m i k (.inr rfl) hk
  intro m
  induction m with
  | zero =>
    intro a k ha hk
    simp only [way] at hk
    rcases ha with ha | ha
    · exact hc a k ha hk
    · subst ha; exact hs k hk
  | succ m ih =>
    intro a k ha hk
    simp only [way, Bool.or_eq_true, Bool.and_eq_true] at hk
    rcases hk with hk | ⟨h1, h2⟩
    · exact ih a k ha hk
    · exact ih m k (.inl (ih a m ha h1)) h2
theorem way_lt {n : Nat} (hp : ∀ a b, p a b = true → a < n ∧ b < n) {m i k : Nat} (h : way p m i k = true) : i < n ∧ k < n := by
  induction m generalizing i k with
  | zero => exact hp i k (by simpa only [way] using h)
  | succ m ih =>
    simp only [way, Bool.or_eq_true, Bool.and_eq_true] at h
    rcases h with h | ⟨h1, h2⟩
    · exact ih h
    · exact ⟨(ih h1).1, (ih h2).2⟩
end

/-- What the search for all that is reached from i Z42: T is still to be looked at; of the one that is looked at, the first k are done. -/
structure Seek (A : List W) (n i : Nat) (V : Nat → Bool) (T : List Nat) (q : Nat → Nat → Prop) : Prop where
  sound : ∀ b, V b = true → b < n ∧ way (hasN A) n i b = true
  start : ∀ b, hasN A i b = true → V b = true
  todo : ∀ b ∈ T, V b = true
  done : ∀ b c, V b = true → hasN A b c = true → b ∈ T ∨ V c = true ∨ q b c

theorem Seek.end {A : List W} {n i : Nat} {V : Nat → Bool} (h : Seek A n i V [] fun _ _ => False) (b : Nat) : V b = way (hasN A) n i b := by
  apply beq_of_iff
  refine ⟨fun hv => (h.sound b hv).2, fun hw => way_min (V := V) (fun b c hb hc => ?_) h.start hw⟩
  rcases h.done b c hb hc with h1 | h1 | h1
  · simp at h1
  · exact h1
  · exact h1.elim

theorem Seek.skip {A : List W} {n i j k : Nat} {V : Nat → Bool} {T : List Nat} (h : Seek A n i V T fun b c => b = j ∧ k ≤ c) (hk : hasN A j k = false ∨ V k = true) : Seek A n i V T fun b c => b = j ∧ k + 1 ≤ c :=
  ⟨h.sound, h.start, h.todo, fun b c h1 h2 => by
    rcases h.done b c h1 h2 with h3 | h3 | ⟨h3, h4⟩
    · exact .inl h3
    · exact .inr (.inl h3)
    · by_cases e : c = k
      · subst e; subst h3
        rcases hk with hk | hk
        · rw [hk] at h2; cases h2
        · exact .inr (.inl hk)
      · exact .inr (.inr ⟨h3, by omega⟩)⟩
theorem Seek.rest {A : List W} {n i j : Nat} {V : Nat → Bool} {T : List Nat} (h : Seek A n i V T fun b c => b = j ∧ n ≤ c) (hn : szR A ≤ n) : Seek A n i V T fun _ _ => False :=
  ⟨h.sound, h.start, h.todo, fun b c h1 h2 => by
    rcases h.done b c h1 h2 with h3 | h3 | ⟨h3, h4⟩
    · exact .inl h3
    · exact .inr (.inl h3)
    · have := (hasN_lt h2).2; omega⟩
end Go.Ago

/- Law 22: awake, raced, and RaceOrder. Conditions: none. -/
set_option maxRecDepth 100000
set_option linter.unusedSimpArgs false
set_option linter.unusedVariables false
namespace Go.Ago
/-! ### The order -/
def dirN (ss : List StepG) (i k : Nat) : Bool := decide (k < ss.length) && (decide (i < k) && dirQ ss i k)
theorem ofP_all {q : Nat → Nat → Bool} {n i k : Nat} (hi : i < n) (hk : k < n) : ofP (pAll q n n) i k = (decide (i < k) && q i k) := by
  rw [Bool.eq_iff_iff]
  unfold ofP
  rw [List.any_eq_true]
  constructor
  · rintro ⟨x, hx, h⟩
    obtain ⟨a, b, h1, h2, h3, h4, rfl⟩ := pAll_mem.1 hx
    simp only [Bool.and_eq_true, decide_eq_true_eq] at h ⊢
    obtain ⟨e1, e2⟩ := h
    have e1 : a = i := by omega
    have e2 : b = k := by omega
    subst e1; subst e2
    exact ⟨h3, h4⟩
  · intro h
    simp only [Bool.and_eq_true, decide_eq_true_eq] at h
    exact ⟨⟨i, k⟩, pAll_mem.2 ⟨i, k, hi, hk, h.1, h.2, rfl⟩, by simp⟩
theorem ofErr_all {q : Nat → Nat → Bool} {n : Nat} (hn : n ≤ 64) : ofErr n (pAll q n n) = 0 := by
  unfold ofErr
  rw [if_neg (by omega)]
  have : (pAll q n n).any (ofBad n) = false := by
    rw [List.any_eq_false]
    intro x hx
    obtain ⟨a, b, h1, h2, h3, h4, rfl⟩ := pAll_mem.1 hx
    simp [ofBad]; omega
  rw [this]; rfl
theorem ofG_all {q : Nat → Nat → Bool} {n : Nat} (hn : n ≤ 64) : ofG n (pAll q n n) = mkR n (fun i k => decide (i < k) && q i k) := by
  unfold ofG
  rw [if_pos (ofErr_all hn), Int.toNat_natCast]
  exact mkR_congr fun a b ha hb => ofP_all ha hb
theorem ord_len {ss : List StepG} (hn : ss.length ≤ 64) : (ordG ss).length = ss.length := by
  unfold ordG plusG
  rw [ofG_all hn, mkR_len, szR_mk' hn]
theorem ord_has {ss : List StepG} (hn : ss.length ≤ 64) {i k : Nat} : hasI (ordG ss) i k = way (dirN ss) ss.length i k := by
  have hp : ∀ a b, hasN (mkR ss.length (fun i k => decide (i < k) && dirQ ss i k)) a b = dirN ss a b := fun a b => by
    rw [hasN_mk hn]
    unfold dirN
    by_cases h : b < ss.length
    · by_cases h2 : a < b
      · have : a < ss.length := by omega
        simp [h, h2, this]
      · simp [h, h2]
    · simp [h]
  unfold ordG plusG
  rw [ofG_all hn, szR_mk' hn, hasI_nat, hasN_mk hn]
  have hw : hasN (mkR ss.length (fun i k => decide (i < k) && dirQ ss i k)) = dirN ss := by funext a b; exact hp a b
  rw [hw]
  by_cases h : way (dirN ss) ss.length i k = true
  · have := way_lt (n := ss.length) (fun a b e => by
      unfold dirN at e
      simp only [Bool.and_eq_true, decide_eq_true_eq] at e
      omega) h
    simp [h, this]
  · rw [Bool.not_eq_true] at h
    rw [h, Bool.and_false]
theorem dirN_iff {ss : List StepG} {i k : Nat} : dirN ss i k = true ↔ k < ss.length ∧ i < k ∧ dirQ ss i k = true := by unfold dirN; simp
/-- A path of the order: what is reached from a step. -/
theorem ord_min {ss : List StepG} (hn : ss.length ≤ 64) {i : Nat} {P : Nat → Prop} (hs : ∀ k, k < ss.length → i < k → dirQ ss i k = true → P k) (hc : ∀ j k, P j → i < j → j < k → k < ss.length → dirQ ss j k = true → P k) {k : Nat} (h : hasI (ordG ss) i k = true) : i < k ∧ k < ss.length ∧ P k := by
  rw [ord_has hn] at h
  classical
  have := way_min (p := dirN ss) (V := fun k => decide (i < k ∧ k < ss.length ∧ P k)) (fun b c hb hbc => by
    simp only [decide_eq_true_eq] at hb ⊢
    obtain ⟨h1, h2, h3⟩ := dirN_iff.1 hbc
    exact ⟨by omega, h1, hc b c hb.2.2 hb.1 h2 h1 h3⟩) (i := i) (fun b hb => by
    simp only [decide_eq_true_eq]
    obtain ⟨h1, h2, h3⟩ := dirN_iff.1 hb
    exact ⟨h2, h1, hs b h1 h2 h3⟩) h
  simpa using this
theorem ord_of {ss : List StepG} (hn : ss.length ≤ 64) {i k : Nat} (hik : i < k) (hk : k < ss.length) (h : dirQ ss i k = true) : hasI (ordG ss) i k = true := by
  rw [ord_has hn]; exact way_of (dirN_iff.2 ⟨hk, hik, h⟩)
/-! ### awake -/
def aw22 : List StepG := [⟨0, ⟨2, 0, 0, 1⟩, ⟨1, 1⟩⟩, ⟨1, ⟨1, 0, 1, 0⟩, ⟨1, 1⟩⟩]
theorem aw22_err : playErr [⟨false, 0⟩] 2 aw22 = 0 := by decide +kernel
theorem aw22_races : (racesL [⟨false, 0⟩] 2 aw22).length = 1 ∧ (racesL [⟨false, 0⟩] 2 aw22).getD 0 default = ⟨0, 1⟩ := by decide +kernel
set_option maxHeartbeats 4000000 in
theorem body_law22_awake {T : Tab} {n1 : Nat} (k1 : Knows T n1 sp_Races) : sp_true.Body T V_law22_awake (L_law22_awake n1) R_law22_awake := by
  have F1 := k1.F; have G1 := k1.G
  rintro x -
  refine .inl ⟨rfl, ?_⟩
  unfold V_law22_awake L_law22_awake R_law22_awake
  obtain ⟨L, hL⟩ : ∃ L, L = racesL [⟨false, 0⟩] 2 aw22 := ⟨_, rfl⟩
  have hr : ∀ f g, sp_Races.at [.d (.list [[.bool false, .int .i64 0]] f), .d (.int .i64 2), .d (.list [[.int .i64 0, .int .i64 2, .int .i64 0, .int .i64 0, .int .i64 1, .int .i64 1, .int .i64 1], [.int .i64 1, .int .i64 1, .int .i64 0, .int .i64 1, .int .i64 0, .int .i64 1, .int .i64 1]] g)] =
      .data (1 ≤ maxLen ∧ 2 ≤ maxLen) (.tup [.d (.list (L.map RatG.row) false), .d (.int .i64 0)]) false := fun f g => by
    have := at_Races [⟨false, 0⟩] f 2 aw22 g
    rw [aw22_err, ← hL] at this
    exact this
  obtain ⟨h1, h2⟩ := aw22_races
  rw [← hL] at h1 h2
  have ht : ∀ n : Int, n.toNat = n.toNat := fun _ => rfl
  simp (maxSteps := 3000000) only [↓Z28, ↓Z34, ↓Z25, ↓Z0x, ↓Z27, ↓Z1x, Z3t, Z3u, ↓Z35, ↓Z24, ↓Z1e, ↓Z26, ↓Z23, ↓Z31, ↓Z33, ↓Z32, ↓Z1l, ↓Z1o, ↓Z1m, ↓Z1n, ↓Z30, ↓Z3x, ↓Z3w, ↓Z2x, ↓Z2z, ↓Z2y, ↓Z3n, ↓Z3p, ↓Z3o, ↓Z0i, ↓Z08, ↓Z15, ↓Z14, ↓Z13, Z4h, Z0z, Z10, Z3j, Z11, Z3v, evN, Z2k, Z2p, Z3q, Z3r, Z2n, Z1i, Z2l, Z22, Z1q, Z1p, Z16, Z2m, evT, Opd.ev, Z0e, Z05, Z3l, Z3k, Z3m, Z1k, Z12, Z2v, Z2u, Z2t, Z2a, Z29, Z42, LOp.isNew, State.prune, Z3a, Z36, AV.leaf, Heap.at, Z0r, Z09, Z04, Z0c, Z02, Z4g, Z4l, Z2s, Z2r, Z2q, Z1r, Z17, Z03, Z0a, Z01, Z00, Z1v, rowI, rowU, RatG.row, LocG.row, ActG.row, StepG.row, StampG.row, ActG.av, ActG.eta, RatG.eta, LocG.eta, beq_true, beq_false, Z1w, Z21, Z2d, Z1j, Z2b, Z1y, Z2c, Z0w, Z0h, Z0u, Z0v, Z0g, Z0f, Z07, List.length_set, List.length_replicate, Int.toNat_natCast, Int.reduceToNat, Z4f, Z1h, Z40, Src.all, Src.len, Src.leaf, Src.leafN, Z2h, Z3f, Z45, Z0j, Z0k, Z0l, Z0m, Z0n, Z0o, Z0p, Z0q, Z43, drows, evMk, List.length_map, Z0y, Z1f, List.take_length, List.take_left, List.length_append, Nat.le_add_right, ite_self, List.take_of_length_le, Z38, Z48, Z3y, Option.isSome_none, Option.isSome_some, Nat.sub_zero, Z46, Z4b, Z4e, evUn, binT, binQ, chk, Z3b, List.contains_cons, List.contains_nil, Bool.or_false, Bool.false_or, Bool.and_self, resQ, resV, resT, Z4c, Z2i, Z3i, Z3h, fnOf, Z3c, isD, HO.drow, Z4a, Z3d, evEq, eqV, eqK, eqC1, Z3g, Z3e, Z2g, Z2f, Z3s, Z2w, Z41, Z39, Z1u, Z1a, Z1t, Z19, Z1s, Z18, Z1b, Z0s, Z0t, Z0b, List.mem_cons, List.not_mem_nil, or_false, forall_eq, putRow, Z37, Z2o, RetS, RetF, RetD, AV.frz, AV.frzL, AV.freshP, AV.freshL, DV.less, Z1z, Z1c, Z20, Z1d, Z1g, Z0d, Z06, Option.some.injEq, AV.tup.injEq, AV.agg.injEq, List.cons.injEq, DV.list.injEq, List.isEmpty_nil, Nat.le_refl, AV.d.injEq, DV.int.injEq, DV.bool.injEq, ↓reduceIte, Nat.reduceEqDiff, Nat.reduceAdd, Nat.reduceBEq, List.length_cons, List.length_nil, List.replicate_succ, List.replicate_zero, List.nil_append, List.cons_append, List.append_nil, List.foldl_cons, List.foldl_nil, List.map_cons, List.map_nil, List.all_cons, List.all_nil, List.set_cons_zero, List.set_cons_succ, List.getD_cons_zero, List.getD_cons_succ, List.drop_zero, List.drop_succ_cons, List.take_succ_cons, List.take_zero, List.flatten_cons, List.flatten_nil, Bool.true_and, Bool.and_true, Bool.not_true, Bool.not_false, true_and, and_true, true_or, or_true, Option.bind_some, Option.map_some, decide_true, decide_false, beq_self_eq_true, true_implies, false_implies, implies_true, not_true_eq_false, not_false_eq_true, and_self, Bool.and_false, Bool.false_and, Nat.reduceLT, Nat.reduceLeDiff, List.reverse_cons, List.reverse_nil, Nat.zero_add, Nat.add_zero, Bool.false_eq_true, List.getElem?_cons_zero, sp_true, F1, G1, hr, h1, h2, Z04, Z01]
  exact ⟨⟨by decide, by decide, Z4j (by decide) (by decide)⟩, ⟨by decide, by decide⟩, fun _ => ⟨by decide, by decide⟩, fun h => h rfl⟩
/-! ### RaceOrder -/
theorem ordL_ok {l : List LocG} {t : Int} {ss : List StepG} (h : playErr l t ss = 0) : ordL l t ss = ordG ss := if_pos h
theorem dirQ_same {ss : List StepG} {i k : Nat} (h : (ss.getD i default).thread = (ss.getD k default).thread) : dirQ ss i k = true := dirB_1 h
end Go.Ago

/- HistSwap: two plain acts of unlike threads on unlike locations change places. Conditions: none. -/
set_option maxRecDepth 100000
set_option linter.unusedSimpArgs false
set_option linter.unusedVariables false
namespace Go.Ago
end Go.Ago

/- HistOwn: a thread reads what it wrote itself, or what stands later. Conditions: none. -/
set_option maxRecDepth 100000
set_option linter.unusedSimpArgs false
set_option linter.unusedVariables false
namespace Go.Ago
end Go.Ago

/- HistOnward: fronts and marks never go back, and what was written stays. Conditions: none. -/
set_option maxRecDepth 100000
set_option linter.unusedSimpArgs false
set_option linter.unusedVariables false
namespace Go.Ago
/-- A list, and what it has grown to at place i. -/
structure Grown (P Q : List StampG) (i : Nat) : Prop where
  len : (Q.length = P.length ∧ P.length < i) ∨ (Q.length = P.length + 1 ∧ i ≤ P.length)
  lo : ∀ j, j < Q.length → j < i → j < P.length ∧ Q.getD j default = P.getD j default
  mid : i < P.length → Q.getD i default ≠ P.getD i default
  hi : ∀ j, j < Q.length → i < j → j - 1 < P.length ∧ Q.getD j default = P.getD (j - 1) default
theorem grown_self (P : List StampG) : Grown P P (P.length + 1) := ⟨.inl ⟨rfl, Nat.lt_succ_self _⟩, fun j h _ => ⟨h, rfl⟩, fun h => absurd h (by omega), fun j h h2 => absurd h (by omega)⟩
theorem insG_get {P : List StampG} {i j : Nat} {x : StampG} (hi : i ≤ P.length) : (insG P i x).getD j default = if j < i then P.getD j default else if j = i then x else P.getD (j - 1) default := by
  unfold insG
  rw [List.getD_eq_getElem?_getD, List.getElem?_append]
  rw [List.length_take, Nat.min_eq_left hi]
  split
  · rename_i h
    rw [List.getElem?_take, if_pos h, ← List.getD_eq_getElem?_getD]
  · rename_i h
    split
    · rename_i e; subst e; simp
    · rename_i e
      obtain ⟨d, rfl⟩ : ∃ d, j = i + (d + 1) := ⟨j - i - 1, by omega⟩
      rw [show i + (d + 1) - i = d + 1 by omega, List.getElem?_cons_succ, List.getElem?_drop, ← List.getD_eq_getElem?_getD, show i + (d + 1) - 1 = i + d by omega]
theorem grown_ins {P : List StampG} {i : Nat} {x : StampG} (hi : i ≤ P.length) (hx : ∀ k, k < P.length → P.getD k default ≠ x) : Grown P (insG P i x) i := by
  have hl := insG_len (v := x) hi
  refine ⟨.inr ⟨hl, hi⟩, fun j h h2 => ⟨by omega, ?_⟩, fun h => ?_, fun j h h2 => ⟨by omega, ?_⟩⟩
  · rw [insG_get hi, if_pos h2]
  · rw [insG_get hi, if_neg (by omega), if_pos rfl]
    exact fun e => hx i h e.symm
  · rw [insG_get hi, if_neg (by omega), if_neg (by omega)]
theorem goesOn_self {L : List (List RatG)} (h : ∀ r ∈ L, ∀ q ∈ r, Z4k q = true) : GoesOn L L :=
  ⟨rfl, fun i hi => ⟨rfl, fun k hk => ⟨by rw [cmpQ_self]; omega, h _ (getD_mem hi) _ (by rw [getD_lt hk]; exact List.getElem_mem _)⟩⟩⟩
theorem goesOn_set {L : List (List RatG)} {i : Nat} {r : List RatG} (h : ∀ r ∈ L, ∀ q ∈ r, Z4k q = true) (hl : (L.getD i []).length = r.length) (hr : ∀ k, k < r.length → Z4t ((L.getD i []).getD k default) (r.getD k default) ≤ 0 ∧ Z4k (r.getD k default) = true) : GoesOn L (L.set i r) := by
  refine ⟨List.length_set.symm, fun j hj => ?_⟩
  rw [getD_setQ]
  by_cases e : i = j
  · subst e
    rw [if_pos ⟨rfl, hj⟩]
    exact ⟨hl, fun k hk => hr k (by omega)⟩
  · rw [if_neg (by omega)]
    exact (goesOn_self h).2 j hj
/-- What a step leaves goes on from what was. -/
structure Onwards (m n : Mem) : Prop where
  fronts : GoesOn m.fronts n.fronts
  marks : GoesOn m.marks n.marks
  past : n.past.length = m.past.length
  grown : ∀ k, k < m.past.length → ∃ i, Grown (m.past.getD k []) (n.past.getD k []) i
theorem do_onwards {m : Mem} {s : StepG} {b : Nat} (h : m.Good b) (he : doErr m s = 0) : Onwards m (doMem m s) := by
  have ht := taken he
  have t0 := ht.t0
  have t1 := ht.t1
  have hfm : frontOf m s ∈ m.fronts := getD_mem (by omega)
  have hfl : (frontOf m s).length = m.locs.length := h.wf.frontsL _ hfm
  have hfr := h.frontsR _ hfm
  have self : ∀ k, k < m.past.length → ∃ i, Grown (m.past.getD k []) (m.past.getD k []) i := fun k _ => ⟨_, grown_self _⟩
  unfold doMem
  split
  · rename_i hk
    have hl := ht.loc (.inl (by rw [hk]; rfl))
    have hw := ht.when (by rw [hk]; rfl)
    obtain ⟨hb, hf⟩ := ht.write hk
    have hpm : pastOf m s ∈ m.past := getD_mem (by rw [h.wf.past]; omega)
    have hpr := h.rising _ hpm
    refine ⟨goesOn_set h.frontsR (by rw [List.length_set]; rfl) fun k hk2 => ?_, goesOn_self h.marksR, List.length_set, fun k hk2 => ?_⟩
    · rw [List.length_set] at hk2
      have r0 : Z4k ((frontOf m s).getD k default) = true := hfr _ (by rw [getD_lt hk2]; exact List.getElem_mem _)
      show Z4t ((frontOf m s).getD k default) (((frontOf m s).set s.act.loc.toNat (leastQ s.when)).getD k default) ≤ 0 ∧ _
      rw [getD_setQ]
      split
      · rename_i e
        refine ⟨?_, leastQ_right hw⟩
        rw [← e.1, cmpQ_alike' (leastQ_right hw) hw (by rw [e.1]; exact r0) (leastQ_cmp hw), cmpQ_anti]
        omega
      · exact ⟨by rw [cmpQ_self]; omega, r0⟩
    · show ∃ i, Grown (m.past.getD k []) ((m.past.set s.act.loc.toNat _).getD k []) i
      rw [getD_setQ]
      split
      · rename_i e
        refine ⟨bsAt (pastOf m s) s.when, ?_⟩
        rw [← e.1]
        refine grown_ins (bsAt_le _ _) fun q hq e2 => ?_
        have := bsHas_false hpr hw hb hq
        have e3 : (pastOf m s).getD q default = ⟨leastQ s.when, s.act.new⟩ := e2
        rw [e3] at this
        exact this (leastQ_cmp hw)
      · exact self k hk2
  · split
    · rename_i hk2 hk
      have hl := ht.loc (.inr hk)
      have hmm : markOf m s ∈ m.marks := getD_mem (by rw [h.wf.marks]; omega)
      have hml : (markOf m s).length = m.locs.length := h.wf.marksA _ (by omega) (by
        have := ht.right
        obtain ⟨t, ⟨k, o, q, v⟩, w⟩ := s
        exact right_atom hk this)
      have hmr := h.marksR _ hmm
      have hbl : (joinG (frontOf m s) (markOf m s)).length = m.locs.length := by rw [joinG_len]; exact hfl
      have hbr := joinG_right (show (frontOf m s).length ≤ (markOf m s).length by omega) hfr (h.marksR _ hmm)
      have each : ∀ k, k < (joinG (frontOf m s) (markOf m s)).length → Z4t ((frontOf m s).getD k default) ((joinG (frontOf m s) (markOf m s)).getD k default) ≤ 0 ∧ Z4t ((markOf m s).getD k default) ((joinG (frontOf m s) (markOf m s)).getD k default) ≤ 0 ∧ Z4k ((joinG (frontOf m s) (markOf m s)).getD k default) = true := fun k hk => by
        refine ⟨?_, ?_, hbr _ (by rw [getD_lt hk]; exact List.getElem_mem _)⟩
        · rw [joinG_get (by omega)]; exact ratMaxG_left
        · rw [joinG_get (by omega)]; exact ratMaxG_rgt
      have GF : GoesOn m.fronts (m.fronts.set s.thread.toNat (joinG (frontOf m s) (markOf m s))) := goesOn_set h.frontsR (by rw [hbl]; exact hfl) fun k hk => ⟨(each k hk).1, (each k hk).2.2⟩
      split
      · exact ⟨GF, goesOn_self h.marksR, rfl, self⟩
      · exact ⟨GF, goesOn_set h.marksR (by rw [hbl]; exact hml) fun k hk => ⟨(each k hk).2.1, (each k hk).2.2⟩, rfl, self⟩
    · exact ⟨goesOn_self h.frontsR, goesOn_self h.marksR, rfl, self⟩
end Go.Ago

/- HistSees: a thread may read just what it is told that it sees. Conditions: none. -/
set_option maxRecDepth 100000
set_option linter.unusedSimpArgs false
set_option linter.unusedVariables false
namespace Go.Ago
theorem right_plain {s : StepG} {l : List LocG} (hk : isPl s.act.kind = true) (h : s.act.right l = true) : (l.getD s.act.loc.toNat default).atom = false := by
  rw [isPl_iff] at hk
  unfold ActG.right at h
  rw [if_neg (by omega)] at h
  simp only [Bool.and_eq_true, beq_iff_eq] at h
  rw [h.1.1.2]
  unfold ActG.isA
  simp; omega
def StepG.cells (z : StepG) : List AV := [.d (.int .i64 z.thread), .d (.int .i64 z.act.kind), .d (.int .i64 z.act.loc), .d (.int .i64 z.act.old), .d (.int .i64 z.act.new), .d (.int .i64 z.when.num), .d (.int .i64 z.when.den)]
end Go.Ago

/- Runs of a memory: what is carried along the order. Conditions: none. -/
set_option maxRecDepth 100000
set_option linter.unusedSimpArgs false
set_option linter.unusedVariables false
namespace Go.Ago
/-- A run that is taken. -/
structure RunG (m : Nat → Mem) (s : Nat → StepG) (n : Nat) : Prop where
  ok : ∀ i, i < n → doErr (m i) (s i) = 0
  next : ∀ i, i < n → m (i + 1) = doMem (m i) (s i)
  good : ∀ i, i ≤ n → (m i).Good (1 + i)
  locs : ∀ i, i ≤ n → (m i).locs = (m 0).locs
  fronts : ∀ i, i ≤ n → (m i).fronts.length = (m 0).fronts.length
def memAt (l : List LocG) (t : Int) (ss : List StepG) (i : Nat) : Mem := (goM (newM l t) ss i).plain
def Z49 (ss : List StepG) (i : Nat) : StepG := ss.getD i default
theorem doMem_fronts (m : Mem) (s : StepG) : (doMem m s).fronts.length = m.fronts.length := by
  unfold doMem
  split
  · simp
  · split
    · split <;> simp
    · rfl
theorem run_of {l : List LocG} {t : Int} {ss : List StepG} (h : playErr l t ss = 0) : RunG (memAt l t ss) (Z49 ss) ss.length := by
  obtain ⟨h1, h2⟩ := playErr_new h
  have hok := firstBad_zero h2
  have hnext : ∀ i, i < ss.length → memAt l t ss (i + 1) = doMem (memAt l t ss i) (Z49 ss i) := fun i hi => by
    unfold memAt Z49
    rw [goM_succ _ hi]
    unfold stepM
    rw [if_pos (hok i hi), plain_av]
  refine ⟨hok, hnext, fun i _ => goM_good (newM_good h1) ss i, fun i hi => ?_, fun i hi => ?_⟩
  · induction i with
    | zero => rfl
    | succ i ih => rw [hnext i (by omega), doMem_locs, ih (by omega)]
  · induction i with
    | zero => rfl
    | succ i ih => rw [hnext i (by omega), doMem_fronts, ih (by omega)]
def frAt (m : Mem) (u x : Nat) : RatG := (m.fronts.getD u []).getD x default
def mkAt (m : Mem) (y x : Nat) : RatG := (m.marks.getD y []).getD x default
def paAt (m : Mem) (x : Nat) : List StampG := m.past.getD x []
section
variable {m : Mem} {s : StepG} {b x : Nat}
theorem fr_len (h : m.Good b) {u : Nat} (hu : u < m.fronts.length) : (m.fronts.getD u []).length = m.locs.length := h.wf.frontsL _ (getD_mem hu)
theorem fr_right (h : m.Good b) {u : Nat} (hu : u < m.fronts.length) (hx : x < m.locs.length) : Z4k (frAt m u x) = true :=
  h.frontsR _ (getD_mem hu) _ (getD_mem (by rw [fr_len h hu]; exact hx))
theorem mk_right (h : m.Good b) {y : Nat} (hy : y < m.locs.length) (ha : (m.locs.getD y default).atom = true) (hx : x < m.locs.length) : Z4k (mkAt m y x) = true :=
  h.marksR _ (getD_mem (by rw [h.wf.marks]; exact hy)) _ (getD_mem (by rw [h.wf.marksA y hy ha]; exact hx))
theorem fr_up (h : m.Good b) (he : doErr m s = 0) {u : Nat} (hu : u < m.fronts.length) (hx : x < m.locs.length) : Z4t (frAt m u x) (frAt (doMem m s) u x) ≤ 0 :=
  (((do_onwards h he).fronts.2 u hu).2 x (by rw [fr_len h hu]; exact hx)).1
theorem mk_up (h : m.Good b) (he : doErr m s = 0) {y : Nat} (hy : y < m.locs.length) (ha : (m.locs.getD y default).atom = true) (hx : x < m.locs.length) : Z4t (mkAt m y x) (mkAt (doMem m s) y x) ≤ 0 :=
  (((do_onwards h he).marks.2 y (by rw [h.wf.marks]; exact hy)).2 x (by rw [h.wf.marksA y hy ha]; exact hx)).1
theorem take_u (he : doErr m s = 0) : s.thread.toNat < m.fronts.length := by have := taken he; have := this.t0; have := (taken he).t1; omega
theorem fr_write (h : m.Good b) (he : doErr m s = 0) (hk : s.act.kind = 2) (hx : s.act.loc.toNat = x) : frAt (doMem m s) s.thread.toNat x = leastQ s.when := by
  have hu := take_u he
  have hl := (taken he).loc (.inl (by rw [hk]; rfl))
  unfold doMem frAt
  rw [if_pos hk]
  show ((m.fronts.set _ _).getD _ []).getD _ _ = _
  rw [getD_setQ, if_pos ⟨rfl, hu⟩, getD_setQ, if_pos ⟨hx, by show x < (m.fronts.getD _ []).length; rw [fr_len h hu]; omega⟩]
theorem fr_atom (h : m.Good b) (he : doErr m s = 0) (hk : isAt s.act.kind = true) (hx : x < m.locs.length) : frAt (doMem m s) s.thread.toNat x = ratMaxG (frAt m s.thread.toNat x) (mkAt m s.act.loc.toNat x) := by
  have hu := take_u he
  have h2 : ¬ s.act.kind = 2 := by rw [isAt_iff] at hk; omega
  have e : (joinG (frontOf m s) (markOf m s)).getD x default = ratMaxG (frAt m s.thread.toNat x) (mkAt m s.act.loc.toNat x) := joinG_get (by show x < (m.fronts.getD _ []).length; rw [fr_len h hu]; exact hx)
  unfold doMem
  rw [if_neg h2, if_pos hk]
  split
  · show ((m.fronts.set _ _).getD _ []).getD _ _ = _
    rw [getD_setQ, if_pos ⟨rfl, hu⟩, e]
  · show ((m.fronts.set _ _).getD _ []).getD _ _ = _
    rw [getD_setQ, if_pos ⟨rfl, hu⟩, e]
theorem take_at (he : doErr m s = 0) (hk : isAt s.act.kind = true) : s.act.loc.toNat < m.locs.length ∧ (m.locs.getD s.act.loc.toNat default).atom = true := by
  have ht := taken he
  have hl := ht.loc (.inr hk)
  refine ⟨by omega, ?_⟩
  have := ht.right
  obtain ⟨t, ⟨k, o, q, v⟩, w⟩ := s
  exact right_atom hk this
theorem isAt_set {k : Int} (h : isSet k = true) : isAt k = true := by
  unfold isSet at h; rw [isAt_iff]; simp at h; omega
theorem mk_set (h : m.Good b) (he : doErr m s = 0) (hk : isSet s.act.kind = true) (hx : x < m.locs.length) : mkAt (doMem m s) s.act.loc.toNat x = ratMaxG (frAt m s.thread.toNat x) (mkAt m s.act.loc.toNat x) := by
  have ha := isAt_set hk
  have hu := take_u he
  obtain ⟨hy, -⟩ := take_at he ha
  have h2 : ¬ s.act.kind = 2 := by rw [isAt_iff] at ha; omega
  have h3 : ¬ s.act.kind = 3 := by unfold isSet at hk; simp at hk; omega
  have e : (joinG (frontOf m s) (markOf m s)).getD x default = ratMaxG (frAt m s.thread.toNat x) (mkAt m s.act.loc.toNat x) := joinG_get (by show x < (m.fronts.getD _ []).length; rw [fr_len h hu]; exact hx)
  unfold doMem
  rw [if_neg h2, if_pos ha]
  simp only [if_neg h3]
  show ((m.marks.set _ _).getD _ []).getD _ _ = _
  rw [getD_setQ, if_pos ⟨rfl, by rw [h.wf.marks]; exact hy⟩, e]
theorem pa_same (hn : ¬ (s.act.kind = 2 ∧ s.act.loc.toNat = x)) : paAt (doMem m s) x = paAt m x := by
  unfold doMem paAt
  split
  · rename_i hk
    show (m.past.set _ _).getD _ [] = _
    rw [getD_setQ, if_neg (fun e => hn ⟨hk, e.1⟩)]
  · split
    · split <;> rfl
    · rfl
theorem pa_write (h : m.Good b) (he : doErr m s = 0) (hk : s.act.kind = 2) (hx : s.act.loc.toNat = x) : paAt (doMem m s) x = insG (paAt m x) (bsAt (paAt m x) s.when) ⟨leastQ s.when, s.act.new⟩ := by
  have hl := (taken he).loc (.inl (by rw [hk]; rfl))
  unfold doMem paAt
  rw [if_pos hk]
  show (m.past.set _ _).getD _ [] = _
  rw [getD_setQ, if_pos ⟨hx, by rw [h.wf.past]; omega⟩]
  unfold pastOf
  rw [hx]
end
/-! ### What is carried -/
section
variable {m : Nat → Mem} {s : Nat → StepG} {n x : Nat}
theorem run_fr {u : Nat} (h : RunG m s n) (hx : x < (m 0).locs.length) (hu : u < (m 0).fronts.length) {i j : Nat} (hij : i ≤ j) (hj : j ≤ n) : Z4t (frAt (m i) u x) (frAt (m j) u x) ≤ 0 := by
  induction hij with
  | refl => rw [cmpQ_self]; omega
  | @step j hij ih =>
    have hi : i ≤ n := by have : i ≤ j := hij; omega
    have hx' : ∀ k, k ≤ n → x < (m k).locs.length := fun k hk => by rw [h.locs k hk]; exact hx
    have hu' : ∀ k, k ≤ n → u < (m k).fronts.length := fun k hk => by rw [h.fronts k hk]; exact hu
    have e := fr_up (h.good j (by omega)) (h.ok j (by omega)) (hu' j (by omega)) (hx' j (by omega))
    rw [← h.next j (by omega)] at e
    exact cmpQ_trans (fr_right (h.good i hi) (hu' i hi) (hx' i hi)) (fr_right (h.good j (by omega)) (hu' j (by omega)) (hx' j (by omega))) (fr_right (h.good _ hj) (hu' _ hj) (hx' _ hj)) (ih (by omega)) e
theorem run_mk {y : Nat} (h : RunG m s n) (hx : x < (m 0).locs.length) (hy : y < (m 0).locs.length) (ha : ((m 0).locs.getD y default).atom = true) {i j : Nat} (hij : i ≤ j) (hj : j ≤ n) : Z4t (mkAt (m i) y x) (mkAt (m j) y x) ≤ 0 := by
  induction hij with
  | refl => rw [cmpQ_self]; omega
  | @step j hij ih =>
    have hi : i ≤ n := by have : i ≤ j := hij; omega
    have hx' : ∀ k, k ≤ n → x < (m k).locs.length := fun k hk => by rw [h.locs k hk]; exact hx
    have hy' : ∀ k, k ≤ n → y < (m k).locs.length := fun k hk => by rw [h.locs k hk]; exact hy
    have ha' : ∀ k, k ≤ n → ((m k).locs.getD y default).atom = true := fun k hk => by rw [h.locs k hk]; exact ha
    have e := mk_up (h.good j (by omega)) (h.ok j (by omega)) (hy' j (by omega)) (ha' j (by omega)) (hx' j (by omega))
    rw [← h.next j (by omega)] at e
    exact cmpQ_trans (mk_right (h.good i hi) (hy' i hi) (ha' i hi) (hx' i hi)) (mk_right (h.good j (by omega)) (hy' j (by omega)) (ha' j (by omega)) (hx' j (by omega))) (mk_right (h.good _ hj) (hy' _ hj) (ha' _ hj) (hx' _ hj)) (ih (by omega)) e
/-- What a step has of a moment. -/
structure Bears (m : Nat → Mem) (s : Nat → StepG) (x : Nat) (w : RatG) (j : Nat) : Prop where
  fr : Z4t w (frAt (m (j + 1)) (s j).thread.toNat x) ≤ 0
  mar : isSet (s j).act.kind = true → Z4t w (mkAt (m (j + 1)) (s j).act.loc.toNat x) ≤ 0
  pl : isPl (s j).act.kind = true → Z4t w (frAt (m j) (s j).thread.toNat x) ≤ 0
theorem max_le_l {w a b : RatG} (hw : Z4k w = true) (ha : Z4k a = true) (hb : Z4k b = true) (h : Z4t w a ≤ 0) : Z4t w (ratMaxG a b) ≤ 0 := cmpQ_trans hw ha (ratMaxG_right ha hb) h ratMaxG_left
theorem max_le_r {w a b : RatG} (hw : Z4k w = true) (ha : Z4k a = true) (hb : Z4k b = true) (h : Z4t w b ≤ 0) : Z4t w (ratMaxG a b) ≤ 0 := cmpQ_trans hw hb (ratMaxG_right ha hb) h ratMaxG_rgt
theorem has_of_front {w : RatG} (h : RunG m s n) (hx : x < (m 0).locs.length) (hw : Z4k w = true) {j : Nat} (hj : j < n) (hf : Z4t w (frAt (m j) (s j).thread.toNat x) ≤ 0) : Bears m s x w j := by
  have hg := h.good j (by omega)
  have he := h.ok j hj
  have hxj : x < (m j).locs.length := by rw [h.locs j (by omega)]; exact hx
  have hu := take_u he
  have hu0 : (s j).thread.toNat < (m 0).fronts.length := by rw [← h.fronts j (by omega)]; exact hu
  have hu1 : (s j).thread.toNat < (m (j + 1)).fronts.length := by rw [h.fronts (j + 1) (by omega)]; exact hu0
  have hx1 : x < (m (j + 1)).locs.length := by rw [h.locs (j + 1) (by omega)]; exact hx
  refine ⟨cmpQ_trans hw (fr_right hg hu hxj) (fr_right (h.good (j + 1) (by omega)) hu1 hx1) hf (run_fr h hx hu0 (by omega) (by omega)), fun hs => ?_, fun _ => hf⟩
  obtain ⟨hy, ha⟩ := take_at he (isAt_set hs)
  rw [h.next j hj, mk_set hg he hs hxj]
  exact max_le_l hw (fr_right hg hu hxj) (mk_right hg hy ha hxj) hf
theorem has_next {w : RatG} (h : RunG m s n) (hx : x < (m 0).locs.length) (hw : Z4k w = true) {j k : Nat} (hjk : j < k) (hk : k < n) (hj : Bears m s x w j) (hd : dirB (s j) (s k) = true) : Bears m s x w k := by
  have hg := h.good k (by omega)
  have he := h.ok k hk
  have hxk : x < (m k).locs.length := by rw [h.locs k (by omega)]; exact hx
  have hu := take_u he
  have hu0 : (s k).thread.toNat < (m 0).fronts.length := by rw [← h.fronts k (by omega)]; exact hu
  have hxj : x < (m (j + 1)).locs.length := by rw [h.locs (j + 1) (by omega)]; exact hx
  have hgj := h.good (j + 1) (by omega)
  by_cases ht : (s j).thread = (s k).thread
  · refine has_of_front h hx hw hk ?_
    have := hj.fr
    rw [ht] at this
    exact cmpQ_trans hw (fr_right hgj (by rw [h.fronts (j + 1) (by omega)]; exact hu0) hxj) (fr_right hg hu hxk) this (run_fr h hx hu0 (by omega) (by omega))
  · unfold dirB at hd
    rw [decide_eq_false ht, Bool.false_or] at hd
    simp only [Bool.and_eq_true, decide_eq_true_eq] at hd
    obtain ⟨⟨h1, h2⟩, h3⟩ := hd
    obtain ⟨hy, ha⟩ := take_at he h2
    have hy0 : (s k).act.loc.toNat < (m 0).locs.length := by rw [← h.locs k (by omega)]; exact hy
    have ha0 : ((m 0).locs.getD (s k).act.loc.toNat default).atom = true := by rw [← h.locs k (by omega)]; exact ha
    have hm := hj.mar h1
    rw [h3] at hm
    have hm2 : Z4t w (mkAt (m k) (s k).act.loc.toNat x) ≤ 0 :=
      cmpQ_trans hw (mk_right hgj (by rw [h.locs (j + 1) (by omega)]; exact hy0) (by rw [h.locs (j + 1) (by omega)]; exact ha0) hxj) (mk_right hg hy ha hxk) hm (run_mk h hx hy0 ha0 (by omega) (by omega))
    refine ⟨?_, fun hs => ?_, fun hp => ?_⟩
    · rw [h.next k hk, fr_atom hg he h2 hxk]
      exact max_le_r hw (fr_right hg hu hxk) (mk_right hg hy ha hxk) hm2
    · rw [h.next k hk, mk_set hg he hs hxk]
      exact max_le_r hw (fr_right hg hu hxk) (mk_right hg hy ha hxk) hm2
    · rw [isPl_iff] at hp; rw [isAt_iff] at h2; omega
end
/-- A write is carried to all that is ordered behind it. -/
theorem carried {m : Nat → Mem} {ss : List StepG} {x : Nat} (h : RunG m (Z49 ss) ss.length) (hn : ss.length ≤ 64) (hx : x < (m 0).locs.length) {k : Nat} (hk : k < ss.length) (hkk : (Z49 ss k).act.kind = 2) (hl : (Z49 ss k).act.loc.toNat = x)
    {i : Nat} (hi : hasI (ordG ss) k i = true) (hp : isPl (Z49 ss i).act.kind = true) : Z4t (leastQ (Z49 ss k).when) (frAt (m i) (Z49 ss i).thread.toNat x) ≤ 0 := by
  have hg := h.good k (by omega)
  have he := h.ok k hk
  have hw := leastQ_right ((taken he).when (by rw [hkk]; rfl))
  have h0 : ∀ j, j < ss.length → k < j → dirQ ss k j = true → Bears m (Z49 ss) x (leastQ (Z49 ss k).when) j := fun j hj hkj hd => by
    have hth : (Z49 ss k).thread = (Z49 ss j).thread := by
      have hd : dirB (Z49 ss k) (Z49 ss j) = true := hd
      unfold dirB at hd
      have hns : isSet (Z49 ss k).act.kind = false := by rw [hkk]; rfl
      rw [hns] at hd
      simpa using hd
    have hu0 : (Z49 ss k).thread.toNat < (m 0).fronts.length := by rw [← h.fronts k (by omega)]; exact take_u he
    refine has_of_front h hx hw hj ?_
    rw [← hth]
    have e := fr_write hg he hkk hl
    rw [← h.next k hk] at e
    rw [← e]
    exact run_fr h hx hu0 (by omega) (by omega)
  exact (ord_min hn (P := fun j => Bears m (Z49 ss) x (leastQ (Z49 ss k).when) j) h0 (fun j q hj _ hjq hq hd => has_next h hx hw hjq hq hj hd) hi).2.2.pl hp
/-! ### What was written last -/
def isW (s : StepG) (x : Nat) : Bool := decide (s.act.kind = 2) && decide (s.act.loc.toNat = x)
def lastVal (v : Int) (s : Nat → StepG) (x : Nat) : Nat → Int
  | 0 => v
  | i + 1 => if isW (s i) x = true then (s i).act.new else lastVal v s x i
theorem bs_end {L : List StampG} {w : RatG} (h : Rising L) (hw : Z4k w = true) (ha : ∀ k, k < L.length → Z4t (L.getD k default).when w < 0) : bsAt L w = L.length := by
  have h1 := bsAt_le L w
  have h2 := (bs_split h hw).2
  rcases Nat.lt_or_eq_of_le h1 with h3 | h3
  · have := h2 (bsAt L w) (Nat.le_refl _) h3
    have := ha _ h3
    omega
  · exact h3
theorem insG_end {L : List StampG} {v : StampG} : insG L L.length v = L ++ [v] := by unfold insG; simp
theorem getD_last {P : List StampG} {e : StampG} : (P ++ [e]).getD P.length default = e := by simp
/-- The last of a past, and where it stands to those who come. -/
structure Top (m : Nat → Mem) (s : Nat → StepG) (n x : Nat) (v : Int) (i : Nat) (P : List StampG) (e : StampG) : Prop where
  past : paAt (m i) x = P ++ [e]
  right : Z4k e.when = true
  val : e.val = lastVal v s x i
  le : ∀ j, i ≤ j → j < n → isPl (s j).act.kind = true → (s j).act.loc.toNat = x → Z4t e.when (frAt (m j) (s j).thread.toNat x) ≤ 0
theorem pa_rising {m : Mem} {b x : Nat} (h : m.Good b) (hx : x < m.locs.length) : Rising (paAt m x) := h.rising _ (getD_mem (by rw [h.wf.past]; exact hx))
theorem top_lt {L P : List StampG} {e : StampG} {w : RatG} (hL : L = P ++ [e]) (h : Rising L) (hw : Z4k w = true) (he : Z4t e.when w < 0) : ∀ k, k < L.length → Z4t (L.getD k default).when w < 0 := by
  subst hL
  intro k hk
  have hlen : (P ++ [e]).length = P.length + 1 := by simp
  by_cases hkp : k = P.length
  · subst hkp; rw [getD_last]; exact he
  · have h1 := h.lt (i := k) (j := P.length) (by omega) (by omega)
    rw [getD_last] at h1
    have he0 := h.get (i := P.length) (by omega)
    rw [getD_last] at he0
    exact cmpQ_lt_le (h.get hk) he0 hw h1 (by omega)
theorem top_all {m : Nat → Mem} {ss : List StepG} {x : Nat} {v : Int} (h : RunG m (Z49 ss) ss.length) (hn : ss.length ≤ 64) (hx : x < (m 0).locs.length) (h0 : paAt (m 0) x = [⟨⟨0, 1⟩, v⟩]) (hf : ∀ u, u < (m 0).fronts.length → frAt (m 0) u x = ⟨0, 1⟩)
    (hord : ∀ k i, k < i → i < ss.length → (Z49 ss k).act.kind = 2 → (Z49 ss k).act.loc.toNat = x → isPl (Z49 ss i).act.kind = true → (Z49 ss i).act.loc.toNat = x → hasI (ordG ss) k i = true) :
    ∀ i, i ≤ ss.length → ∃ P e, Top m (Z49 ss) ss.length x v i P e := by
  intro i
  induction i with
  | zero =>
    intro _
    refine ⟨[], ⟨⟨0, 1⟩, v⟩, h0, (by decide : Z4k ⟨0, 1⟩ = true), rfl, fun j _ hj hp hl => ?_⟩
    have hu0 : (Z49 ss j).thread.toNat < (m 0).fronts.length := by rw [← h.fronts j (by omega)]; exact take_u (h.ok j hj)
    have := run_fr h hx hu0 (Nat.zero_le j) (by omega)
    rw [hf _ hu0] at this
    exact this
  | succ i ih =>
    intro hi
    obtain ⟨P, e, hT⟩ := ih (by omega)
    have hg := h.good i (by omega)
    have he := h.ok i (by omega)
    have hxi : x < (m i).locs.length := by rw [h.locs i (by omega)]; exact hx
    by_cases hw : (Z49 ss i).act.kind = 2 ∧ (Z49 ss i).act.loc.toNat = x
    · obtain ⟨hk, hl⟩ := hw
      have hpl : isPl (Z49 ss i).act.kind = true := by rw [hk]; rfl
      have hwr := (taken he).when hpl
      obtain ⟨hb, hfr⟩ := (taken he).write hk
      have hle := hT.le i (Nat.le_refl _) (by omega) hpl hl
      have hfr2 : 0 < Z4t (Z49 ss i).when (frAt (m i) (Z49 ss i).thread.toNat x) := by rw [← hl]; exact hfr
      have hfr3 : Z4t (frAt (m i) (Z49 ss i).thread.toNat x) (Z49 ss i).when < 0 := by rw [cmpQ_anti]; omega
      have hew := cmpQ_le_lt hT.right (fr_right hg (take_u he) hxi) hwr hle hfr3
      have hr := pa_rising hg hxi
      have hall := top_lt hT.past hr hwr hew
      refine ⟨P ++ [e], ⟨leastQ (Z49 ss i).when, (Z49 ss i).act.new⟩, ?_, leastQ_right hwr, ?_, fun j hij hj hp hlj => carried h hn hx (by omega) hk hl (hord i j (by omega) hj hk hl hp hlj) hp⟩
      · rw [h.next i (by omega), pa_write hg he hk hl, bs_end hr hwr hall, insG_end, hT.past]
      · show _ = if isW (Z49 ss i) x = true then _ else _
        rw [if_pos (by unfold isW; rw [decide_eq_true hk, decide_eq_true hl]; rfl)]
    · refine ⟨P, e, ?_, hT.right, ?_, fun j hij hj hp hl => hT.le j (by omega) hj hp hl⟩
      · rw [h.next i (by omega), pa_same hw, hT.past]
      · rw [hT.val]
        show _ = if isW (Z49 ss i) x = true then _ else _
        rw [if_neg (by unfold isW; simp only [Bool.and_eq_true, decide_eq_true_eq]; exact hw)]
theorem top_read {m : Nat → Mem} {s : Nat → StepG} {n x : Nat} {v : Int} {i : Nat} {P : List StampG} {e : StampG} (h : RunG m s n) (hx : x < (m 0).locs.length) (hi : i < n) (hT : Top m s n x v i P e) (hk : (s i).act.kind = 1) (hl : (s i).act.loc.toNat = x) :
    (s i).act.old = lastVal v s x i ∧ Z4t (s i).when e.when = 0 := by
  have hg := h.good i (by omega)
  have he := h.ok i hi
  have hxi : x < (m i).locs.length := by rw [h.locs i (by omega)]; exact hx
  have hpl : isPl (s i).act.kind = true := by rw [hk]; rfl
  have hwr := (taken he).when hpl
  obtain ⟨hb, hf, hv⟩ := (taken he).read hk
  have hpo : pastOf (m i) (s i) = P ++ [e] := by unfold pastOf; rw [hl]; exact hT.past
  have hf2 : 0 ≤ Z4t (s i).when (frAt (m i) (s i).thread.toNat x) := by rw [← hl]; exact hf
  have hf3 : Z4t (frAt (m i) (s i).thread.toNat x) (s i).when ≤ 0 := by rw [cmpQ_anti]; omega
  have hle := cmpQ_trans hT.right (fr_right hg (take_u he) hxi) hwr (hT.le i (Nat.le_refl _) hi hpl hl) hf3
  have hr := pa_rising hg hxi
  rw [hT.past] at hr
  rw [hpo] at hb hv
  obtain ⟨h1, h2⟩ := bsHas_true hb
  have hlen : (P ++ [e]).length = P.length + 1 := by simp
  have hat : bsAt (P ++ [e]) (s i).when = P.length := by
    rcases Nat.lt_or_eq_of_le (Nat.le_of_lt_succ (hlen ▸ h1)) with h3 | h3
    · have h4 := hr.lt h3 (by omega)
      rw [getD_last] at h4
      have h5 := cmpQ_lt_le (hr.get h1) hT.right hwr h4 hle
      omega
    · exact h3
  rw [hat, getD_last] at hv h2
  exact ⟨by rw [← hv]; exact hT.val, by rw [cmpQ_anti]; omega⟩
theorem top_write {m : Nat → Mem} {s : Nat → StepG} {n x : Nat} {v : Int} {i : Nat} {P : List StampG} {e : StampG} (h : RunG m s n) (hx : x < (m 0).locs.length) (hi : i < n) (hT : Top m s n x v i P e) (hk : (s i).act.kind = 2) (hl : (s i).act.loc.toNat = x) :
    0 < Z4t (s i).when e.when := by
  have hg := h.good i (by omega)
  have he := h.ok i hi
  have hxi : x < (m i).locs.length := by rw [h.locs i (by omega)]; exact hx
  have hpl : isPl (s i).act.kind = true := by rw [hk]; rfl
  have hwr := (taken he).when hpl
  obtain ⟨hb, hfr⟩ := (taken he).write hk
  have hfr2 : 0 < Z4t (s i).when (frAt (m i) (s i).thread.toNat x) := by rw [← hl]; exact hfr
  have hfr3 : Z4t (frAt (m i) (s i).thread.toNat x) (s i).when < 0 := by rw [cmpQ_anti]; omega
  have := cmpQ_le_lt hT.right (fr_right hg (take_u he) hxi) hwr (hT.le i (Nat.le_refl _) hi hpl hl) hfr3
  rw [cmpQ_anti]; omega
theorem lastG_plain (m : MemG) (loc : Int) : lastG m loc = if 0 ≤ loc ∧ loc < m.plain.past.length then (paAt m.plain loc.toNat).getLast? else none := by
  unfold lastG paAt
  have hl : m.plain.past.length = m.past.length := Z4d _
  rw [hl]
  split
  · rename_i h
    have : (inn m.past).getD loc.toNat [] = (m.past.getD loc.toNat default).1 := by
      unfold inn
      rw [List.getD_eq_getElem?_getD, List.getElem?_map, List.getElem?_eq_getElem (by omega), getD_lt (by omega)]; rfl
    show _ = ((inn m.past).getD _ []).getLast?
    rw [this]; rfl
  · rfl
/-- At the beginning. -/
theorem new_past {l : List LocG} {t : Int} (h : newErr l t = 0) {x : Nat} (hx : x < l.length) (ha : (l.getD x default).atom = false) : paAt (newM l t).plain x = [⟨⟨0, 1⟩, (l.getD x default).init⟩] := by
  unfold newM
  rw [if_pos h]
  show (inn (l.map pastX)).getD x [] = _
  rw [inn_map, List.getD_eq_getElem?_getD, List.getElem?_map, List.getElem?_eq_getElem hx]
  rw [getD_lt hx] at ha ⊢
  show (pastX l[x]).1 = _
  unfold pastX; rw [ha]; rfl
theorem new_front {l : List LocG} {t : Int} (h : newErr l t = 0) {u x : Nat} (hu : u < (newM l t).plain.fronts.length) (hx : x < l.length) : frAt (newM l t).plain u x = ⟨0, 1⟩ := by
  unfold newM at hu ⊢
  rw [if_pos h] at hu ⊢
  have hu : u < (inn (frontX l.length t.toNat)).length := hu
  show ((inn (frontX l.length t.toNat)).getD u []).getD x default = _
  rw [getD_lt hu]
  unfold frontX inn startG
  simp [hx]
theorem new_locs {l : List LocG} {t : Int} (h : newErr l t = 0) : (newM l t).plain.locs = l := by unfold newM; rw [if_pos h]; rfl
end Go.Ago

/- RaceOne and RaceReads. Conditions: none. -/
set_option maxRecDepth 100000
set_option linter.unusedSimpArgs false
set_option linter.unusedVariables false
namespace Go.Ago
theorem wk_plain {m : MemG} {s : StepG} (h : isPl s.act.kind = false) : wkB m s = false := by
  unfold wkB wkO
  split
  · rfl
  · rw [h]; rfl
theorem wk_top {m : Nat → Mem} {s : Nat → StepG} {n x : Nat} {v : Int} {i : Nat} {P : List StampG} {e : StampG} (h : RunG m s n) (hx : x < (m 0).locs.length) (hi : i < n) (hT : Top m s n x v i P e) (hl : (s i).act.loc.toNat = x) {M : MemG} (hM : M.plain = m i) : wkB M (s i) = false := by
  cases hp : isPl (s i).act.kind with
  | false => exact wk_plain hp
  | true =>
    have he := h.ok i hi
    have hl0 := (taken he).loc (.inl hp)
    have hpl : M.plain.past.length = (m i).locs.length := by rw [hM]; exact (h.good i (by omega)).wf.past
    have hlast : lastG M (s i).act.loc = some e := by
      rw [lastG_plain, if_pos ⟨hl0.1, by rw [hpl]; exact hl0.2⟩, hM, hl, hT.past, List.getLast?_append]; rfl
    unfold wkB
    rw [hlast]
    unfold wkO
    rw [isPl_iff] at hp
    rcases hp with hk | hk
    · have := (top_read h hx hi hT hk hl).2
      simp [this]
    · have := top_write h hx hi hT hk hl
      have h1 : ¬ Z4t (s i).when e.when < 0 := by omega
      simp [h1, hk]
/-- The location of a plain step. -/
theorem plain_loc {m : Mem} {s : StepG} (he : doErr m s = 0) (hp : isPl s.act.kind = true) : s.act.loc.toNat < m.locs.length ∧ (m.locs.getD s.act.loc.toNat default).atom = false := by
  have ht := taken he
  have := ht.loc (.inl hp)
  exact ⟨by omega, right_plain hp ht.right⟩
theorem top_of {l : List LocG} {t : Int} {ss : List StepG} (he : playErr l t ss = 0) {x : Nat} (hx : x < l.length) (ha : (l.getD x default).atom = false)
    (hord : ∀ k i, k < i → i < ss.length → (Z49 ss k).act.kind = 2 → (Z49 ss k).act.loc.toNat = x → isPl (Z49 ss i).act.kind = true → (Z49 ss i).act.loc.toNat = x → hasI (ordG ss) k i = true) :
    ∀ i, i ≤ ss.length → ∃ P e, Top (memAt l t ss) (Z49 ss) ss.length x (l.getD x default).init i P e := by
  obtain ⟨h1, -⟩ := playErr_new he
  exact top_all (run_of he) (playErr_len he) (by show x < (newM l t).plain.locs.length; rw [new_locs h1]; exact hx) (new_past h1 hx ha) (fun u hu => new_front h1 hu hx) hord
theorem run_locs {l : List LocG} {t : Int} {ss : List StepG} (he : playErr l t ss = 0) {i : Nat} (hi : i ≤ ss.length) : (memAt l t ss i).locs = l := by
  rw [(run_of he).locs i hi]; exact new_locs (playErr_new he).1
theorem idx_B {l : List Bool} {full : Bool} {kd : IntKind} {n : Int} {k : Delta → Prop} : stepK (evIdxAddr 1 (.d (.list (l.map rowB) full)) (.d (.int kd n))) k ↔ (0 ≤ n ∧ n < l.length) ∧ k ⟨.dptr (rowB (l.getD n.toNat default)) 0, [], []⟩ := stepK_idx_map (fun _ => rfl)
/-! ### RaceOne -/
theorem one_races {l : List LocG} {t : Int} {ss : List StepG} (h : ∀ i, i < ss.length → (ss.getD i default).thread = (ss.getD 0 default).thread) : racesL l t ss = [] := by
  unfold racesL
  split
  · rw [List.eq_nil_iff_forall_not_mem]
    intro x hx
    obtain ⟨a, b, h1, h2, h3, h4, -⟩ := pAll_mem.1 hx
    unfold rcB at h4
    rw [h a h1, h b h2] at h4
    simp at h4
  · rfl
theorem one_weak {l : List LocG} {t : Int} {ss : List StepG} (he : playErr l t ss = 0) (h : ∀ i, i < ss.length → (ss.getD i default).thread = (ss.getD 0 default).thread) {i : Nat} (hi : i < ss.length) : (weakL l t ss).getD i default = false := by
  have hn := playErr_len he
  unfold weakL
  rw [if_pos he, getD_lt (by simpa using hi)]
  simp only [List.getElem_map, List.getElem_range]
  cases hp : isPl (ss.getD i default).act.kind with
  | false => exact wk_plain hp
  | true =>
    obtain ⟨hx, ha⟩ := plain_loc ((run_of he).ok i hi) hp
    rw [run_locs he (by omega)] at hx ha
    obtain ⟨P, e, hT⟩ := top_of he hx ha (fun k i hki hi _ _ _ _ => ord_of hn hki hi (dirQ_same (by rw [h k (by omega), h i hi]))) i (by omega)
    exact wk_top (run_of he) (by rw [run_locs he (Nat.zero_le _)]; exact hx) hi hT rfl rfl
theorem weakL_len {l : List LocG} {t : Int} {ss : List StepG} (he : playErr l t ss = 0) : (weakL l t ss).length = ss.length := by unfold weakL; rw [if_pos he]; simp
set_option maxHeartbeats 4000000 in
theorem law_RaceOne {T : Tab} {n1 n2 n3 n4 n5 : Nat} (k1 : Knows T n1 sp_true) (k2 : Knows T n2 sp_rOrder) (k3 : Knows T n3 sp_Has) (k4 : Knows T n4 sp_Races) (k5 : Knows T n5 sp_Weak) (l : List LocG) (f : Bool) (t : Int) (ss : List StepG) (g : Bool) (hl : l.length ≤ maxLen) (hs : ss.length ≤ maxLen) :
    Holds T V_law22_RaceOne (L_law22_RaceOne n1 n2 n3 n4 n5) R_law22_RaceOne [.d (.list (l.map LocG.row) f), .d (.int .i64 t), .d (.list (ss.map StepG.row) g)] := by
  have F1 := k1.F; have G1 := k1.G; have F2 := k2.F; have G2 := k2.G; have F3 := k3.F; have G3 := k3.G; have F4 := k4.F; have G4 := k4.G; have F5 := k5.F; have G5 := k5.G
  unfold V_law22_RaceOne L_law22_RaceOne R_law22_RaceOne
  simp (maxSteps := 3000000) only [↓Z28, ↓Z34, ↓Z25, ↓Z0x, ↓Z27, ↓Z1x, Z3t, Z3u, ↓Z35, ↓Z24, ↓Z1e, ↓Z26, ↓Z23, ↓Z31, ↓Z33, ↓Z32, ↓Z1l, ↓Z1o, ↓Z1m, ↓Z1n, ↓Z30, ↓Z3x, ↓Z3w, ↓Z2x, ↓Z2z, ↓Z2y, ↓Z3n, ↓Z3p, ↓Z3o, ↓Z0i, ↓Z08, ↓Z15, ↓Z14, ↓Z13, Z4h, Z0z, Z10, Z3j, Z11, Z3v, evN, Z2k, Z2p, Z3q, Z3r, Z2n, Z1i, Z2l, Z22, Z1q, Z1p, Z16, Z2m, evT, Opd.ev, Z0e, Z05, Z3l, Z3k, Z3m, Z1k, Z12, Z2v, Z2u, Z2t, Z2a, Z29, Z42, LOp.isNew, State.prune, Z3a, Z36, AV.leaf, Heap.at, Z0r, Z09, Z04, Z0c, Z02, Z4g, Z4l, Z2s, Z2r, Z2q, Z1r, Z17, Z03, Z0a, Z01, Z00, Z1v, rowI, rowU, RatG.row, LocG.row, ActG.row, StepG.row, StampG.row, ActG.av, ActG.eta, RatG.eta, LocG.eta, beq_true, beq_false, Z1w, Z21, Z2d, Z1j, Z2b, Z1y, Z2c, Z0w, Z0h, Z0u, Z0v, Z0g, Z0f, Z07, List.length_set, List.length_replicate, Int.toNat_natCast, Int.reduceToNat, Z4f, Z1h, Z40, Src.all, Src.len, Src.leaf, Src.leafN, Z2h, Z3f, Z45, Z0j, Z0k, Z0l, Z0m, Z0n, Z0o, Z0p, Z0q, Z43, drows, evMk, List.length_map, Z0y, Z1f, List.take_length, List.take_left, List.length_append, Nat.le_add_right, ite_self, List.take_of_length_le, Z38, Z48, Z3y, Option.isSome_none, Option.isSome_some, Nat.sub_zero, Z46, Z4b, Z4e, evUn, binT, binQ, chk, Z3b, List.contains_cons, List.contains_nil, Bool.or_false, Bool.false_or, Bool.and_self, resQ, resV, resT, Z4c, Z2i, Z3i, Z3h, fnOf, Z3c, isD, HO.drow, Z4a, Z3d, evEq, eqV, eqK, eqC1, Z3g, Z3e, Z2g, Z2f, Z3s, Z2w, Z41, Z39, Z1u, Z1a, Z1t, Z19, Z1s, Z18, Z1b, Z0s, Z0t, Z0b, List.mem_cons, List.not_mem_nil, or_false, forall_eq, putRow, Z37, Z2o, RetS, RetF, RetD, AV.frz, AV.frzL, AV.freshP, AV.freshL, DV.less, Z1z, Z1c, Z20, Z1d, Z1g, Z0d, Z06, Option.some.injEq, AV.tup.injEq, AV.agg.injEq, List.cons.injEq, DV.list.injEq, List.isEmpty_nil, Nat.le_refl, AV.d.injEq, DV.int.injEq, DV.bool.injEq, ↓reduceIte, Nat.reduceEqDiff, Nat.reduceAdd, Nat.reduceBEq, List.length_cons, List.length_nil, List.replicate_succ, List.replicate_zero, List.nil_append, List.cons_append, List.append_nil, List.foldl_cons, List.foldl_nil, List.map_cons, List.map_nil, List.all_cons, List.all_nil, List.set_cons_zero, List.set_cons_succ, List.getD_cons_zero, List.getD_cons_succ, List.drop_zero, List.drop_succ_cons, List.take_succ_cons, List.take_zero, List.flatten_cons, List.flatten_nil, Bool.true_and, Bool.and_true, Bool.not_true, Bool.not_false, true_and, and_true, true_or, or_true, Option.bind_some, Option.map_some, decide_true, decide_false, beq_self_eq_true, true_implies, false_implies, implies_true, not_true_eq_false, not_false_eq_true, and_self, Bool.and_false, Bool.false_and, Nat.reduceLT, Nat.reduceLeDiff, List.reverse_cons, List.reverse_nil, Nat.zero_add, Nat.add_zero, Bool.false_eq_true, List.getElem?_cons_zero, F1, G1, F2, G2, F3, G3, F4, G4, F5, G5, at_true, at_rOrder, at_Has, at_Races, at_Weak, Z04, Z01]
  have hm : maxLen = 9223372036854775807 := rfl
  refine fun _ => ?_
  refine Loop.fam [0, 1, 2, 7] (fun i : Nat => ⟨[(0, .d (.list (l.map LocG.row) f)), (1, .d (.int .i64 t)), (2, .d (.list (ss.map StepG.row) g)), (7, .d (.int .i64 i))], []⟩) (fun i => i ≤ ss.length ∧ ∀ j, j < i → (ss.getD j default).thread = (ss.getD 0 default).thread) (fun i => ss.length - i) 0 [] (by simp) (by simp) (by simp only [State.can, AV.can, AV.canL, HO.can, Z2j, idx, Z0e, Z05, Heap.at, Nat.reduceBEq, ↓reduceIte, Nat.reduceEqDiff, Option.getD_some, Option.map_some, List.map_cons, List.map_nil, List.getD_cons_zero, List.getD_cons_succ]; rfl) ⟨Nat.zero_le _, fun j hj => absurd hj (by omega)⟩ ?_
  rintro i ⟨hi, hall⟩
  have hi : i ≤ ss.length := hi
  simp (maxSteps := 3000000) only [↓Z28, ↓Z34, ↓Z25, ↓Z0x, ↓Z27, ↓Z1x, Z3t, Z3u, ↓Z35, ↓Z24, ↓Z1e, ↓Z26, ↓Z23, ↓Z31, ↓Z33, ↓Z32, ↓Z1l, ↓Z1o, ↓Z1m, ↓Z1n, ↓Z30, ↓Z3x, ↓Z3w, ↓Z2x, ↓Z2z, ↓Z2y, ↓Z3n, ↓Z3p, ↓Z3o, ↓Z0i, ↓Z08, ↓Z15, ↓Z14, ↓Z13, Z4h, Z0z, Z10, Z3j, Z11, Z3v, evN, Z2k, Z2p, Z3q, Z3r, Z2n, Z1i, Z2l, Z22, Z1q, Z1p, Z16, Z2m, evT, Opd.ev, Z0e, Z05, Z3l, Z3k, Z3m, Z1k, Z12, Z2v, Z2u, Z2t, Z2a, Z29, Z42, LOp.isNew, State.prune, Z3a, Z36, AV.leaf, Heap.at, Z0r, Z09, Z04, Z0c, Z02, Z4g, Z4l, Z2s, Z2r, Z2q, Z1r, Z17, Z03, Z0a, Z01, Z00, Z1v, rowI, rowU, RatG.row, LocG.row, ActG.row, StepG.row, StampG.row, ActG.av, ActG.eta, RatG.eta, LocG.eta, beq_true, beq_false, Z1w, Z21, Z2d, Z1j, Z2b, Z1y, Z2c, Z0w, Z0h, Z0u, Z0v, Z0g, Z0f, Z07, List.length_set, List.length_replicate, Int.toNat_natCast, Int.reduceToNat, Z4f, Z1h, Z40, Src.all, Src.len, Src.leaf, Src.leafN, Z2h, Z3f, Z45, Z0j, Z0k, Z0l, Z0m, Z0n, Z0o, Z0p, Z0q, Z43, drows, evMk, List.length_map, Z0y, Z1f, List.take_length, List.take_left, List.length_append, Nat.le_add_right, ite_self, List.take_of_length_le, Z38, Z48, Z3y, Option.isSome_none, Option.isSome_some, Nat.sub_zero, Z46, Z4b, Z4e, evUn, binT, binQ, chk, Z3b, List.contains_cons, List.contains_nil, Bool.or_false, Bool.false_or, Bool.and_self, resQ, resV, resT, Z4c, Z2i, Z3i, Z3h, fnOf, Z3c, isD, HO.drow, Z4a, Z3d, evEq, eqV, eqK, eqC1, Z3g, Z3e, Z2g, Z2f, Z3s, Z2w, Z41, Z39, Z1u, Z1a, Z1t, Z19, Z1s, Z18, Z1b, Z0s, Z0t, Z0b, List.mem_cons, List.not_mem_nil, or_false, forall_eq, putRow, Z37, Z2o, RetS, RetF, RetD, AV.frz, AV.frzL, AV.freshP, AV.freshL, DV.less, Z1z, Z1c, Z20, Z1d, Z1g, Z0d, Z06, Option.some.injEq, AV.tup.injEq, AV.agg.injEq, List.cons.injEq, DV.list.injEq, List.isEmpty_nil, Nat.le_refl, AV.d.injEq, DV.int.injEq, DV.bool.injEq, ↓reduceIte, Nat.reduceEqDiff, Nat.reduceAdd, Nat.reduceBEq, List.length_cons, List.length_nil, List.replicate_succ, List.replicate_zero, List.nil_append, List.cons_append, List.append_nil, List.foldl_cons, List.foldl_nil, List.map_cons, List.map_nil, List.all_cons, List.all_nil, List.set_cons_zero, List.set_cons_succ, List.getD_cons_zero, List.getD_cons_succ, List.drop_zero, List.drop_succ_cons, List.take_succ_cons, List.take_zero, List.flatten_cons, List.flatten_nil, Bool.true_and, Bool.and_true, Bool.not_true, Bool.not_false, true_and, and_true, true_or, or_true, Option.bind_some, Option.map_some, decide_true, decide_false, beq_self_eq_true, true_implies, false_implies, implies_true, not_true_eq_false, not_false_eq_true, and_self, Bool.and_false, Bool.false_and, Nat.reduceLT, Nat.reduceLeDiff, List.reverse_cons, List.reverse_nil, Nat.zero_add, Nat.add_zero, Bool.false_eq_true, List.getElem?_cons_zero, F1, G1, F2, G2, F3, G3, F4, G4, F5, G5, at_true, at_rOrder, at_Has, at_Races, at_Weak, Z04, Z01]
  refine ⟨fun c => ⟨⟨by omega, by omega⟩, ⟨by omega, by omega⟩, fun c1 => Z2e.mk [] (i + 1) (by simp) (by simp) (by simp only [State.can, AV.can, AV.canL, HO.can, Z2j, idx, Z0e, Z05, Heap.at, Nat.reduceBEq, ↓reduceIte, Nat.reduceEqDiff, Option.getD_some, Option.map_some, List.map_cons, List.map_nil, List.getD_cons_zero, List.getD_cons_succ, Z3z (show i < ss.length by omega) (by omega)]) ⟨by show i + 1 ≤ _; omega, fun j hj => ?_⟩ (by show _ - (i + 1) < _ - i; omega)⟩, fun c => ⟨⟨hl, hs⟩, ⟨hl, hs⟩, ⟨hl, hs⟩, fun he => ?_⟩⟩
  · by_cases e : j = i
    · subst e; exact c1
    · exact hall j (by omega)
  have hie : i = ss.length := by omega
  subst hie
  have hn := playErr_len he
  have hR := ord_len hn
  have hsm : ∀ {i k : Nat}, i < k → k < ss.length → hasI (ordG ss) i k = true := fun {i k} h1 h2 => ord_of hn h1 h2 (dirQ_same (by rw [hall i (by omega), hall k h2]))
  have hwk : ∀ i, i < ss.length → (weakL l t ss).getD i default = false := fun i hi => one_weak he hall hi
  have hwl := weakL_len he
  rw [ordL_ok he, one_races hall]
  generalize ordG ss = R at *
  generalize weakL l t ss = W at *
  have hRl : R.length ≤ maxLen := by omega
  refine Loop.fam [2, 8, 10, 12, 14] (fun i : Nat => ⟨[(2, .d (.list (ss.map StepG.row) g)), (8, .d (.list [] false)), (10, .d (.list (R.map rowW) false)), (12, .d (.list (W.map rowB) false)), (14, .d (.int .i64 i))], []⟩) (fun i => i ≤ ss.length) (fun i => ss.length - i) 0 [] (by simp) (by simp) (by simp only [State.can, AV.can, AV.canL, HO.can, Z2j, idx, Z0e, Z05, Heap.at, Nat.reduceBEq, ↓reduceIte, Nat.reduceEqDiff, Option.getD_some, Option.map_some, List.map_cons, List.map_nil, List.getD_cons_zero, List.getD_cons_succ]; rfl) (Nat.zero_le _) ?_
  intro i hi
  have hi : i ≤ ss.length := hi
  simp (maxSteps := 3000000) only [↓Z28, ↓Z34, ↓Z25, ↓Z0x, ↓Z27, ↓Z1x, Z3t, Z3u, ↓Z35, ↓Z24, ↓Z1e, ↓Z26, ↓Z23, ↓Z31, ↓Z33, ↓Z32, ↓Z1l, ↓Z1o, ↓Z1m, ↓Z1n, ↓Z30, ↓Z3x, ↓Z3w, ↓Z2x, ↓Z2z, ↓Z2y, ↓Z3n, ↓Z3p, ↓Z3o, ↓Z0i, ↓Z08, ↓Z15, ↓Z14, ↓Z13, Z4h, Z0z, Z10, Z3j, Z11, Z3v, evN, Z2k, Z2p, Z3q, Z3r, Z2n, Z1i, Z2l, Z22, Z1q, Z1p, Z16, Z2m, evT, Opd.ev, Z0e, Z05, Z3l, Z3k, Z3m, Z1k, Z12, Z2v, Z2u, Z2t, Z2a, Z29, Z42, LOp.isNew, State.prune, Z3a, Z36, AV.leaf, Heap.at, Z0r, Z09, Z04, Z0c, Z02, Z4g, Z4l, Z2s, Z2r, Z2q, Z1r, Z17, Z03, Z0a, Z01, Z00, Z1v, rowI, rowU, RatG.row, LocG.row, ActG.row, StepG.row, StampG.row, ActG.av, ActG.eta, RatG.eta, LocG.eta, beq_true, beq_false, Z1w, Z21, Z2d, Z1j, Z2b, Z1y, Z2c, Z0w, Z0h, Z0u, Z0v, Z0g, Z0f, Z07, List.length_set, List.length_replicate, Int.toNat_natCast, Int.reduceToNat, Z4f, Z1h, Z40, Src.all, Src.len, Src.leaf, Src.leafN, Z2h, Z3f, Z45, Z0j, Z0k, Z0l, Z0m, Z0n, Z0o, Z0p, Z0q, Z43, drows, evMk, List.length_map, Z0y, Z1f, List.take_length, List.take_left, List.length_append, Nat.le_add_right, ite_self, List.take_of_length_le, Z38, Z48, Z3y, Option.isSome_none, Option.isSome_some, Nat.sub_zero, Z46, Z4b, Z4e, evUn, binT, binQ, chk, Z3b, List.contains_cons, List.contains_nil, Bool.or_false, Bool.false_or, Bool.and_self, resQ, resV, resT, Z4c, Z2i, Z3i, Z3h, fnOf, Z3c, isD, HO.drow, Z4a, Z3d, evEq, eqV, eqK, eqC1, Z3g, Z3e, Z2g, Z2f, Z3s, Z2w, Z41, Z39, Z1u, Z1a, Z1t, Z19, Z1s, Z18, Z1b, Z0s, Z0t, Z0b, List.mem_cons, List.not_mem_nil, or_false, forall_eq, putRow, Z37, Z2o, RetS, RetF, RetD, AV.frz, AV.frzL, AV.freshP, AV.freshL, DV.less, Z1z, Z1c, Z20, Z1d, Z1g, Z0d, Z06, Option.some.injEq, AV.tup.injEq, AV.agg.injEq, List.cons.injEq, DV.list.injEq, List.isEmpty_nil, Nat.le_refl, AV.d.injEq, DV.int.injEq, DV.bool.injEq, ↓reduceIte, Nat.reduceEqDiff, Nat.reduceAdd, Nat.reduceBEq, List.length_cons, List.length_nil, List.replicate_succ, List.replicate_zero, List.nil_append, List.cons_append, List.append_nil, List.foldl_cons, List.foldl_nil, List.map_cons, List.map_nil, List.all_cons, List.all_nil, List.set_cons_zero, List.set_cons_succ, List.getD_cons_zero, List.getD_cons_succ, List.drop_zero, List.drop_succ_cons, List.take_succ_cons, List.take_zero, List.flatten_cons, List.flatten_nil, Bool.true_and, Bool.and_true, Bool.not_true, Bool.not_false, true_and, and_true, true_or, or_true, Option.bind_some, Option.map_some, decide_true, decide_false, beq_self_eq_true, true_implies, false_implies, implies_true, not_true_eq_false, not_false_eq_true, and_self, Bool.and_false, Bool.false_and, Nat.reduceLT, Nat.reduceLeDiff, List.reverse_cons, List.reverse_nil, Nat.zero_add, Nat.add_zero, Bool.false_eq_true, List.getElem?_cons_zero, F1, G1, F2, G2, F3, G3, F4, G4, F5, G5, at_Has, idx_B, rowB, Z04, Z01]
  refine ⟨fun c => ⟨⟨by omega, by omega⟩, fun c1 => absurd (hwk i (by omega)) (by rw [c1]; decide), fun _ => ?_⟩, fun _ => rfl⟩
  have hi' : i < ss.length := by omega
  refine Loop.fam [2, 8, 10, 12, 14, 15] (fun k : Nat => ⟨[(2, .d (.list (ss.map StepG.row) g)), (8, .d (.list [] false)), (10, .d (.list (R.map rowW) false)), (12, .d (.list (W.map rowB) false)), (14, .d (.int .i64 i)), (15, .d (.int .i64 k))], []⟩) (fun k => i < k ∧ k ≤ ss.length) (fun k => ss.length - k) (i + 1) [] (by simp) (by simp) (by simp only [State.can, AV.can, AV.canL, HO.can, Z2j, idx, Z0e, Z05, Heap.at, Nat.reduceBEq, ↓reduceIte, Nat.reduceEqDiff, Option.getD_some, Option.map_some, List.map_cons, List.map_nil, List.getD_cons_zero, List.getD_cons_succ, Z3z hi' (by omega)]) ⟨Nat.lt_succ_self _, hi'⟩ ?_
  rintro k ⟨hik, hk⟩
  have hik : i < k := hik
  have hk : k ≤ ss.length := hk
  simp (maxSteps := 3000000) only [↓Z28, ↓Z34, ↓Z25, ↓Z0x, ↓Z27, ↓Z1x, Z3t, Z3u, ↓Z35, ↓Z24, ↓Z1e, ↓Z26, ↓Z23, ↓Z31, ↓Z33, ↓Z32, ↓Z1l, ↓Z1o, ↓Z1m, ↓Z1n, ↓Z30, ↓Z3x, ↓Z3w, ↓Z2x, ↓Z2z, ↓Z2y, ↓Z3n, ↓Z3p, ↓Z3o, ↓Z0i, ↓Z08, ↓Z15, ↓Z14, ↓Z13, Z4h, Z0z, Z10, Z3j, Z11, Z3v, evN, Z2k, Z2p, Z3q, Z3r, Z2n, Z1i, Z2l, Z22, Z1q, Z1p, Z16, Z2m, evT, Opd.ev, Z0e, Z05, Z3l, Z3k, Z3m, Z1k, Z12, Z2v, Z2u, Z2t, Z2a, Z29, Z42, LOp.isNew, State.prune, Z3a, Z36, AV.leaf, Heap.at, Z0r, Z09, Z04, Z0c, Z02, Z4g, Z4l, Z2s, Z2r, Z2q, Z1r, Z17, Z03, Z0a, Z01, Z00, Z1v, rowI, rowU, RatG.row, LocG.row, ActG.row, StepG.row, StampG.row, ActG.av, ActG.eta, RatG.eta, LocG.eta, beq_true, beq_false, Z1w, Z21, Z2d, Z1j, Z2b, Z1y, Z2c, Z0w, Z0h, Z0u, Z0v, Z0g, Z0f, Z07, List.length_set, List.length_replicate, Int.toNat_natCast, Int.reduceToNat, Z4f, Z1h, Z40, Src.all, Src.len, Src.leaf, Src.leafN, Z2h, Z3f, Z45, Z0j, Z0k, Z0l, Z0m, Z0n, Z0o, Z0p, Z0q, Z43, drows, evMk, List.length_map, Z0y, Z1f, List.take_length, List.take_left, List.length_append, Nat.le_add_right, ite_self, List.take_of_length_le, Z38, Z48, Z3y, Option.isSome_none, Option.isSome_some, Nat.sub_zero, Z46, Z4b, Z4e, evUn, binT, binQ, chk, Z3b, List.contains_cons, List.contains_nil, Bool.or_false, Bool.false_or, Bool.and_self, resQ, resV, resT, Z4c, Z2i, Z3i, Z3h, fnOf, Z3c, isD, HO.drow, Z4a, Z3d, evEq, eqV, eqK, eqC1, Z3g, Z3e, Z2g, Z2f, Z3s, Z2w, Z41, Z39, Z1u, Z1a, Z1t, Z19, Z1s, Z18, Z1b, Z0s, Z0t, Z0b, List.mem_cons, List.not_mem_nil, or_false, forall_eq, putRow, Z37, Z2o, RetS, RetF, RetD, AV.frz, AV.frzL, AV.freshP, AV.freshL, DV.less, Z1z, Z1c, Z20, Z1d, Z1g, Z0d, Z06, Option.some.injEq, AV.tup.injEq, AV.agg.injEq, List.cons.injEq, DV.list.injEq, List.isEmpty_nil, Nat.le_refl, AV.d.injEq, DV.int.injEq, DV.bool.injEq, ↓reduceIte, Nat.reduceEqDiff, Nat.reduceAdd, Nat.reduceBEq, List.length_cons, List.length_nil, List.replicate_succ, List.replicate_zero, List.nil_append, List.cons_append, List.append_nil, List.foldl_cons, List.foldl_nil, List.map_cons, List.map_nil, List.all_cons, List.all_nil, List.set_cons_zero, List.set_cons_succ, List.getD_cons_zero, List.getD_cons_succ, List.drop_zero, List.drop_succ_cons, List.take_succ_cons, List.take_zero, List.flatten_cons, List.flatten_nil, Bool.true_and, Bool.and_true, Bool.not_true, Bool.not_false, true_and, and_true, true_or, or_true, Option.bind_some, Option.map_some, decide_true, decide_false, beq_self_eq_true, true_implies, false_implies, implies_true, not_true_eq_false, not_false_eq_true, and_self, Bool.and_false, Bool.false_and, Nat.reduceLT, Nat.reduceLeDiff, List.reverse_cons, List.reverse_nil, Nat.zero_add, Nat.add_zero, Bool.false_eq_true, List.getElem?_cons_zero, F1, G1, F2, G2, F3, G3, F4, G4, F5, G5, at_Has, idx_B, rowB, Z04, Z01]
  refine ⟨fun c => ⟨hRl, fun c1 => ?_, fun c1 => absurd (hsm hik (by omega)) (by rw [c1]; decide)⟩, fun c => ?_⟩
  · exact Z2e.mk [] (k + 1) (by simp) (by simp) (by simp only [State.can, AV.can, AV.canL, HO.can, Z2j, idx, Z0e, Z05, Heap.at, Nat.reduceBEq, ↓reduceIte, Nat.reduceEqDiff, Option.getD_some, Option.map_some, List.map_cons, List.map_nil, List.getD_cons_zero, List.getD_cons_succ, Z3z (show k < ss.length by omega) (by omega)]) ⟨by show i < k + 1; omega, by show k + 1 ≤ _; omega⟩ (by show _ - (k + 1) < _ - k; omega)
  · exact Z2e.mk [] (i + 1) (by simp) (by simp) (by simp only [State.can, AV.can, AV.canL, HO.can, Z2j, idx, Z0e, Z05, Heap.at, Nat.reduceBEq, ↓reduceIte, Nat.reduceEqDiff, Option.getD_some, Option.map_some, List.map_cons, List.map_nil, List.getD_cons_zero, List.getD_cons_succ, Z3z hi' (by omega)]) (by show i + 1 ≤ _; omega) (by show _ - (i + 1) < _ - i; omega)
/-! ### raced -/
def racedB (ss : List StepG) (p : List RatG) (loc : Int) : Bool := p.any fun x => decide ((ss.getD x.num.toNat default).act.loc = loc)
def sp_raced : Sp := ⟨List StepG × Bool × List RatG × Bool × Int, fun x => [.d (.list (x.1.map StepG.row) x.2.1), .d (.list (x.2.2.1.map RatG.row) x.2.2.2.1), .d (.int .i64 x.2.2.2.2)],
  fun x => .data (x.2.2.1.length ≤ maxLen ∧ ∀ r ∈ x.2.2.1, 0 ≤ r.num ∧ r.num < x.1.length) (.d (.bool (racedB x.1 x.2.2.1 x.2.2.2.2))) true⟩
theorem at_raced (ss : List StepG) (g : Bool) (p : List RatG) (f : Bool) (loc : Int) : sp_raced.at [.d (.list (ss.map StepG.row) g), .d (.list (p.map RatG.row) f), .d (.int .i64 loc)] =
    .data (p.length ≤ maxLen ∧ ∀ r ∈ p, 0 ≤ r.num ∧ r.num < ss.length) (.d (.bool (racedB ss p loc))) true :=
  Sp.at_enc (s := sp_raced) (fun x y h => by
    obtain ⟨a, b, c, d, e⟩ := x; obtain ⟨a', b', c', d', e'⟩ := y
    simp only [sp_raced, List.cons.injEq, AV.d.injEq, DV.list.injEq, DV.int.injEq, and_true, true_and] at h
    obtain ⟨⟨h1, h2⟩, ⟨h3, h4⟩, h5⟩ := h
    rw [Z4p StepG.row_inj h1, h2, Z4p RatG.row_inj h3, h4, h5]) (ss, g, p, f, loc)
theorem body_law22_raced {T : Tab} : sp_raced.Body T V_law22_raced L_law22_raced R_law22_raced := by
  rintro ⟨ss, g, p, f, loc⟩ ⟨hp, hr⟩
  have hp : p.length ≤ maxLen := hp
  have hr : ∀ r ∈ p, 0 ≤ r.num ∧ r.num < ss.length := hr
  refine .inl ⟨rfl, ?_⟩
  unfold V_law22_raced L_law22_raced R_law22_raced
  simp (maxSteps := 3000000) only [↓Z28, ↓Z34, ↓Z25, ↓Z0x, ↓Z27, ↓Z1x, Z3t, Z3u, ↓Z35, ↓Z24, ↓Z1e, ↓Z26, ↓Z23, ↓Z31, ↓Z33, ↓Z32, ↓Z1l, ↓Z1o, ↓Z1m, ↓Z1n, ↓Z30, ↓Z3x, ↓Z3w, ↓Z2x, ↓Z2z, ↓Z2y, ↓Z3n, ↓Z3p, ↓Z3o, ↓Z0i, ↓Z08, ↓Z15, ↓Z14, ↓Z13, Z4h, Z0z, Z10, Z3j, Z11, Z3v, evN, Z2k, Z2p, Z3q, Z3r, Z2n, Z1i, Z2l, Z22, Z1q, Z1p, Z16, Z2m, evT, Opd.ev, Z0e, Z05, Z3l, Z3k, Z3m, Z1k, Z12, Z2v, Z2u, Z2t, Z2a, Z29, Z42, LOp.isNew, State.prune, Z3a, Z36, AV.leaf, Heap.at, Z0r, Z09, Z04, Z0c, Z02, Z4g, Z4l, Z2s, Z2r, Z2q, Z1r, Z17, Z03, Z0a, Z01, Z00, Z1v, rowI, rowU, RatG.row, LocG.row, ActG.row, StepG.row, StampG.row, ActG.av, ActG.eta, RatG.eta, LocG.eta, beq_true, beq_false, Z1w, Z21, Z2d, Z1j, Z2b, Z1y, Z2c, Z0w, Z0h, Z0u, Z0v, Z0g, Z0f, Z07, List.length_set, List.length_replicate, Int.toNat_natCast, Int.reduceToNat, Z4f, Z1h, Z40, Src.all, Src.len, Src.leaf, Src.leafN, Z2h, Z3f, Z45, Z0j, Z0k, Z0l, Z0m, Z0n, Z0o, Z0p, Z0q, Z43, drows, evMk, List.length_map, Z0y, Z1f, List.take_length, List.take_left, List.length_append, Nat.le_add_right, ite_self, List.take_of_length_le, Z38, Z48, Z3y, Option.isSome_none, Option.isSome_some, Nat.sub_zero, Z46, Z4b, Z4e, evUn, binT, binQ, chk, Z3b, List.contains_cons, List.contains_nil, Bool.or_false, Bool.false_or, Bool.and_self, resQ, resV, resT, Z4c, Z2i, Z3i, Z3h, fnOf, Z3c, isD, HO.drow, Z4a, Z3d, evEq, eqV, eqK, eqC1, Z3g, Z3e, Z2g, Z2f, Z3s, Z2w, Z41, Z39, Z1u, Z1a, Z1t, Z19, Z1s, Z18, Z1b, Z0s, Z0t, Z0b, List.mem_cons, List.not_mem_nil, or_false, forall_eq, putRow, Z37, Z2o, RetS, RetF, RetD, AV.frz, AV.frzL, AV.freshP, AV.freshL, DV.less, Z1z, Z1c, Z20, Z1d, Z1g, Z0d, Z06, Option.some.injEq, AV.tup.injEq, AV.agg.injEq, List.cons.injEq, DV.list.injEq, List.isEmpty_nil, Nat.le_refl, AV.d.injEq, DV.int.injEq, DV.bool.injEq, ↓reduceIte, Nat.reduceEqDiff, Nat.reduceAdd, Nat.reduceBEq, List.length_cons, List.length_nil, List.replicate_succ, List.replicate_zero, List.nil_append, List.cons_append, List.append_nil, List.foldl_cons, List.foldl_nil, List.map_cons, List.map_nil, List.all_cons, List.all_nil, List.set_cons_zero, List.set_cons_succ, List.getD_cons_zero, List.getD_cons_succ, List.drop_zero, List.drop_succ_cons, List.take_succ_cons, List.take_zero, List.flatten_cons, List.flatten_nil, Bool.true_and, Bool.and_true, Bool.not_true, Bool.not_false, true_and, and_true, true_or, or_true, Option.bind_some, Option.map_some, decide_true, decide_false, beq_self_eq_true, true_implies, false_implies, implies_true, not_true_eq_false, not_false_eq_true, and_self, Bool.and_false, Bool.false_and, Nat.reduceLT, Nat.reduceLeDiff, List.reverse_cons, List.reverse_nil, Nat.zero_add, Nat.add_zero, Bool.false_eq_true, List.getElem?_cons_zero, sp_raced, Z04, Z01]
  refine Loop.fam [0, 1, 2, 7] (fun i : Nat => ⟨[(0, .d (.list (ss.map StepG.row) g)), (1, .d (.list (p.map RatG.row) f)), (2, .d (.int .i64 loc)), (7, .d (.int .i64 i))], []⟩) (fun i => i ≤ p.length ∧ (p.take i).any (fun x => decide ((ss.getD x.num.toNat default).act.loc = loc)) = false) (fun i => p.length - i) 0 [] (by simp) (by simp) (by simp only [State.can, AV.can, AV.canL, HO.can, Z2j, idx, Z0e, Z05, Heap.at, Nat.reduceBEq, ↓reduceIte, Nat.reduceEqDiff, Option.getD_some, Option.map_some, List.map_cons, List.map_nil, List.getD_cons_zero, List.getD_cons_succ]; rfl) ⟨Nat.zero_le _, rfl⟩ ?_
  rintro i ⟨hi, ha⟩
  have hi : i ≤ p.length := hi
  simp (maxSteps := 3000000) only [↓Z28, ↓Z34, ↓Z25, ↓Z0x, ↓Z27, ↓Z1x, Z3t, Z3u, ↓Z35, ↓Z24, ↓Z1e, ↓Z26, ↓Z23, ↓Z31, ↓Z33, ↓Z32, ↓Z1l, ↓Z1o, ↓Z1m, ↓Z1n, ↓Z30, ↓Z3x, ↓Z3w, ↓Z2x, ↓Z2z, ↓Z2y, ↓Z3n, ↓Z3p, ↓Z3o, ↓Z0i, ↓Z08, ↓Z15, ↓Z14, ↓Z13, Z4h, Z0z, Z10, Z3j, Z11, Z3v, evN, Z2k, Z2p, Z3q, Z3r, Z2n, Z1i, Z2l, Z22, Z1q, Z1p, Z16, Z2m, evT, Opd.ev, Z0e, Z05, Z3l, Z3k, Z3m, Z1k, Z12, Z2v, Z2u, Z2t, Z2a, Z29, Z42, LOp.isNew, State.prune, Z3a, Z36, AV.leaf, Heap.at, Z0r, Z09, Z04, Z0c, Z02, Z4g, Z4l, Z2s, Z2r, Z2q, Z1r, Z17, Z03, Z0a, Z01, Z00, Z1v, rowI, rowU, RatG.row, LocG.row, ActG.row, StepG.row, StampG.row, ActG.av, ActG.eta, RatG.eta, LocG.eta, beq_true, beq_false, Z1w, Z21, Z2d, Z1j, Z2b, Z1y, Z2c, Z0w, Z0h, Z0u, Z0v, Z0g, Z0f, Z07, List.length_set, List.length_replicate, Int.toNat_natCast, Int.reduceToNat, Z4f, Z1h, Z40, Src.all, Src.len, Src.leaf, Src.leafN, Z2h, Z3f, Z45, Z0j, Z0k, Z0l, Z0m, Z0n, Z0o, Z0p, Z0q, Z43, drows, evMk, List.length_map, Z0y, Z1f, List.take_length, List.take_left, List.length_append, Nat.le_add_right, ite_self, List.take_of_length_le, Z38, Z48, Z3y, Option.isSome_none, Option.isSome_some, Nat.sub_zero, Z46, Z4b, Z4e, evUn, binT, binQ, chk, Z3b, List.contains_cons, List.contains_nil, Bool.or_false, Bool.false_or, Bool.and_self, resQ, resV, resT, Z4c, Z2i, Z3i, Z3h, fnOf, Z3c, isD, HO.drow, Z4a, Z3d, evEq, eqV, eqK, eqC1, Z3g, Z3e, Z2g, Z2f, Z3s, Z2w, Z41, Z39, Z1u, Z1a, Z1t, Z19, Z1s, Z18, Z1b, Z0s, Z0t, Z0b, List.mem_cons, List.not_mem_nil, or_false, forall_eq, putRow, Z37, Z2o, RetS, RetF, RetD, AV.frz, AV.frzL, AV.freshP, AV.freshL, DV.less, Z1z, Z1c, Z20, Z1d, Z1g, Z0d, Z06, Option.some.injEq, AV.tup.injEq, AV.agg.injEq, List.cons.injEq, DV.list.injEq, List.isEmpty_nil, Nat.le_refl, AV.d.injEq, DV.int.injEq, DV.bool.injEq, ↓reduceIte, Nat.reduceEqDiff, Nat.reduceAdd, Nat.reduceBEq, List.length_cons, List.length_nil, List.replicate_succ, List.replicate_zero, List.nil_append, List.cons_append, List.append_nil, List.foldl_cons, List.foldl_nil, List.map_cons, List.map_nil, List.all_cons, List.all_nil, List.set_cons_zero, List.set_cons_succ, List.getD_cons_zero, List.getD_cons_succ, List.drop_zero, List.drop_succ_cons, List.take_succ_cons, List.take_zero, List.flatten_cons, List.flatten_nil, Bool.true_and, Bool.and_true, Bool.not_true, Bool.not_false, true_and, and_true, true_or, or_true, Option.bind_some, Option.map_some, decide_true, decide_false, beq_self_eq_true, true_implies, false_implies, implies_true, not_true_eq_false, not_false_eq_true, and_self, Bool.and_false, Bool.false_and, Nat.reduceLT, Nat.reduceLeDiff, List.reverse_cons, List.reverse_nil, Nat.zero_add, Nat.add_zero, Bool.false_eq_true, List.getElem?_cons_zero, evIdxArr_d, Nat.zero_mul, Z04, Z01]
  have hm : maxLen = 9223372036854775807 := rfl
  refine ⟨fun c => ?_, fun c => ?_⟩
  · have hlt : i < p.length := by omega
    have hri := hr (p.getD i default) (getD_mem hlt)
    have e1 := any_take_succ (q := fun x : RatG => decide ((ss.getD x.num.toNat default).act.loc = loc)) (d := default) hlt
    refine ⟨⟨by omega, by omega⟩, ⟨by omega, by decide⟩, hri, fun d => ?_, fun d => ?_⟩
    · symm; unfold racedB
      rw [List.any_eq_true]
      exact ⟨_, getD_mem hlt, decide_eq_true d⟩
    · exact Z2e.mk [] (i + 1) (by simp) (by simp) (by simp only [State.can, AV.can, AV.canL, HO.can, Z2j, idx, Z0e, Z05, Heap.at, Nat.reduceBEq, ↓reduceIte, Nat.reduceEqDiff, Option.getD_some, Option.map_some, List.map_cons, List.map_nil, List.getD_cons_zero, List.getD_cons_succ, Z3z hlt hp]) ⟨by show i + 1 ≤ _; omega, by rw [e1, ha, decide_eq_false d]; rfl⟩ (by show _ - (i + 1) < _ - i; omega)
  · have hie : i = p.length := by omega
    subst hie
    rw [List.take_length] at ha
    exact ha.symm
/-! ### RaceReads -/
theorem raceless {l : List LocG} {t : Int} {ss : List StepG} (he : playErr l t ss = 0) {loc : Int} (hr : racedB ss (racesL l t ss) loc = false) {k i : Nat} (hki : k < i) (hi : i < ss.length) (hk : (Z49 ss k).act.kind = 2) (hlk : (Z49 ss k).act.loc = loc)
    (hp : isPl (Z49 ss i).act.kind = true) (hli : (Z49 ss i).act.loc = loc) : hasI (ordG ss) k i = true := by
  have hn := playErr_len he
  have e1 : ss.getD k default = Z49 ss k := rfl
  have e2 : ss.getD i default = Z49 ss i := rfl
  by_cases hth : (Z49 ss k).thread = (Z49 ss i).thread
  · exact ord_of hn hki hi (dirQ_same hth)
  · cases hh : hasI (ordG ss) k i with
    | true => rfl
    | false =>
      unfold racedB at hr
      rw [List.any_eq_false] at hr
      have hmem : (⟨(k : Int), (i : Int)⟩ : RatG) ∈ racesL l t ss := by
        unfold racesL
        rw [if_pos he]
        refine pAll_mem.2 ⟨k, i, by omega, hi, hki, ?_, rfl⟩
        unfold rcB
        rw [e1, e2, hh, hp, hk, hlk, hli, decide_eq_false hth, pl2]
        simp
      have := hr _ hmem
      simp only [Int.toNat_natCast, e1, hlk, decide_true] at this
      exact absurd trivial this
theorem races_len {l : List LocG} {t : Int} {ss : List StepG} : (racesL l t ss).length ≤ 4096 := by
  unfold racesL
  split
  · rename_i he
    have hn := playErr_len he
    exact Nat.le_trans (pAll_len _ _ _) (Nat.mul_le_mul hn hn)
  · simp
theorem races_in {l : List LocG} {t : Int} {ss : List StepG} : ∀ r ∈ racesL l t ss, 0 ≤ r.num ∧ r.num < ss.length := by
  unfold racesL
  split
  · intro r hr
    obtain ⟨a, b, h1, h2, h3, -, rfl⟩ := pAll_mem.1 hr
    exact ⟨by show (0 : Int) ≤ a; omega, by show (a : Int) < _; omega⟩
  · intro r hr; cases hr
set_option maxHeartbeats 4000000 in
theorem law_RaceReads {T : Tab} {n1 n2 n3 n4 n5 : Nat} (k1 : Knows T n1 sp_true) (k2 : Knows T n2 sp_rOrder) (k3 : Knows T n3 sp_Has) (k4 : Knows T n4 sp_Races) (k5 : Knows T n5 sp_raced) (l : List LocG) (f : Bool) (t : Int) (ss : List StepG) (g : Bool) (hl : l.length ≤ maxLen) (hs : ss.length ≤ maxLen) :
    Holds T V_law22_RaceReads (L_law22_RaceReads n1 n2 n3 n4 n5) R_law22_RaceReads [.d (.list (l.map LocG.row) f), .d (.int .i64 t), .d (.list (ss.map StepG.row) g)] := by
  have F1 := k1.F; have G1 := k1.G; have F2 := k2.F; have G2 := k2.G; have F3 := k3.F; have G3 := k3.G; have F4 := k4.F; have G4 := k4.G; have F5 := k5.F; have G5 := k5.G
  unfold V_law22_RaceReads L_law22_RaceReads R_law22_RaceReads
  simp (maxSteps := 3000000) only [↓Z28, ↓Z34, ↓Z25, ↓Z0x, ↓Z27, ↓Z1x, Z3t, Z3u, ↓Z35, ↓Z24, ↓Z1e, ↓Z26, ↓Z23, ↓Z31, ↓Z33, ↓Z32, ↓Z1l, ↓Z1o, ↓Z1m, ↓Z1n, ↓Z30, ↓Z3x, ↓Z3w, ↓Z2x, ↓Z2z, ↓Z2y, ↓Z3n, ↓Z3p, ↓Z3o, ↓Z0i, ↓Z08, ↓Z15, ↓Z14, ↓Z13, Z4h, Z0z, Z10, Z3j, Z11, Z3v, evN, Z2k, Z2p, Z3q, Z3r, Z2n, Z1i, Z2l, Z22, Z1q, Z1p, Z16, Z2m, evT, Opd.ev, Z0e, Z05, Z3l, Z3k, Z3m, Z1k, Z12, Z2v, Z2u, Z2t, Z2a, Z29, Z42, LOp.isNew, State.prune, Z3a, Z36, AV.leaf, Heap.at, Z0r, Z09, Z04, Z0c, Z02, Z4g, Z4l, Z2s, Z2r, Z2q, Z1r, Z17, Z03, Z0a, Z01, Z00, Z1v, rowI, rowU, RatG.row, LocG.row, ActG.row, StepG.row, StampG.row, ActG.av, ActG.eta, RatG.eta, LocG.eta, beq_true, beq_false, Z1w, Z21, Z2d, Z1j, Z2b, Z1y, Z2c, Z0w, Z0h, Z0u, Z0v, Z0g, Z0f, Z07, List.length_set, List.length_replicate, Int.toNat_natCast, Int.reduceToNat, Z4f, Z1h, Z40, Src.all, Src.len, Src.leaf, Src.leafN, Z2h, Z3f, Z45, Z0j, Z0k, Z0l, Z0m, Z0n, Z0o, Z0p, Z0q, Z43, drows, evMk, List.length_map, Z0y, Z1f, List.take_length, List.take_left, List.length_append, Nat.le_add_right, ite_self, List.take_of_length_le, Z38, Z48, Z3y, Option.isSome_none, Option.isSome_some, Nat.sub_zero, Z46, Z4b, Z4e, evUn, binT, binQ, chk, Z3b, List.contains_cons, List.contains_nil, Bool.or_false, Bool.false_or, Bool.and_self, resQ, resV, resT, Z4c, Z2i, Z3i, Z3h, fnOf, Z3c, isD, HO.drow, Z4a, Z3d, evEq, eqV, eqK, eqC1, Z3g, Z3e, Z2g, Z2f, Z3s, Z2w, Z41, Z39, Z1u, Z1a, Z1t, Z19, Z1s, Z18, Z1b, Z0s, Z0t, Z0b, List.mem_cons, List.not_mem_nil, or_false, forall_eq, putRow, Z37, Z2o, RetS, RetF, RetD, AV.frz, AV.frzL, AV.freshP, AV.freshL, DV.less, Z1z, Z1c, Z20, Z1d, Z1g, Z0d, Z06, Option.some.injEq, AV.tup.injEq, AV.agg.injEq, List.cons.injEq, DV.list.injEq, List.isEmpty_nil, Nat.le_refl, AV.d.injEq, DV.int.injEq, DV.bool.injEq, ↓reduceIte, Nat.reduceEqDiff, Nat.reduceAdd, Nat.reduceBEq, List.length_cons, List.length_nil, List.replicate_succ, List.replicate_zero, List.nil_append, List.cons_append, List.append_nil, List.foldl_cons, List.foldl_nil, List.map_cons, List.map_nil, List.all_cons, List.all_nil, List.set_cons_zero, List.set_cons_succ, List.getD_cons_zero, List.getD_cons_succ, List.drop_zero, List.drop_succ_cons, List.take_succ_cons, List.take_zero, List.flatten_cons, List.flatten_nil, Bool.true_and, Bool.and_true, Bool.not_true, Bool.not_false, true_and, and_true, true_or, or_true, Option.bind_some, Option.map_some, decide_true, decide_false, beq_self_eq_true, true_implies, false_implies, implies_true, not_true_eq_false, not_false_eq_true, and_self, Bool.and_false, Bool.false_and, Nat.reduceLT, Nat.reduceLeDiff, List.reverse_cons, List.reverse_nil, Nat.zero_add, Nat.add_zero, Bool.false_eq_true, List.getElem?_cons_zero, F1, G1, F2, G2, F3, G3, F4, G4, F5, G5, at_true, at_rOrder, at_Has, at_Races, at_raced, Z04, Z01]
  have hm : maxLen = 9223372036854775807 := rfl
  refine fun _ => ⟨⟨hl, hs⟩, ⟨hl, hs⟩, fun he _ => ?_⟩
  have hn := playErr_len he
  have hR := ord_len hn
  have hP1 : (racesL l t ss).length ≤ 4096 := races_len
  have hP2 : ∀ r ∈ racesL l t ss, 0 ≤ r.num ∧ r.num < ss.length := races_in
  have hless : ∀ {loc : Int}, racedB ss (racesL l t ss) loc = false → ∀ {k i : Nat}, k < i → i < ss.length → (Z49 ss k).act.kind = 2 → (Z49 ss k).act.loc = loc → isPl (Z49 ss i).act.kind = true → (Z49 ss i).act.loc = loc → hasI (ordG ss) k i = true := fun h _ _ a b c d e g => raceless he h a b c d e g
  have hrun := run_of he
  have hplain : ∀ {i : Nat}, i < ss.length → isPl (Z49 ss i).act.kind = true → 0 ≤ (Z49 ss i).act.loc ∧ (Z49 ss i).act.loc < l.length ∧ (l.getD (Z49 ss i).act.loc.toNat default).atom = false := fun {i} hi hp => by
    have h1 := plain_loc (hrun.ok i hi) hp
    have h2 := (taken (hrun.ok i hi)).loc (.inl hp)
    rw [run_locs he (by omega)] at h1 h2
    exact ⟨h2.1, h2.2, h1.2⟩
  have hread : ∀ {i : Nat}, i < ss.length → (Z49 ss i).act.kind = 1 → racedB ss (racesL l t ss) (Z49 ss i).act.loc = false → (Z49 ss i).act.old = lastVal (l.getD (Z49 ss i).act.loc.toNat default).init (Z49 ss) (Z49 ss i).act.loc.toNat i := fun {i} hi hk hr => by
    have hp : isPl (Z49 ss i).act.kind = true := by rw [hk]; rfl
    obtain ⟨h0, h1, h2⟩ := hplain hi hp
    obtain ⟨P, e, hT⟩ := top_of he (x := (Z49 ss i).act.loc.toNat) (by omega) h2 (fun k j hkj hj hk2 hlk hpj hlj => by
      have a := hplain (i := k) (by omega) (by rw [hk2]; rfl)
      have b := hplain hj hpj
      exact hless hr hkj hj hk2 (by omega) hpj (by omega)) i (by omega)
    exact (top_read hrun (by rw [run_locs he (Nat.zero_le _)]; omega) hi hT hk rfl).1
  rw [ordL_ok he]
  generalize ordG ss = R at *
  generalize racesL l t ss = P at *
  have hRl : R.length ≤ maxLen := by omega
  refine Loop.fam [0, 2, 7, 9, 11] (fun i : Nat => ⟨[(0, .d (.list (l.map LocG.row) f)), (2, .d (.list (ss.map StepG.row) g)), (7, .d (.list (P.map RatG.row) false)), (9, .d (.list (R.map rowW) false)), (11, .d (.int .i64 i))], []⟩) (fun i => i ≤ ss.length) (fun i => ss.length - i) 0 [] (by simp) (by simp) (by simp only [State.can, AV.can, AV.canL, HO.can, Z2j, idx, Z0e, Z05, Heap.at, Nat.reduceBEq, ↓reduceIte, Nat.reduceEqDiff, Option.getD_some, Option.map_some, List.map_cons, List.map_nil, List.getD_cons_zero, List.getD_cons_succ]; rfl) (Nat.zero_le _) ?_
  intro i hi
  have hi : i ≤ ss.length := hi
  simp (maxSteps := 3000000) only [↓Z28, ↓Z34, ↓Z25, ↓Z0x, ↓Z27, ↓Z1x, Z3t, Z3u, ↓Z35, ↓Z24, ↓Z1e, ↓Z26, ↓Z23, ↓Z31, ↓Z33, ↓Z32, ↓Z1l, ↓Z1o, ↓Z1m, ↓Z1n, ↓Z30, ↓Z3x, ↓Z3w, ↓Z2x, ↓Z2z, ↓Z2y, ↓Z3n, ↓Z3p, ↓Z3o, ↓Z0i, ↓Z08, ↓Z15, ↓Z14, ↓Z13, Z4h, Z0z, Z10, Z3j, Z11, Z3v, evN, Z2k, Z2p, Z3q, Z3r, Z2n, Z1i, Z2l, Z22, Z1q, Z1p, Z16, Z2m, evT, Opd.ev, Z0e, Z05, Z3l, Z3k, Z3m, Z1k, Z12, Z2v, Z2u, Z2t, Z2a, Z29, Z42, LOp.isNew, State.prune, Z3a, Z36, AV.leaf, Heap.at, Z0r, Z09, Z04, Z0c, Z02, Z4g, Z4l, Z2s, Z2r, Z2q, Z1r, Z17, Z03, Z0a, Z01, Z00, Z1v, rowI, rowU, RatG.row, LocG.row, ActG.row, StepG.row, StampG.row, ActG.av, ActG.eta, RatG.eta, LocG.eta, beq_true, beq_false, Z1w, Z21, Z2d, Z1j, Z2b, Z1y, Z2c, Z0w, Z0h, Z0u, Z0v, Z0g, Z0f, Z07, List.length_set, List.length_replicate, Int.toNat_natCast, Int.reduceToNat, Z4f, Z1h, Z40, Src.all, Src.len, Src.leaf, Src.leafN, Z2h, Z3f, Z45, Z0j, Z0k, Z0l, Z0m, Z0n, Z0o, Z0p, Z0q, Z43, drows, evMk, List.length_map, Z0y, Z1f, List.take_length, List.take_left, List.length_append, Nat.le_add_right, ite_self, List.take_of_length_le, Z38, Z48, Z3y, Option.isSome_none, Option.isSome_some, Nat.sub_zero, Z46, Z4b, Z4e, evUn, binT, binQ, chk, Z3b, List.contains_cons, List.contains_nil, Bool.or_false, Bool.false_or, Bool.and_self, resQ, resV, resT, Z4c, Z2i, Z3i, Z3h, fnOf, Z3c, isD, HO.drow, Z4a, Z3d, evEq, eqV, eqK, eqC1, Z3g, Z3e, Z2g, Z2f, Z3s, Z2w, Z41, Z39, Z1u, Z1a, Z1t, Z19, Z1s, Z18, Z1b, Z0s, Z0t, Z0b, List.mem_cons, List.not_mem_nil, or_false, forall_eq, putRow, Z37, Z2o, RetS, RetF, RetD, AV.frz, AV.frzL, AV.freshP, AV.freshL, DV.less, Z1z, Z1c, Z20, Z1d, Z1g, Z0d, Z06, Option.some.injEq, AV.tup.injEq, AV.agg.injEq, List.cons.injEq, DV.list.injEq, List.isEmpty_nil, Nat.le_refl, AV.d.injEq, DV.int.injEq, DV.bool.injEq, ↓reduceIte, Nat.reduceEqDiff, Nat.reduceAdd, Nat.reduceBEq, List.length_cons, List.length_nil, List.replicate_succ, List.replicate_zero, List.nil_append, List.cons_append, List.append_nil, List.foldl_cons, List.foldl_nil, List.map_cons, List.map_nil, List.all_cons, List.all_nil, List.set_cons_zero, List.set_cons_succ, List.getD_cons_zero, List.getD_cons_succ, List.drop_zero, List.drop_succ_cons, List.take_succ_cons, List.take_zero, List.flatten_cons, List.flatten_nil, Bool.true_and, Bool.and_true, Bool.not_true, Bool.not_false, true_and, and_true, true_or, or_true, Option.bind_some, Option.map_some, decide_true, decide_false, beq_self_eq_true, true_implies, false_implies, implies_true, not_true_eq_false, not_false_eq_true, and_self, Bool.and_false, Bool.false_and, Nat.reduceLT, Nat.reduceLeDiff, List.reverse_cons, List.reverse_nil, Nat.zero_add, Nat.add_zero, Bool.false_eq_true, List.getElem?_cons_zero, F1, G1, F2, G2, F3, G3, F4, G4, F5, G5, at_Has, at_raced, Z04, Z01]
  intro c
  have hi' : i < ss.length := by omega
  refine ⟨⟨by omega, by omega⟩, fun hk => ⟨⟨by omega, hP2⟩, fun _ => ?_, fun hr => ?_⟩, fun _ => ?_⟩
  case refine_1 => exact Z2e.mk [] (i + 1) (by simp) (by simp) (by simp only [State.can, AV.can, AV.canL, HO.can, Z2j, idx, Z0e, Z05, Heap.at, Nat.reduceBEq, ↓reduceIte, Nat.reduceEqDiff, Option.getD_some, Option.map_some, List.map_cons, List.map_nil, List.getD_cons_zero, List.getD_cons_succ, Z3z hi' (by omega)]) (by show i + 1 ≤ _; omega) (by show _ - (i + 1) < _ - i; omega)
  case refine_3 => exact Z2e.mk [] (i + 1) (by simp) (by simp) (by simp only [State.can, AV.can, AV.canL, HO.can, Z2j, idx, Z0e, Z05, Heap.at, Nat.reduceBEq, ↓reduceIte, Nat.reduceEqDiff, Option.getD_some, Option.map_some, List.map_cons, List.map_nil, List.getD_cons_zero, List.getD_cons_succ, Z3z hi' (by omega)]) (by show i + 1 ≤ _; omega) (by show _ - (i + 1) < _ - i; omega)
  have hpl : isPl (Z49 ss i).act.kind = true := by rw [show (Z49 ss i).act.kind = 1 from hk]; rfl
  obtain ⟨h0, h1, h2⟩ := hplain hi' hpl
  refine ⟨⟨h0, h1⟩, ?_⟩
  have hwant := hread hi' hk hr
  have hord : ∀ {k : Nat}, k < i → (ss.getD k default).act.kind = 2 → (ss.getD k default).act.loc = (ss.getD i default).act.loc → hasI R k i = true := fun h3 h4 h5 => hless hr h3 hi' h4 h5 hpl rfl
  have hnext : ∀ {k : Nat} {v : Int}, k < i → lastVal v (Z49 ss) (Z49 ss i).act.loc.toNat (k + 1) = if (ss.getD k default).act.kind = 2 ∧ (ss.getD k default).act.loc = (ss.getD i default).act.loc then (ss.getD k default).act.new else lastVal v (Z49 ss) (Z49 ss i).act.loc.toNat k := fun {k v} h3 => by
    have hb : isW (Z49 ss k) (Z49 ss i).act.loc.toNat = true ↔ (ss.getD k default).act.kind = 2 ∧ (ss.getD k default).act.loc = (ss.getD i default).act.loc := by
      have e1 : ss.getD k default = Z49 ss k := rfl
      have e2 : ss.getD i default = Z49 ss i := rfl
      rw [e1, e2]
      unfold isW
      simp only [Bool.and_eq_true, decide_eq_true_eq]
      constructor
      · rintro ⟨a, b⟩
        have h4 := hplain (i := k) (by omega) (by rw [a]; rfl)
        exact ⟨a, by omega⟩
      · rintro ⟨a, b⟩
        exact ⟨a, by omega⟩
    show (if isW (Z49 ss k) _ = true then _ else _) = _
    by_cases h : (ss.getD k default).act.kind = 2 ∧ (ss.getD k default).act.loc = (ss.getD i default).act.loc
    · rw [if_pos (hb.2 h), if_pos h]; rfl
    · rw [if_neg (fun h2 => h (hb.1 h2)), if_neg h]
  have hst : Z49 ss i = ss.getD i default := rfl
  rw [hst] at hwant hnext
  have hf0 : lastVal (l.getD (ss.getD i default).act.loc.toNat default).init (Z49 ss) (ss.getD i default).act.loc.toNat 0 = (l.getD (ss.getD i default).act.loc.toNat default).init := rfl
  generalize (l.getD (ss.getD i default).act.loc.toNat default).init = v0 at *
  rw [← hf0]
  generalize (ss.getD i default).act.loc.toNat = x at *
  clear hread hless hplain
  have hnext : ∀ {k : Nat}, k < i → _ := fun {k} h => hnext (v := v0) h
  generalize hF : lastVal v0 (Z49 ss) x = F at *
  refine Loop.fam [0, 2, 7, 9, 11, 12, 13, 14] (fun k : Nat => ⟨[(0, .d (.list (l.map LocG.row) f)), (2, .d (.list (ss.map StepG.row) g)), (7, .d (.list (P.map RatG.row) false)), (9, .d (.list (R.map rowW) false)), (11, .d (.int .i64 i)), (12, .ptr 0 4 0 0), (13, .d (.int .i64 (F k))), (14, .d (.int .i64 k))],
    [.vec 4 [[.d (.int .i64 (ss.getD i default).act.kind), .d (.int .i64 (ss.getD i default).act.loc), .d (.int .i64 (ss.getD i default).act.old), .d (.int .i64 (ss.getD i default).act.new)]]]⟩) (fun k => k ≤ i) (fun k => i - k) 0 [0] (by simp) (by simp) (by simp only [State.can, AV.can, AV.canL, HO.can, Z2j, idx, Z0e, Z05, Heap.at, Nat.reduceBEq, ↓reduceIte, Nat.reduceEqDiff, Option.getD_some, Option.map_some, List.map_cons, List.map_nil, List.getD_cons_zero, List.getD_cons_succ]; rfl) (Nat.zero_le _) ?_
  intro k hk2
  have hk2 : k ≤ i := hk2
  simp (maxSteps := 3000000) only [↓Z28, ↓Z34, ↓Z25, ↓Z0x, ↓Z27, ↓Z1x, Z3t, Z3u, ↓Z35, ↓Z24, ↓Z1e, ↓Z26, ↓Z23, ↓Z31, ↓Z33, ↓Z32, ↓Z1l, ↓Z1o, ↓Z1m, ↓Z1n, ↓Z30, ↓Z3x, ↓Z3w, ↓Z2x, ↓Z2z, ↓Z2y, ↓Z3n, ↓Z3p, ↓Z3o, ↓Z0i, ↓Z08, ↓Z15, ↓Z14, ↓Z13, Z4h, Z0z, Z10, Z3j, Z11, Z3v, evN, Z2k, Z2p, Z3q, Z3r, Z2n, Z1i, Z2l, Z22, Z1q, Z1p, Z16, Z2m, evT, Opd.ev, Z0e, Z05, Z3l, Z3k, Z3m, Z1k, Z12, Z2v, Z2u, Z2t, Z2a, Z29, Z42, LOp.isNew, State.prune, Z3a, Z36, AV.leaf, Heap.at, Z0r, Z09, Z04, Z0c, Z02, Z4g, Z4l, Z2s, Z2r, Z2q, Z1r, Z17, Z03, Z0a, Z01, Z00, Z1v, rowI, rowU, RatG.row, LocG.row, ActG.row, StepG.row, StampG.row, ActG.av, ActG.eta, RatG.eta, LocG.eta, beq_true, beq_false, Z1w, Z21, Z2d, Z1j, Z2b, Z1y, Z2c, Z0w, Z0h, Z0u, Z0v, Z0g, Z0f, Z07, List.length_set, List.length_replicate, Int.toNat_natCast, Int.reduceToNat, Z4f, Z1h, Z40, Src.all, Src.len, Src.leaf, Src.leafN, Z2h, Z3f, Z45, Z0j, Z0k, Z0l, Z0m, Z0n, Z0o, Z0p, Z0q, Z43, drows, evMk, List.length_map, Z0y, Z1f, List.take_length, List.take_left, List.length_append, Nat.le_add_right, ite_self, List.take_of_length_le, Z38, Z48, Z3y, Option.isSome_none, Option.isSome_some, Nat.sub_zero, Z46, Z4b, Z4e, evUn, binT, binQ, chk, Z3b, List.contains_cons, List.contains_nil, Bool.or_false, Bool.false_or, Bool.and_self, resQ, resV, resT, Z4c, Z2i, Z3i, Z3h, fnOf, Z3c, isD, HO.drow, Z4a, Z3d, evEq, eqV, eqK, eqC1, Z3g, Z3e, Z2g, Z2f, Z3s, Z2w, Z41, Z39, Z1u, Z1a, Z1t, Z19, Z1s, Z18, Z1b, Z0s, Z0t, Z0b, List.mem_cons, List.not_mem_nil, or_false, forall_eq, putRow, Z37, Z2o, RetS, RetF, RetD, AV.frz, AV.frzL, AV.freshP, AV.freshL, DV.less, Z1z, Z1c, Z20, Z1d, Z1g, Z0d, Z06, Option.some.injEq, AV.tup.injEq, AV.agg.injEq, List.cons.injEq, DV.list.injEq, List.isEmpty_nil, Nat.le_refl, AV.d.injEq, DV.int.injEq, DV.bool.injEq, ↓reduceIte, Nat.reduceEqDiff, Nat.reduceAdd, Nat.reduceBEq, List.length_cons, List.length_nil, List.replicate_succ, List.replicate_zero, List.nil_append, List.cons_append, List.append_nil, List.foldl_cons, List.foldl_nil, List.map_cons, List.map_nil, List.all_cons, List.all_nil, List.set_cons_zero, List.set_cons_succ, List.getD_cons_zero, List.getD_cons_succ, List.drop_zero, List.drop_succ_cons, List.take_succ_cons, List.take_zero, List.flatten_cons, List.flatten_nil, Bool.true_and, Bool.and_true, Bool.not_true, Bool.not_false, true_and, and_true, true_or, or_true, Option.bind_some, Option.map_some, decide_true, decide_false, beq_self_eq_true, true_implies, false_implies, implies_true, not_true_eq_false, not_false_eq_true, and_self, Bool.and_false, Bool.false_and, Nat.reduceLT, Nat.reduceLeDiff, List.reverse_cons, List.reverse_nil, Nat.zero_add, Nat.add_zero, Bool.false_eq_true, List.getElem?_cons_zero, F1, G1, F2, G2, F3, G3, F4, G4, F5, G5, at_Has, at_raced, Z04, Z01]
  refine ⟨fun c => ⟨⟨by omega, by omega⟩, fun c1 => ⟨fun c2 => ⟨hRl, fun c3 => ?_, fun c3 => absurd (hord (by omega) c1 c2) (by rw [c3]; decide)⟩, fun c2 => ?_⟩, fun c1 => ?_⟩, fun c => ⟨fun d => ?_, fun d => ?_⟩⟩
  case refine_2.refine_4 => exact Z2e.mk [] (i + 1) (by simp) (by simp) (by simp only [State.can, AV.can, AV.canL, HO.can, Z2j, idx, Z0e, Z05, Heap.at, Nat.reduceBEq, ↓reduceIte, Nat.reduceEqDiff, Option.getD_some, Option.map_some, List.map_cons, List.map_nil, List.getD_cons_zero, List.getD_cons_succ, Z3z hi' (by omega)]) (by show i + 1 ≤ _; omega) (by show _ - (i + 1) < _ - i; omega)
  case refine_2.refine_5 =>
    have hki : k = i := by omega
    subst hki
    have hwant := hwant
    exact d hwant
  all_goals
    have hlt : k < i := by omega
    have e := hnext hlt
    have e := e
    first
      | rw [if_pos (And.intro ‹(ss.getD k default).act.kind = 2› ‹(ss.getD k default).act.loc = (ss.getD i default).act.loc›)] at e
        exact Z2e.mk [0] (k + 1) (by simp) (by simp) (by simp only [State.can, AV.can, AV.canL, HO.can, Z2j, idx, Z0e, Z05, Heap.at, Nat.reduceBEq, ↓reduceIte, Nat.reduceEqDiff, Option.getD_some, Option.map_some, List.map_cons, List.map_nil, List.getD_cons_zero, List.getD_cons_succ, Z3z hlt (by omega), e]) (by show k + 1 ≤ _; omega) (by show _ - (k + 1) < _ - k; omega)
      | rw [if_neg (fun h => c2 h.2)] at e
        exact Z2e.mk [0] (k + 1) (by simp) (by simp) (by simp only [State.can, AV.can, AV.canL, HO.can, Z2j, idx, Z0e, Z05, Heap.at, Nat.reduceBEq, ↓reduceIte, Nat.reduceEqDiff, Option.getD_some, Option.map_some, List.map_cons, List.map_nil, List.getD_cons_zero, List.getD_cons_succ, Z3z hlt (by omega), e]) (by show k + 1 ≤ _; omega) (by show _ - (k + 1) < _ - k; omega)
      | rw [if_neg (fun h => c1 h.1)] at e
        exact Z2e.mk [0] (k + 1) (by simp) (by simp) (by simp only [State.can, AV.can, AV.canL, HO.can, Z2j, idx, Z0e, Z05, Heap.at, Nat.reduceBEq, ↓reduceIte, Nat.reduceEqDiff, Option.getD_some, Option.map_some, List.map_cons, List.map_nil, List.getD_cons_zero, List.getD_cons_succ, Z3z hlt (by omega), e]) (by show k + 1 ≤ _; omega) (by show _ - (k + 1) < _ - k; omega)
end Go.Ago
