/- The reference of layer 19: part. Conditions: none. -/
import Derived.Test.YtkcdbaagjhgmcaaDoorAgoP6
import Derived.Test.YtkcdbaagjhgmcaaDoorAgoP5
import Derived.Test.YtkcdbaagjhgmcaaDoorAgoP4
set_option maxRecDepth 100000
set_option linter.unusedSimpArgs false
set_option linter.unusedVariables false
namespace Go.Ago
theorem wrap19_id {n : Int} (h : -9223372036854775808 ≤ n) (h' : n ≤ 9223372036854775807) : IntKind.wrap .i64 n = n := by
  simp [IntKind.wrap, IntKind.signed, IntKind.bits]
  split <;> omega
attribute [local irreducible] part2 partM vck
set_option maxHeartbeats 8000000 in
theorem partM_ok {T : Tab} {n1 n2 : Nat} (k1 : KnowsG T n1 ef_Put.at) (k2 : Knows T n2 sp_Has) {K : AExit → State → Prop} {l : List NodeG} {e : Bool} {r : List W} {f : Bool} {how : Int} {i k : Nat} {R : List W} {A B : NodeG} {x0 x1 x2 x3 x4 x5 x6 x7 : AV}
    (h1 : l.length ≤ 64) (h2 : r.length ≤ maxLen) (hi : i < l.length) (hk : k < l.length) (lR : R.length = l.length) (r0 : hasI R i k = false) (h3 : 1 ≤ how) (h4 : how ≤ 7)
    (hK : ∀ E x2 W o y4 y5, P2 E (p2E l e r f how i k x0 x1 x2 W o x5 y4 y5) → K .normal ⟨E,
      [.dvec 1 ((pUp R i k (hasN r i k && partQ how A B)).map rowW), .vec 4 [[.d (.int .i64 A.kind), .d (.int .i64 A.loc), .d (.int .i64 A.old), .d (.int .i64 A.new)]], .vec 4 [[.d (.int .i64 B.kind), .d (.int .i64 B.loc), .d (.int .i64 B.old), .d (.int .i64 B.new)]]]⟩) :
    vck T 0 V_ref19_part (partM n1 n2) ⟨[(0, .d (.list (l.map ActG.row) e)), (8, .d (.int .i64 i)), (21, x0), (9, .d (.int .i64 k)), (27, x1), (10, .ptr 1 4 0 0), (11, .ptr 2 4 0 0), (2, .d (.int .i64 how)), (12, x2), (13, x6), (14, x7), (1, .d (.list (r.map rowW) f)), (141, x3), (7, .ref 0 1 0 l.length true), (163, x4), (6, x5)],
      [.dvec 1 (R.map rowW), .vec 4 [[.d (.int .i64 A.kind), .d (.int .i64 A.loc), .d (.int .i64 A.old), .d (.int .i64 A.new)]], .vec 4 [[.d (.int .i64 B.kind), .d (.int .i64 B.loc), .d (.int .i64 B.old), .d (.int .i64 B.new)]]]⟩ K := by
  have G1 := k1.G; have F2 := k2.F; have G2 := k2.G
  have hK' : ∀ E x2 W o y4 y5, (o && (decide (how < 4) || kinds A B)) = partQ how A B → P2 E (p2E l e r f how i k x0 x1 x2 W o x5 y4 y5) → K .normal ⟨E,
      [.dvec 1 ((pUp R i k (hasN r i k && (o && (decide (how < 4) || kinds A B)))).map rowW), .vec 4 [[.d (.int .i64 A.kind), .d (.int .i64 A.loc), .d (.int .i64 A.old), .d (.int .i64 A.new)]], .vec 4 [[.d (.int .i64 B.kind), .d (.int .i64 B.loc), .d (.int .i64 B.old), .d (.int .i64 B.new)]]]⟩ := fun E x2 W o y4 y5 h hE => by
    rw [h]; exact hK E x2 W o y4 y5 hE
  have hkk : kinds A B = true ↔ (0 ≤ A.loc ∧ A.loc < 3 ∧ 0 ≤ B.loc ∧ B.loc < 3) := by simp [kinds, and_assoc]
  have hV : V_ref19_part = [0, 8, 21, 9, 27, 10, 11, 2, 12, 13, 14, 1, 141, 7, 163, 6] := rfl
  rw [hV]
  have p2 := fun {y0 y1 y2 y3 y4 y5 : AV} {W : Int} {o : Bool} => part2_ok k1 k2 (K := K) (l := l) (e := e) (r := r) (f := f) (how := how) (i := i) (k := k) (R := R) (A := A) (B := B) (W := W) (o := o) (x0 := y0) (x1 := y1) (x2 := y2) (x3 := y3) (x4 := y4) (x5 := y5) h1 h2 hi hk lR r0
  rw [hV] at p2
  unfold partM
  obtain rfl | rfl | rfl | rfl | rfl | rfl | rfl : how = 1 ∨ how = 2 ∨ how = 3 ∨ how = 4 ∨ how = 5 ∨ how = 6 ∨ how = 7 := by omega
  · have hbq := partI1 (a := A) (b := B)
    simp (maxSteps := 3000000) only [↓Z1d, ↓Z2b, ↓Z1t, ↓Z05, ↓Z2q, ↓Z2k, Z49, Z4a, ↓Z20, ↓Z1c, ↓Z0i, ↓Z1u, ↓Z12, ↓Z1z, ↓Z2z, ↓Z30, ↓Z23, ↓Z1s, ↓Z2d, ↓Z28, ↓Z1y, ↓Z3m, ↓Z46, ↓Z3e, ↓Z3g, ↓Z3f, ↓Z3v, ↓Z3q, ↓Z44, ↓Z0j, ↓Z0b, ↓Z16, ↓Z0h, ↓Z1g, Z4d, Z0a, Z18, Z32, Z1a, Z35, evN, Z2s, Z1x, Z34, Z41, Z1w, Z19, Z1v, Z2p, Z2a, Z29, Z1e, Z2x, evT, Opd.ev, Z04, Z01, Z33, Z3x, Z3o, Z26, Z1f, Z2w, Z2y, Z3c, Z22, Z14, Z3r, LOp.isNew, State.prune, Z3s, Z3j, AV.leaf, Heap.at, Z0g, Z08, Z1m, Z0e, Z02, Z4x, Z4t, rowW, Z24, Z2t, Z1p, Z1b, rowB, Z2v, Z2u, rowN, Z4b, Z3h, Z17, Z15, w_or, Z4r, Z2r, Z45, Z50, Z42, Z4s, Z47, Z4z, Z4y, Z4u, Z4v, Z4w, w_eq, Bool.decide_eq_true, Z3b, Z3a, Z39, Z2f, Z1h, Z03, Z09, Z11, Z00, Z21, rowI, RatG.row, LocG.row, ActG.row, StepG.row, StampG.row, ActG.av, ActG.eta, RatG.eta, LocG.eta, beq_true, beq_false, Z2j, Z2o, Z2c, Z2l, Z10, Z0n, Z0y, Z0z, Z0m, Z0l, Z0c, List.length_set, List.length_replicate, Z06, Int.reduceToNat, Z4o, Z27, Z4e, Src.all, Src.len, Src.leaf, Src.leafN, Z37, Z3z, Z4k, Z0k, Z0o, Z0p, Z0q, Z0r, Z0s, Z0t, Z0u, Z4m, drows, evMk, List.length_map, Z1r, Z1q, List.take_length, List.take_left, List.length_append, Nat.le_add_right, ite_self, List.take_of_length_le, Z38, Z4j, Z3w, Option.isSome_none, Option.isSome_some, Nat.sub_zero, Z4i, Z4p, Z4g, evUn, Z0v, Z13, binT, binQ, chk, Z3t, List.contains_cons, List.contains_nil, Bool.or_false, Bool.false_or, Bool.and_self, resQ, resV, resT, Z4q, Z2e, Z43, Z3l, fnOf, Z3k, isD, HO.drow, Z4f, Z3u, evEq, eqV, eqK, eqC1, Z40, Z3y, Z36, Z31, Z48, Z3d, Z2i, Z1k, Z2h, Z1j, Z2g, Z1i, Z1l, Z0w, Z0x, Z0d, List.mem_cons, List.not_mem_nil, or_false, forall_eq, putRow, Z3n, Z25, RetS, RetF, RetD, AV.frz, AV.frzL, AV.freshP, AV.freshL, DV.less, Z2m, Z1n, Z2n, Z1o, Z0f, Z07, Option.some.injEq, AV.tup.injEq, AV.agg.injEq, List.cons.injEq, DV.list.injEq, List.isEmpty_nil, Nat.le_refl, AV.d.injEq, DV.int.injEq, DV.bool.injEq, ↓reduceIte, Nat.reduceEqDiff, Nat.reduceAdd, Nat.reduceBEq, List.length_cons, List.length_nil, List.replicate_succ, List.replicate_zero, List.nil_append, List.cons_append, List.append_nil, List.foldl_cons, List.foldl_nil, List.map_cons, List.map_nil, List.all_cons, List.all_nil, List.set_cons_zero, List.set_cons_succ, List.getD_cons_zero, List.getD_cons_succ, List.drop_zero, List.drop_succ_cons, List.take_succ_cons, List.take_zero, List.flatten_cons, List.flatten_nil, Bool.true_and, Bool.and_true, Bool.not_true, Bool.not_false, true_and, and_true, true_or, or_true, Option.bind_some, Option.map_some, decide_true, decide_false, beq_self_eq_true, true_implies, false_implies, implies_true, not_true_eq_false, not_false_eq_true, and_self, Bool.and_false, Bool.false_and, Nat.reduceLT, Nat.reduceLeDiff, List.reverse_cons, List.reverse_nil, Nat.zero_add, Nat.add_zero, Bool.false_eq_true, List.getElem?_cons_zero, Nat.reduceMul, Nat.mul_one, Int.reduceEq, Int.reduceLT, G1, F2, G2, at_Put, at_Has, putE_d]
    (repeat' (first | intro _ | apply And.intro))
    all_goals first
      | omega
      | exact p2 (fun E y4 y5 hE => hK' E _ _ _ y4 y5 (by rw [Bool.eq_iff_iff, hbq]; simp; omega) hE)
  · have hbq := partI2 (a := A) (b := B)
    simp (maxSteps := 3000000) only [↓Z1d, ↓Z2b, ↓Z1t, ↓Z05, ↓Z2q, ↓Z2k, Z49, Z4a, ↓Z20, ↓Z1c, ↓Z0i, ↓Z1u, ↓Z12, ↓Z1z, ↓Z2z, ↓Z30, ↓Z23, ↓Z1s, ↓Z2d, ↓Z28, ↓Z1y, ↓Z3m, ↓Z46, ↓Z3e, ↓Z3g, ↓Z3f, ↓Z3v, ↓Z3q, ↓Z44, ↓Z0j, ↓Z0b, ↓Z16, ↓Z0h, ↓Z1g, Z4d, Z0a, Z18, Z32, Z1a, Z35, evN, Z2s, Z1x, Z34, Z41, Z1w, Z19, Z1v, Z2p, Z2a, Z29, Z1e, Z2x, evT, Opd.ev, Z04, Z01, Z33, Z3x, Z3o, Z26, Z1f, Z2w, Z2y, Z3c, Z22, Z14, Z3r, LOp.isNew, State.prune, Z3s, Z3j, AV.leaf, Heap.at, Z0g, Z08, Z1m, Z0e, Z02, Z4x, Z4t, rowW, Z24, Z2t, Z1p, Z1b, rowB, Z2v, Z2u, rowN, Z4b, Z3h, Z17, Z15, w_or, Z4r, Z2r, Z45, Z50, Z42, Z4s, Z47, Z4z, Z4y, Z4u, Z4v, Z4w, w_eq, Bool.decide_eq_true, Z3b, Z3a, Z39, Z2f, Z1h, Z03, Z09, Z11, Z00, Z21, rowI, RatG.row, LocG.row, ActG.row, StepG.row, StampG.row, ActG.av, ActG.eta, RatG.eta, LocG.eta, beq_true, beq_false, Z2j, Z2o, Z2c, Z2l, Z10, Z0n, Z0y, Z0z, Z0m, Z0l, Z0c, List.length_set, List.length_replicate, Z06, Int.reduceToNat, Z4o, Z27, Z4e, Src.all, Src.len, Src.leaf, Src.leafN, Z37, Z3z, Z4k, Z0k, Z0o, Z0p, Z0q, Z0r, Z0s, Z0t, Z0u, Z4m, drows, evMk, List.length_map, Z1r, Z1q, List.take_length, List.take_left, List.length_append, Nat.le_add_right, ite_self, List.take_of_length_le, Z38, Z4j, Z3w, Option.isSome_none, Option.isSome_some, Nat.sub_zero, Z4i, Z4p, Z4g, evUn, Z0v, Z13, binT, binQ, chk, Z3t, List.contains_cons, List.contains_nil, Bool.or_false, Bool.false_or, Bool.and_self, resQ, resV, resT, Z4q, Z2e, Z43, Z3l, fnOf, Z3k, isD, HO.drow, Z4f, Z3u, evEq, eqV, eqK, eqC1, Z40, Z3y, Z36, Z31, Z48, Z3d, Z2i, Z1k, Z2h, Z1j, Z2g, Z1i, Z1l, Z0w, Z0x, Z0d, List.mem_cons, List.not_mem_nil, or_false, forall_eq, putRow, Z3n, Z25, RetS, RetF, RetD, AV.frz, AV.frzL, AV.freshP, AV.freshL, DV.less, Z2m, Z1n, Z2n, Z1o, Z0f, Z07, Option.some.injEq, AV.tup.injEq, AV.agg.injEq, List.cons.injEq, DV.list.injEq, List.isEmpty_nil, Nat.le_refl, AV.d.injEq, DV.int.injEq, DV.bool.injEq, ↓reduceIte, Nat.reduceEqDiff, Nat.reduceAdd, Nat.reduceBEq, List.length_cons, List.length_nil, List.replicate_succ, List.replicate_zero, List.nil_append, List.cons_append, List.append_nil, List.foldl_cons, List.foldl_nil, List.map_cons, List.map_nil, List.all_cons, List.all_nil, List.set_cons_zero, List.set_cons_succ, List.getD_cons_zero, List.getD_cons_succ, List.drop_zero, List.drop_succ_cons, List.take_succ_cons, List.take_zero, List.flatten_cons, List.flatten_nil, Bool.true_and, Bool.and_true, Bool.not_true, Bool.not_false, true_and, and_true, true_or, or_true, Option.bind_some, Option.map_some, decide_true, decide_false, beq_self_eq_true, true_implies, false_implies, implies_true, not_true_eq_false, not_false_eq_true, and_self, Bool.and_false, Bool.false_and, Nat.reduceLT, Nat.reduceLeDiff, List.reverse_cons, List.reverse_nil, Nat.zero_add, Nat.add_zero, Bool.false_eq_true, List.getElem?_cons_zero, Nat.reduceMul, Nat.mul_one, Int.reduceEq, Int.reduceLT, G1, F2, G2, at_Put, at_Has, putE_d]
    (repeat' (first | intro _ | apply And.intro))
    all_goals first
      | omega
      | exact p2 (fun E y4 y5 hE => hK' E _ _ _ y4 y5 (by rw [Bool.eq_iff_iff, hbq]; simp; omega) hE)
  · have hbq := partI3 (a := A) (b := B)
    simp (maxSteps := 3000000) only [↓Z1d, ↓Z2b, ↓Z1t, ↓Z05, ↓Z2q, ↓Z2k, Z49, Z4a, ↓Z20, ↓Z1c, ↓Z0i, ↓Z1u, ↓Z12, ↓Z1z, ↓Z2z, ↓Z30, ↓Z23, ↓Z1s, ↓Z2d, ↓Z28, ↓Z1y, ↓Z3m, ↓Z46, ↓Z3e, ↓Z3g, ↓Z3f, ↓Z3v, ↓Z3q, ↓Z44, ↓Z0j, ↓Z0b, ↓Z16, ↓Z0h, ↓Z1g, Z4d, Z0a, Z18, Z32, Z1a, Z35, evN, Z2s, Z1x, Z34, Z41, Z1w, Z19, Z1v, Z2p, Z2a, Z29, Z1e, Z2x, evT, Opd.ev, Z04, Z01, Z33, Z3x, Z3o, Z26, Z1f, Z2w, Z2y, Z3c, Z22, Z14, Z3r, LOp.isNew, State.prune, Z3s, Z3j, AV.leaf, Heap.at, Z0g, Z08, Z1m, Z0e, Z02, Z4x, Z4t, rowW, Z24, Z2t, Z1p, Z1b, rowB, Z2v, Z2u, rowN, Z4b, Z3h, Z17, Z15, w_or, Z4r, Z2r, Z45, Z50, Z42, Z4s, Z47, Z4z, Z4y, Z4u, Z4v, Z4w, w_eq, Bool.decide_eq_true, Z3b, Z3a, Z39, Z2f, Z1h, Z03, Z09, Z11, Z00, Z21, rowI, RatG.row, LocG.row, ActG.row, StepG.row, StampG.row, ActG.av, ActG.eta, RatG.eta, LocG.eta, beq_true, beq_false, Z2j, Z2o, Z2c, Z2l, Z10, Z0n, Z0y, Z0z, Z0m, Z0l, Z0c, List.length_set, List.length_replicate, Z06, Int.reduceToNat, Z4o, Z27, Z4e, Src.all, Src.len, Src.leaf, Src.leafN, Z37, Z3z, Z4k, Z0k, Z0o, Z0p, Z0q, Z0r, Z0s, Z0t, Z0u, Z4m, drows, evMk, List.length_map, Z1r, Z1q, List.take_length, List.take_left, List.length_append, Nat.le_add_right, ite_self, List.take_of_length_le, Z38, Z4j, Z3w, Option.isSome_none, Option.isSome_some, Nat.sub_zero, Z4i, Z4p, Z4g, evUn, Z0v, Z13, binT, binQ, chk, Z3t, List.contains_cons, List.contains_nil, Bool.or_false, Bool.false_or, Bool.and_self, resQ, resV, resT, Z4q, Z2e, Z43, Z3l, fnOf, Z3k, isD, HO.drow, Z4f, Z3u, evEq, eqV, eqK, eqC1, Z40, Z3y, Z36, Z31, Z48, Z3d, Z2i, Z1k, Z2h, Z1j, Z2g, Z1i, Z1l, Z0w, Z0x, Z0d, List.mem_cons, List.not_mem_nil, or_false, forall_eq, putRow, Z3n, Z25, RetS, RetF, RetD, AV.frz, AV.frzL, AV.freshP, AV.freshL, DV.less, Z2m, Z1n, Z2n, Z1o, Z0f, Z07, Option.some.injEq, AV.tup.injEq, AV.agg.injEq, List.cons.injEq, DV.list.injEq, List.isEmpty_nil, Nat.le_refl, AV.d.injEq, DV.int.injEq, DV.bool.injEq, ↓reduceIte, Nat.reduceEqDiff, Nat.reduceAdd, Nat.reduceBEq, List.length_cons, List.length_nil, List.replicate_succ, List.replicate_zero, List.nil_append, List.cons_append, List.append_nil, List.foldl_cons, List.foldl_nil, List.map_cons, List.map_nil, List.all_cons, List.all_nil, List.set_cons_zero, List.set_cons_succ, List.getD_cons_zero, List.getD_cons_succ, List.drop_zero, List.drop_succ_cons, List.take_succ_cons, List.take_zero, List.flatten_cons, List.flatten_nil, Bool.true_and, Bool.and_true, Bool.not_true, Bool.not_false, true_and, and_true, true_or, or_true, Option.bind_some, Option.map_some, decide_true, decide_false, beq_self_eq_true, true_implies, false_implies, implies_true, not_true_eq_false, not_false_eq_true, and_self, Bool.and_false, Bool.false_and, Nat.reduceLT, Nat.reduceLeDiff, List.reverse_cons, List.reverse_nil, Nat.zero_add, Nat.add_zero, Bool.false_eq_true, List.getElem?_cons_zero, Nat.reduceMul, Nat.mul_one, Int.reduceEq, Int.reduceLT, G1, F2, G2, at_Put, at_Has, putE_d]
    (repeat' (first | intro _ | apply And.intro))
    all_goals first
      | omega
      | exact p2 (fun E y4 y5 hE => hK' E _ _ _ y4 y5 (by rw [Bool.eq_iff_iff, hbq]; simp; omega) hE)
  · have hbq := partI4 (a := A) (b := B)
    simp (maxSteps := 3000000) only [↓Z1d, ↓Z2b, ↓Z1t, ↓Z05, ↓Z2q, ↓Z2k, Z49, Z4a, ↓Z20, ↓Z1c, ↓Z0i, ↓Z1u, ↓Z12, ↓Z1z, ↓Z2z, ↓Z30, ↓Z23, ↓Z1s, ↓Z2d, ↓Z28, ↓Z1y, ↓Z3m, ↓Z46, ↓Z3e, ↓Z3g, ↓Z3f, ↓Z3v, ↓Z3q, ↓Z44, ↓Z0j, ↓Z0b, ↓Z16, ↓Z0h, ↓Z1g, Z4d, Z0a, Z18, Z32, Z1a, Z35, evN, Z2s, Z1x, Z34, Z41, Z1w, Z19, Z1v, Z2p, Z2a, Z29, Z1e, Z2x, evT, Opd.ev, Z04, Z01, Z33, Z3x, Z3o, Z26, Z1f, Z2w, Z2y, Z3c, Z22, Z14, Z3r, LOp.isNew, State.prune, Z3s, Z3j, AV.leaf, Heap.at, Z0g, Z08, Z1m, Z0e, Z02, Z4x, Z4t, rowW, Z24, Z2t, Z1p, Z1b, rowB, Z2v, Z2u, rowN, Z4b, Z3h, Z17, Z15, w_or, Z4r, Z2r, Z45, Z50, Z42, Z4s, Z47, Z4z, Z4y, Z4u, Z4v, Z4w, w_eq, Bool.decide_eq_true, Z3b, Z3a, Z39, Z2f, Z1h, Z03, Z09, Z11, Z00, Z21, rowI, RatG.row, LocG.row, ActG.row, StepG.row, StampG.row, ActG.av, ActG.eta, RatG.eta, LocG.eta, beq_true, beq_false, Z2j, Z2o, Z2c, Z2l, Z10, Z0n, Z0y, Z0z, Z0m, Z0l, Z0c, List.length_set, List.length_replicate, Z06, Int.reduceToNat, Z4o, Z27, Z4e, Src.all, Src.len, Src.leaf, Src.leafN, Z37, Z3z, Z4k, Z0k, Z0o, Z0p, Z0q, Z0r, Z0s, Z0t, Z0u, Z4m, drows, evMk, List.length_map, Z1r, Z1q, List.take_length, List.take_left, List.length_append, Nat.le_add_right, ite_self, List.take_of_length_le, Z38, Z4j, Z3w, Option.isSome_none, Option.isSome_some, Nat.sub_zero, Z4i, Z4p, Z4g, evUn, Z0v, Z13, binT, binQ, chk, Z3t, List.contains_cons, List.contains_nil, Bool.or_false, Bool.false_or, Bool.and_self, resQ, resV, resT, Z4q, Z2e, Z43, Z3l, fnOf, Z3k, isD, HO.drow, Z4f, Z3u, evEq, eqV, eqK, eqC1, Z40, Z3y, Z36, Z31, Z48, Z3d, Z2i, Z1k, Z2h, Z1j, Z2g, Z1i, Z1l, Z0w, Z0x, Z0d, List.mem_cons, List.not_mem_nil, or_false, forall_eq, putRow, Z3n, Z25, RetS, RetF, RetD, AV.frz, AV.frzL, AV.freshP, AV.freshL, DV.less, Z2m, Z1n, Z2n, Z1o, Z0f, Z07, Option.some.injEq, AV.tup.injEq, AV.agg.injEq, List.cons.injEq, DV.list.injEq, List.isEmpty_nil, Nat.le_refl, AV.d.injEq, DV.int.injEq, DV.bool.injEq, ↓reduceIte, Nat.reduceEqDiff, Nat.reduceAdd, Nat.reduceBEq, List.length_cons, List.length_nil, List.replicate_succ, List.replicate_zero, List.nil_append, List.cons_append, List.append_nil, List.foldl_cons, List.foldl_nil, List.map_cons, List.map_nil, List.all_cons, List.all_nil, List.set_cons_zero, List.set_cons_succ, List.getD_cons_zero, List.getD_cons_succ, List.drop_zero, List.drop_succ_cons, List.take_succ_cons, List.take_zero, List.flatten_cons, List.flatten_nil, Bool.true_and, Bool.and_true, Bool.not_true, Bool.not_false, true_and, and_true, true_or, or_true, Option.bind_some, Option.map_some, decide_true, decide_false, beq_self_eq_true, true_implies, false_implies, implies_true, not_true_eq_false, not_false_eq_true, and_self, Bool.and_false, Bool.false_and, Nat.reduceLT, Nat.reduceLeDiff, List.reverse_cons, List.reverse_nil, Nat.zero_add, Nat.add_zero, Bool.false_eq_true, List.getElem?_cons_zero, Nat.reduceMul, Nat.mul_one, Int.reduceEq, Int.reduceLT, G1, F2, G2, at_Put, at_Has, putE_d]
    have hW : (0 ≤ A.loc ∧ A.loc < 3 ∧ 0 ≤ B.loc ∧ B.loc < 3) → IntKind.i64.wrap (IntKind.i64.wrap (A.loc * 10) + B.loc) = A.loc * 10 + B.loc := fun h => by
      rw [wrap19_id (n := A.loc * 10) (by omega) (by omega), wrap19_id (n := A.loc * 10 + B.loc) (by omega) (by omega)]
    generalize IntKind.i64.wrap (IntKind.i64.wrap (A.loc * 10) + B.loc) = W at hW ⊢
    (repeat' (first | intro _ | apply And.intro))
    all_goals first
      | omega
      | exact p2 (fun E y4 y5 hE => hK' E _ _ _ y4 y5 (by rw [Bool.eq_iff_iff, hbq]; simp [hkk]; omega) hE)
  · have hbq := partI5 (a := A) (b := B)
    simp (maxSteps := 3000000) only [↓Z1d, ↓Z2b, ↓Z1t, ↓Z05, ↓Z2q, ↓Z2k, Z49, Z4a, ↓Z20, ↓Z1c, ↓Z0i, ↓Z1u, ↓Z12, ↓Z1z, ↓Z2z, ↓Z30, ↓Z23, ↓Z1s, ↓Z2d, ↓Z28, ↓Z1y, ↓Z3m, ↓Z46, ↓Z3e, ↓Z3g, ↓Z3f, ↓Z3v, ↓Z3q, ↓Z44, ↓Z0j, ↓Z0b, ↓Z16, ↓Z0h, ↓Z1g, Z4d, Z0a, Z18, Z32, Z1a, Z35, evN, Z2s, Z1x, Z34, Z41, Z1w, Z19, Z1v, Z2p, Z2a, Z29, Z1e, Z2x, evT, Opd.ev, Z04, Z01, Z33, Z3x, Z3o, Z26, Z1f, Z2w, Z2y, Z3c, Z22, Z14, Z3r, LOp.isNew, State.prune, Z3s, Z3j, AV.leaf, Heap.at, Z0g, Z08, Z1m, Z0e, Z02, Z4x, Z4t, rowW, Z24, Z2t, Z1p, Z1b, rowB, Z2v, Z2u, rowN, Z4b, Z3h, Z17, Z15, w_or, Z4r, Z2r, Z45, Z50, Z42, Z4s, Z47, Z4z, Z4y, Z4u, Z4v, Z4w, w_eq, Bool.decide_eq_true, Z3b, Z3a, Z39, Z2f, Z1h, Z03, Z09, Z11, Z00, Z21, rowI, RatG.row, LocG.row, ActG.row, StepG.row, StampG.row, ActG.av, ActG.eta, RatG.eta, LocG.eta, beq_true, beq_false, Z2j, Z2o, Z2c, Z2l, Z10, Z0n, Z0y, Z0z, Z0m, Z0l, Z0c, List.length_set, List.length_replicate, Z06, Int.reduceToNat, Z4o, Z27, Z4e, Src.all, Src.len, Src.leaf, Src.leafN, Z37, Z3z, Z4k, Z0k, Z0o, Z0p, Z0q, Z0r, Z0s, Z0t, Z0u, Z4m, drows, evMk, List.length_map, Z1r, Z1q, List.take_length, List.take_left, List.length_append, Nat.le_add_right, ite_self, List.take_of_length_le, Z38, Z4j, Z3w, Option.isSome_none, Option.isSome_some, Nat.sub_zero, Z4i, Z4p, Z4g, evUn, Z0v, Z13, binT, binQ, chk, Z3t, List.contains_cons, List.contains_nil, Bool.or_false, Bool.false_or, Bool.and_self, resQ, resV, resT, Z4q, Z2e, Z43, Z3l, fnOf, Z3k, isD, HO.drow, Z4f, Z3u, evEq, eqV, eqK, eqC1, Z40, Z3y, Z36, Z31, Z48, Z3d, Z2i, Z1k, Z2h, Z1j, Z2g, Z1i, Z1l, Z0w, Z0x, Z0d, List.mem_cons, List.not_mem_nil, or_false, forall_eq, putRow, Z3n, Z25, RetS, RetF, RetD, AV.frz, AV.frzL, AV.freshP, AV.freshL, DV.less, Z2m, Z1n, Z2n, Z1o, Z0f, Z07, Option.some.injEq, AV.tup.injEq, AV.agg.injEq, List.cons.injEq, DV.list.injEq, List.isEmpty_nil, Nat.le_refl, AV.d.injEq, DV.int.injEq, DV.bool.injEq, ↓reduceIte, Nat.reduceEqDiff, Nat.reduceAdd, Nat.reduceBEq, List.length_cons, List.length_nil, List.replicate_succ, List.replicate_zero, List.nil_append, List.cons_append, List.append_nil, List.foldl_cons, List.foldl_nil, List.map_cons, List.map_nil, List.all_cons, List.all_nil, List.set_cons_zero, List.set_cons_succ, List.getD_cons_zero, List.getD_cons_succ, List.drop_zero, List.drop_succ_cons, List.take_succ_cons, List.take_zero, List.flatten_cons, List.flatten_nil, Bool.true_and, Bool.and_true, Bool.not_true, Bool.not_false, true_and, and_true, true_or, or_true, Option.bind_some, Option.map_some, decide_true, decide_false, beq_self_eq_true, true_implies, false_implies, implies_true, not_true_eq_false, not_false_eq_true, and_self, Bool.and_false, Bool.false_and, Nat.reduceLT, Nat.reduceLeDiff, List.reverse_cons, List.reverse_nil, Nat.zero_add, Nat.add_zero, Bool.false_eq_true, List.getElem?_cons_zero, Nat.reduceMul, Nat.mul_one, Int.reduceEq, Int.reduceLT, G1, F2, G2, at_Put, at_Has, putE_d]
    have hW : (0 ≤ A.loc ∧ A.loc < 3 ∧ 0 ≤ B.loc ∧ B.loc < 3) → IntKind.i64.wrap (IntKind.i64.wrap (A.loc * 10) + B.loc) = A.loc * 10 + B.loc := fun h => by
      rw [wrap19_id (n := A.loc * 10) (by omega) (by omega), wrap19_id (n := A.loc * 10 + B.loc) (by omega) (by omega)]
    generalize IntKind.i64.wrap (IntKind.i64.wrap (A.loc * 10) + B.loc) = W at hW ⊢
    (repeat' (first | intro _ | apply And.intro))
    all_goals first
      | omega
      | exact p2 (fun E y4 y5 hE => hK' E _ _ _ y4 y5 (by rw [Bool.eq_iff_iff, hbq]; simp [hkk]; omega) hE)
  · have hbq := partI6 (a := A) (b := B)
    simp (maxSteps := 3000000) only [↓Z1d, ↓Z2b, ↓Z1t, ↓Z05, ↓Z2q, ↓Z2k, Z49, Z4a, ↓Z20, ↓Z1c, ↓Z0i, ↓Z1u, ↓Z12, ↓Z1z, ↓Z2z, ↓Z30, ↓Z23, ↓Z1s, ↓Z2d, ↓Z28, ↓Z1y, ↓Z3m, ↓Z46, ↓Z3e, ↓Z3g, ↓Z3f, ↓Z3v, ↓Z3q, ↓Z44, ↓Z0j, ↓Z0b, ↓Z16, ↓Z0h, ↓Z1g, Z4d, Z0a, Z18, Z32, Z1a, Z35, evN, Z2s, Z1x, Z34, Z41, Z1w, Z19, Z1v, Z2p, Z2a, Z29, Z1e, Z2x, evT, Opd.ev, Z04, Z01, Z33, Z3x, Z3o, Z26, Z1f, Z2w, Z2y, Z3c, Z22, Z14, Z3r, LOp.isNew, State.prune, Z3s, Z3j, AV.leaf, Heap.at, Z0g, Z08, Z1m, Z0e, Z02, Z4x, Z4t, rowW, Z24, Z2t, Z1p, Z1b, rowB, Z2v, Z2u, rowN, Z4b, Z3h, Z17, Z15, w_or, Z4r, Z2r, Z45, Z50, Z42, Z4s, Z47, Z4z, Z4y, Z4u, Z4v, Z4w, w_eq, Bool.decide_eq_true, Z3b, Z3a, Z39, Z2f, Z1h, Z03, Z09, Z11, Z00, Z21, rowI, RatG.row, LocG.row, ActG.row, StepG.row, StampG.row, ActG.av, ActG.eta, RatG.eta, LocG.eta, beq_true, beq_false, Z2j, Z2o, Z2c, Z2l, Z10, Z0n, Z0y, Z0z, Z0m, Z0l, Z0c, List.length_set, List.length_replicate, Z06, Int.reduceToNat, Z4o, Z27, Z4e, Src.all, Src.len, Src.leaf, Src.leafN, Z37, Z3z, Z4k, Z0k, Z0o, Z0p, Z0q, Z0r, Z0s, Z0t, Z0u, Z4m, drows, evMk, List.length_map, Z1r, Z1q, List.take_length, List.take_left, List.length_append, Nat.le_add_right, ite_self, List.take_of_length_le, Z38, Z4j, Z3w, Option.isSome_none, Option.isSome_some, Nat.sub_zero, Z4i, Z4p, Z4g, evUn, Z0v, Z13, binT, binQ, chk, Z3t, List.contains_cons, List.contains_nil, Bool.or_false, Bool.false_or, Bool.and_self, resQ, resV, resT, Z4q, Z2e, Z43, Z3l, fnOf, Z3k, isD, HO.drow, Z4f, Z3u, evEq, eqV, eqK, eqC1, Z40, Z3y, Z36, Z31, Z48, Z3d, Z2i, Z1k, Z2h, Z1j, Z2g, Z1i, Z1l, Z0w, Z0x, Z0d, List.mem_cons, List.not_mem_nil, or_false, forall_eq, putRow, Z3n, Z25, RetS, RetF, RetD, AV.frz, AV.frzL, AV.freshP, AV.freshL, DV.less, Z2m, Z1n, Z2n, Z1o, Z0f, Z07, Option.some.injEq, AV.tup.injEq, AV.agg.injEq, List.cons.injEq, DV.list.injEq, List.isEmpty_nil, Nat.le_refl, AV.d.injEq, DV.int.injEq, DV.bool.injEq, ↓reduceIte, Nat.reduceEqDiff, Nat.reduceAdd, Nat.reduceBEq, List.length_cons, List.length_nil, List.replicate_succ, List.replicate_zero, List.nil_append, List.cons_append, List.append_nil, List.foldl_cons, List.foldl_nil, List.map_cons, List.map_nil, List.all_cons, List.all_nil, List.set_cons_zero, List.set_cons_succ, List.getD_cons_zero, List.getD_cons_succ, List.drop_zero, List.drop_succ_cons, List.take_succ_cons, List.take_zero, List.flatten_cons, List.flatten_nil, Bool.true_and, Bool.and_true, Bool.not_true, Bool.not_false, true_and, and_true, true_or, or_true, Option.bind_some, Option.map_some, decide_true, decide_false, beq_self_eq_true, true_implies, false_implies, implies_true, not_true_eq_false, not_false_eq_true, and_self, Bool.and_false, Bool.false_and, Nat.reduceLT, Nat.reduceLeDiff, List.reverse_cons, List.reverse_nil, Nat.zero_add, Nat.add_zero, Bool.false_eq_true, List.getElem?_cons_zero, Nat.reduceMul, Nat.mul_one, Int.reduceEq, Int.reduceLT, G1, F2, G2, at_Put, at_Has, putE_d]
    have hW : (0 ≤ A.loc ∧ A.loc < 3 ∧ 0 ≤ B.loc ∧ B.loc < 3) → IntKind.i64.wrap (IntKind.i64.wrap (A.loc * 10) + B.loc) = A.loc * 10 + B.loc := fun h => by
      rw [wrap19_id (n := A.loc * 10) (by omega) (by omega), wrap19_id (n := A.loc * 10 + B.loc) (by omega) (by omega)]
    generalize IntKind.i64.wrap (IntKind.i64.wrap (A.loc * 10) + B.loc) = W at hW ⊢
    (repeat' (first | intro _ | apply And.intro))
    all_goals first
      | omega
      | exact p2 (fun E y4 y5 hE => hK' E _ _ _ y4 y5 (by rw [Bool.eq_iff_iff, hbq]; simp [hkk]; omega) hE)
  · have hbq := partI7 (a := A) (b := B)
    simp (maxSteps := 3000000) only [↓Z1d, ↓Z2b, ↓Z1t, ↓Z05, ↓Z2q, ↓Z2k, Z49, Z4a, ↓Z20, ↓Z1c, ↓Z0i, ↓Z1u, ↓Z12, ↓Z1z, ↓Z2z, ↓Z30, ↓Z23, ↓Z1s, ↓Z2d, ↓Z28, ↓Z1y, ↓Z3m, ↓Z46, ↓Z3e, ↓Z3g, ↓Z3f, ↓Z3v, ↓Z3q, ↓Z44, ↓Z0j, ↓Z0b, ↓Z16, ↓Z0h, ↓Z1g, Z4d, Z0a, Z18, Z32, Z1a, Z35, evN, Z2s, Z1x, Z34, Z41, Z1w, Z19, Z1v, Z2p, Z2a, Z29, Z1e, Z2x, evT, Opd.ev, Z04, Z01, Z33, Z3x, Z3o, Z26, Z1f, Z2w, Z2y, Z3c, Z22, Z14, Z3r, LOp.isNew, State.prune, Z3s, Z3j, AV.leaf, Heap.at, Z0g, Z08, Z1m, Z0e, Z02, Z4x, Z4t, rowW, Z24, Z2t, Z1p, Z1b, rowB, Z2v, Z2u, rowN, Z4b, Z3h, Z17, Z15, w_or, Z4r, Z2r, Z45, Z50, Z42, Z4s, Z47, Z4z, Z4y, Z4u, Z4v, Z4w, w_eq, Bool.decide_eq_true, Z3b, Z3a, Z39, Z2f, Z1h, Z03, Z09, Z11, Z00, Z21, rowI, RatG.row, LocG.row, ActG.row, StepG.row, StampG.row, ActG.av, ActG.eta, RatG.eta, LocG.eta, beq_true, beq_false, Z2j, Z2o, Z2c, Z2l, Z10, Z0n, Z0y, Z0z, Z0m, Z0l, Z0c, List.length_set, List.length_replicate, Z06, Int.reduceToNat, Z4o, Z27, Z4e, Src.all, Src.len, Src.leaf, Src.leafN, Z37, Z3z, Z4k, Z0k, Z0o, Z0p, Z0q, Z0r, Z0s, Z0t, Z0u, Z4m, drows, evMk, List.length_map, Z1r, Z1q, List.take_length, List.take_left, List.length_append, Nat.le_add_right, ite_self, List.take_of_length_le, Z38, Z4j, Z3w, Option.isSome_none, Option.isSome_some, Nat.sub_zero, Z4i, Z4p, Z4g, evUn, Z0v, Z13, binT, binQ, chk, Z3t, List.contains_cons, List.contains_nil, Bool.or_false, Bool.false_or, Bool.and_self, resQ, resV, resT, Z4q, Z2e, Z43, Z3l, fnOf, Z3k, isD, HO.drow, Z4f, Z3u, evEq, eqV, eqK, eqC1, Z40, Z3y, Z36, Z31, Z48, Z3d, Z2i, Z1k, Z2h, Z1j, Z2g, Z1i, Z1l, Z0w, Z0x, Z0d, List.mem_cons, List.not_mem_nil, or_false, forall_eq, putRow, Z3n, Z25, RetS, RetF, RetD, AV.frz, AV.frzL, AV.freshP, AV.freshL, DV.less, Z2m, Z1n, Z2n, Z1o, Z0f, Z07, Option.some.injEq, AV.tup.injEq, AV.agg.injEq, List.cons.injEq, DV.list.injEq, List.isEmpty_nil, Nat.le_refl, AV.d.injEq, DV.int.injEq, DV.bool.injEq, ↓reduceIte, Nat.reduceEqDiff, Nat.reduceAdd, Nat.reduceBEq, List.length_cons, List.length_nil, List.replicate_succ, List.replicate_zero, List.nil_append, List.cons_append, List.append_nil, List.foldl_cons, List.foldl_nil, List.map_cons, List.map_nil, List.all_cons, List.all_nil, List.set_cons_zero, List.set_cons_succ, List.getD_cons_zero, List.getD_cons_succ, List.drop_zero, List.drop_succ_cons, List.take_succ_cons, List.take_zero, List.flatten_cons, List.flatten_nil, Bool.true_and, Bool.and_true, Bool.not_true, Bool.not_false, true_and, and_true, true_or, or_true, Option.bind_some, Option.map_some, decide_true, decide_false, beq_self_eq_true, true_implies, false_implies, implies_true, not_true_eq_false, not_false_eq_true, and_self, Bool.and_false, Bool.false_and, Nat.reduceLT, Nat.reduceLeDiff, List.reverse_cons, List.reverse_nil, Nat.zero_add, Nat.add_zero, Bool.false_eq_true, List.getElem?_cons_zero, Nat.reduceMul, Nat.mul_one, Int.reduceEq, Int.reduceLT, G1, F2, G2, at_Put, at_Has, putE_d]
    have hW : (0 ≤ A.loc ∧ A.loc < 3 ∧ 0 ≤ B.loc ∧ B.loc < 3) → IntKind.i64.wrap (IntKind.i64.wrap (A.loc * 10) + B.loc) = A.loc * 10 + B.loc := fun h => by
      rw [wrap19_id (n := A.loc * 10) (by omega) (by omega), wrap19_id (n := A.loc * 10 + B.loc) (by omega) (by omega)]
    generalize IntKind.i64.wrap (IntKind.i64.wrap (A.loc * 10) + B.loc) = W at hW ⊢
    (repeat' (first | intro _ | apply And.intro))
    all_goals first
      | omega
      | exact p2 (fun E y4 y5 hE => hK' E _ _ _ y4 y5 (by rw [Bool.eq_iff_iff, hbq]; simp [hkk]; omega) hE)
set_option maxHeartbeats 16000000 in
theorem body_ref19_part {T : Tab} {n1 n2 : Nat} (k1 : KnowsG T n1 ef_Put.at) (k2 : Knows T n2 sp_Has) : sp_part.Body T V_ref19_part (L_ref19_part n1 n2) R_ref19_part := by
  have G1 := k1.G; have F2 := k2.F; have G2 := k2.G
  rintro ⟨l, e, r, f, how⟩ ⟨h1, h2, h3, h4⟩
  have h1 : l.length ≤ 64 := h1
  have h2 : r.length ≤ maxLen := h2
  have h3 : 1 ≤ how := h3
  have h4 : how ≤ 7 := h4
  have hm : maxLen = 9223372036854775807 := rfl
  refine .inr ⟨rfl, ?_⟩
  rw [part1L_eq]
  have hV : V_ref19_part = [0, 8, 21, 9, 27, 10, 11, 2, 12, 13, 14, 1, 141, 7, 163, 6] := rfl
  have hP := fun {K} {i k : Nat} {R : List W} {A B : NodeG} {x0 x1 x2 x3 x4 x5 x6 x7 : AV} hi hk lR r0 => partM_ok k1 k2 (K := K) (l := l) (e := e) (r := r) (f := f) (how := how) (i := i) (k := k) (R := R) (A := A) (B := B) (x0 := x0) (x1 := x1) (x2 := x2) (x3 := x3) (x4 := x4) (x5 := x5) (x6 := x6) (x7 := x7) h1 h2 hi hk lR r0 h3 h4
  rw [hV] at hP
  unfold V_ref19_part part1L R_ref19_part
  simp (maxSteps := 3000000) only [↓Z1d, ↓Z2b, ↓Z1t, ↓Z05, ↓Z2q, ↓Z2k, Z49, Z4a, ↓Z20, ↓Z1c, ↓Z0i, ↓Z1u, ↓Z12, ↓Z1z, ↓Z2z, ↓Z30, ↓Z23, ↓Z1s, ↓Z2d, ↓Z28, ↓Z1y, ↓Z3m, ↓Z46, ↓Z3e, ↓Z3g, ↓Z3f, ↓Z3v, ↓Z3q, ↓Z44, ↓Z0j, ↓Z0b, ↓Z16, ↓Z0h, ↓Z1g, Z4d, Z0a, Z18, Z32, Z1a, Z35, evN, Z2s, Z1x, Z34, Z41, Z1w, Z19, Z1v, Z2p, Z2a, Z29, Z1e, Z2x, evT, Opd.ev, Z04, Z01, Z33, Z3x, Z3o, Z26, Z1f, Z2w, Z2y, Z3c, Z22, Z14, Z3r, LOp.isNew, State.prune, Z3s, Z3j, AV.leaf, Heap.at, Z0g, Z08, Z1m, Z0e, Z02, Z4x, Z4t, rowW, Z24, Z2t, Z1p, Z1b, rowB, Z2v, Z2u, rowN, Z4b, Z3h, Z17, Z15, w_or, Z4r, Z2r, Z45, Z50, Z42, Z4s, Z47, Z4z, Z4y, Z4u, Z4v, Z4w, w_eq, Bool.decide_eq_true, Z3b, Z3a, Z39, Z2f, Z1h, Z03, Z09, Z11, Z00, Z21, rowI, RatG.row, LocG.row, ActG.row, StepG.row, StampG.row, ActG.av, ActG.eta, RatG.eta, LocG.eta, beq_true, beq_false, Z2j, Z2o, Z2c, Z2l, Z10, Z0n, Z0y, Z0z, Z0m, Z0l, Z0c, List.length_set, List.length_replicate, Z06, Int.reduceToNat, Z4o, Z27, Z4e, Src.all, Src.len, Src.leaf, Src.leafN, Z37, Z3z, Z4k, Z0k, Z0o, Z0p, Z0q, Z0r, Z0s, Z0t, Z0u, Z4m, drows, evMk, List.length_map, Z1r, Z1q, List.take_length, List.take_left, List.length_append, Nat.le_add_right, ite_self, List.take_of_length_le, Z38, Z4j, Z3w, Option.isSome_none, Option.isSome_some, Nat.sub_zero, Z4i, Z4p, Z4g, evUn, Z0v, Z13, binT, binQ, chk, Z3t, List.contains_cons, List.contains_nil, Bool.or_false, Bool.false_or, Bool.and_self, resQ, resV, resT, Z4q, Z2e, Z43, Z3l, fnOf, Z3k, isD, HO.drow, Z4f, Z3u, evEq, eqV, eqK, eqC1, Z40, Z3y, Z36, Z31, Z48, Z3d, Z2i, Z1k, Z2h, Z1j, Z2g, Z1i, Z1l, Z0w, Z0x, Z0d, List.mem_cons, List.not_mem_nil, or_false, forall_eq, putRow, Z3n, Z25, RetS, RetF, RetD, AV.frz, AV.frzL, AV.freshP, AV.freshL, DV.less, Z2m, Z1n, Z2n, Z1o, Z0f, Z07, Option.some.injEq, AV.tup.injEq, AV.agg.injEq, List.cons.injEq, DV.list.injEq, List.isEmpty_nil, Nat.le_refl, AV.d.injEq, DV.int.injEq, DV.bool.injEq, ↓reduceIte, Nat.reduceEqDiff, Nat.reduceAdd, Nat.reduceBEq, List.length_cons, List.length_nil, List.replicate_succ, List.replicate_zero, List.nil_append, List.cons_append, List.append_nil, List.foldl_cons, List.foldl_nil, List.map_cons, List.map_nil, List.all_cons, List.all_nil, List.set_cons_zero, List.set_cons_succ, List.getD_cons_zero, List.getD_cons_succ, List.drop_zero, List.drop_succ_cons, List.take_succ_cons, List.take_zero, List.flatten_cons, List.flatten_nil, Bool.true_and, Bool.and_true, Bool.not_true, Bool.not_false, true_and, and_true, true_or, or_true, Option.bind_some, Option.map_some, decide_true, decide_false, beq_self_eq_true, true_implies, false_implies, implies_true, not_true_eq_false, not_false_eq_true, and_self, Bool.and_false, Bool.false_and, Nat.reduceLT, Nat.reduceLeDiff, List.reverse_cons, List.reverse_nil, Nat.zero_add, Nat.add_zero, Bool.false_eq_true, List.getElem?_cons_zero, Nat.reduceMul, Nat.mul_one, sp_part, G1, F2, G2, at_Put, at_Has, putE_d]
  generalize hp : (fun i k => hasN r i k && partQ how (l.getD i default) (l.getD k default)) = p
  have hp' : ∀ i k, p i k = (hasN r i k && partQ how (l.getD i default) (l.getD k default)) := fun i k => by rw [← hp]
  have hz : List.replicate l.length 0#64 = mkR l.length (upS p 0 0) := mkR_zero (fun a b _ _ => upS_zero _ a b)
  rw [hz]
  refine ⟨⟨by omega, by omega, roomy_of (by omega) (by omega)⟩, ?_⟩
  refine Loop.fam [0, 1, 2, 7, 8] (fun i : Nat => ⟨[(0, .d (.list (l.map ActG.row) e)), (1, .d (.list (r.map rowW) f)), (2, .d (.int .i64 how)), (7, .ref 0 1 0 l.length true), (8, .d (.int .i64 i))],
      [.dvec 1 ((mkR l.length (upS p i 0)).map rowW)]⟩) (fun i => i ≤ l.length) (fun i => l.length - i) 0 [0] (by simp) (by simp) (by simp only [State.can, AV.can, AV.canL, HO.can, Z3i, idx, Z04, Z01, Heap.at, Nat.reduceBEq, ↓reduceIte, Nat.reduceEqDiff, Option.getD_some, Option.map_some, List.map_cons, List.map_nil, List.getD_cons_zero, List.getD_cons_succ]; rfl) (by omega) ?_
  intro i hi
  have hi : i ≤ l.length := hi
  simp (maxSteps := 3000000) only [↓Z1d, ↓Z2b, ↓Z1t, ↓Z05, ↓Z2q, ↓Z2k, Z49, Z4a, ↓Z20, ↓Z1c, ↓Z0i, ↓Z1u, ↓Z12, ↓Z1z, ↓Z2z, ↓Z30, ↓Z23, ↓Z1s, ↓Z2d, ↓Z28, ↓Z1y, ↓Z3m, ↓Z46, ↓Z3e, ↓Z3g, ↓Z3f, ↓Z3v, ↓Z3q, ↓Z44, ↓Z0j, ↓Z0b, ↓Z16, ↓Z0h, ↓Z1g, Z4d, Z0a, Z18, Z32, Z1a, Z35, evN, Z2s, Z1x, Z34, Z41, Z1w, Z19, Z1v, Z2p, Z2a, Z29, Z1e, Z2x, evT, Opd.ev, Z04, Z01, Z33, Z3x, Z3o, Z26, Z1f, Z2w, Z2y, Z3c, Z22, Z14, Z3r, LOp.isNew, State.prune, Z3s, Z3j, AV.leaf, Heap.at, Z0g, Z08, Z1m, Z0e, Z02, Z4x, Z4t, rowW, Z24, Z2t, Z1p, Z1b, rowB, Z2v, Z2u, rowN, Z4b, Z3h, Z17, Z15, w_or, Z4r, Z2r, Z45, Z50, Z42, Z4s, Z47, Z4z, Z4y, Z4u, Z4v, Z4w, w_eq, Bool.decide_eq_true, Z3b, Z3a, Z39, Z2f, Z1h, Z03, Z09, Z11, Z00, Z21, rowI, RatG.row, LocG.row, ActG.row, StepG.row, StampG.row, ActG.av, ActG.eta, RatG.eta, LocG.eta, beq_true, beq_false, Z2j, Z2o, Z2c, Z2l, Z10, Z0n, Z0y, Z0z, Z0m, Z0l, Z0c, List.length_set, List.length_replicate, Z06, Int.reduceToNat, Z4o, Z27, Z4e, Src.all, Src.len, Src.leaf, Src.leafN, Z37, Z3z, Z4k, Z0k, Z0o, Z0p, Z0q, Z0r, Z0s, Z0t, Z0u, Z4m, drows, evMk, List.length_map, Z1r, Z1q, List.take_length, List.take_left, List.length_append, Nat.le_add_right, ite_self, List.take_of_length_le, Z38, Z4j, Z3w, Option.isSome_none, Option.isSome_some, Nat.sub_zero, Z4i, Z4p, Z4g, evUn, Z0v, Z13, binT, binQ, chk, Z3t, List.contains_cons, List.contains_nil, Bool.or_false, Bool.false_or, Bool.and_self, resQ, resV, resT, Z4q, Z2e, Z43, Z3l, fnOf, Z3k, isD, HO.drow, Z4f, Z3u, evEq, eqV, eqK, eqC1, Z40, Z3y, Z36, Z31, Z48, Z3d, Z2i, Z1k, Z2h, Z1j, Z2g, Z1i, Z1l, Z0w, Z0x, Z0d, List.mem_cons, List.not_mem_nil, or_false, forall_eq, putRow, Z3n, Z25, RetS, RetF, RetD, AV.frz, AV.frzL, AV.freshP, AV.freshL, DV.less, Z2m, Z1n, Z2n, Z1o, Z0f, Z07, Option.some.injEq, AV.tup.injEq, AV.agg.injEq, List.cons.injEq, DV.list.injEq, List.isEmpty_nil, Nat.le_refl, AV.d.injEq, DV.int.injEq, DV.bool.injEq, ↓reduceIte, Nat.reduceEqDiff, Nat.reduceAdd, Nat.reduceBEq, List.length_cons, List.length_nil, List.replicate_succ, List.replicate_zero, List.nil_append, List.cons_append, List.append_nil, List.foldl_cons, List.foldl_nil, List.map_cons, List.map_nil, List.all_cons, List.all_nil, List.set_cons_zero, List.set_cons_succ, List.getD_cons_zero, List.getD_cons_succ, List.drop_zero, List.drop_succ_cons, List.take_succ_cons, List.take_zero, List.flatten_cons, List.flatten_nil, Bool.true_and, Bool.and_true, Bool.not_true, Bool.not_false, true_and, and_true, true_or, or_true, Option.bind_some, Option.map_some, decide_true, decide_false, beq_self_eq_true, true_implies, false_implies, implies_true, not_true_eq_false, not_false_eq_true, and_self, Bool.and_false, Bool.false_and, Nat.reduceLT, Nat.reduceLeDiff, List.reverse_cons, List.reverse_nil, Nat.zero_add, Nat.add_zero, Bool.false_eq_true, List.getElem?_cons_zero, Nat.reduceMul, Nat.mul_one, G1, F2, G2, at_Put, at_Has, putE_d]
  refine ⟨fun c => ?_, fun c => ?_⟩
  · have c' : i < l.length := by omega
    refine Loop.fam [0, 1, 2, 7, 8, 9] (fun k : Nat => partSt l e r f how i (mkR l.length (upS p i k)) k) (fun k => k ≤ l.length) (fun k => l.length - k) 0 [0] (by simp) (by simp) (by simp only [State.can, AV.can, AV.canL, HO.can, Z3i, idx, Z04, Z01, Heap.at, Nat.reduceBEq, ↓reduceIte, Nat.reduceEqDiff, Option.getD_some, Option.map_some, List.map_cons, List.map_nil, List.getD_cons_zero, List.getD_cons_succ, partSt]; rfl) (by omega) ?_
    intro k hk
    have hk : k ≤ l.length := hk
    by_cases g : k < l.length
    · generalize hR : mkR l.length (upS p i k) = R
      have lR : R.length = l.length := by rw [← hR, Z53]
      have r0 : hasI R i k = false := by rw [← hR, hasI_nat, hasN_mk h1]; simp [upS]
      have hyes : p i k = true → putR R i k = mkR l.length (upS p i (k + 1)) := fun h => by rw [← hR]; exact put_up p c' g h1 h
      have hno : p i k = false → R = mkR l.length (upS p i (k + 1)) := fun h => by rw [← hR]; exact upS_no p h
      have hup : ∀ c, c = p i k → pUp R i k c = mkR l.length (upS p i (k + 1)) := by
        intro c hc
        unfold pUp
        cases c
        · rw [if_neg (by decide)]; exact hno hc.symm
        · rw [if_pos rfl]; exact hyes hc.symm
      have hpk := hp' i k
      have hw9 : IntKind.i64.wrap ((k : Int) + 1) = ((k + 1 : Nat) : Int) := Z4l g (by omega)
      clear hp hz hyes hno
      simp (maxSteps := 3000000) only [↓Z1d, ↓Z2b, ↓Z1t, ↓Z05, ↓Z2q, ↓Z2k, Z49, Z4a, ↓Z20, ↓Z1c, ↓Z0i, ↓Z1u, ↓Z12, ↓Z1z, ↓Z2z, ↓Z30, ↓Z23, ↓Z1s, ↓Z2d, ↓Z28, ↓Z1y, ↓Z3m, ↓Z46, ↓Z3e, ↓Z3g, ↓Z3f, ↓Z3v, ↓Z3q, ↓Z44, ↓Z0j, ↓Z0b, ↓Z16, ↓Z0h, ↓Z1g, Z4d, Z0a, Z18, Z32, Z1a, Z35, evN, Z2s, Z1x, Z34, Z41, Z1w, Z19, Z1v, Z2p, Z2a, Z29, Z1e, Z2x, evT, Opd.ev, Z04, Z01, Z33, Z3x, Z3o, Z26, Z1f, Z2w, Z2y, Z3c, Z22, Z14, Z3r, LOp.isNew, State.prune, Z3s, Z3j, AV.leaf, Heap.at, Z0g, Z08, Z1m, Z0e, Z02, Z4x, Z4t, rowW, Z24, Z2t, Z1p, Z1b, rowB, Z2v, Z2u, rowN, Z4b, Z3h, Z17, Z15, w_or, Z4r, Z2r, Z45, Z50, Z42, Z4s, Z47, Z4z, Z4y, Z4u, Z4v, Z4w, w_eq, Bool.decide_eq_true, Z3b, Z3a, Z39, Z2f, Z1h, Z03, Z09, Z11, Z00, Z21, rowI, RatG.row, LocG.row, ActG.row, StepG.row, StampG.row, ActG.av, ActG.eta, RatG.eta, LocG.eta, beq_true, beq_false, Z2j, Z2o, Z2c, Z2l, Z10, Z0n, Z0y, Z0z, Z0m, Z0l, Z0c, List.length_set, List.length_replicate, Z06, Int.reduceToNat, Z4o, Z27, Z4e, Src.all, Src.len, Src.leaf, Src.leafN, Z37, Z3z, Z4k, Z0k, Z0o, Z0p, Z0q, Z0r, Z0s, Z0t, Z0u, Z4m, drows, evMk, List.length_map, Z1r, Z1q, List.take_length, List.take_left, List.length_append, Nat.le_add_right, ite_self, List.take_of_length_le, Z38, Z4j, Z3w, Option.isSome_none, Option.isSome_some, Nat.sub_zero, Z4i, Z4p, Z4g, evUn, Z0v, Z13, binT, binQ, chk, Z3t, List.contains_cons, List.contains_nil, Bool.or_false, Bool.false_or, Bool.and_self, resQ, resV, resT, Z4q, Z2e, Z43, Z3l, fnOf, Z3k, isD, HO.drow, Z4f, Z3u, evEq, eqV, eqK, eqC1, Z40, Z3y, Z36, Z31, Z48, Z3d, Z2i, Z1k, Z2h, Z1j, Z2g, Z1i, Z1l, Z0w, Z0x, Z0d, List.mem_cons, List.not_mem_nil, or_false, forall_eq, putRow, Z3n, Z25, RetS, RetF, RetD, AV.frz, AV.frzL, AV.freshP, AV.freshL, DV.less, Z2m, Z1n, Z2n, Z1o, Z0f, Z07, Option.some.injEq, AV.tup.injEq, AV.agg.injEq, List.cons.injEq, DV.list.injEq, List.isEmpty_nil, Nat.le_refl, AV.d.injEq, DV.int.injEq, DV.bool.injEq, ↓reduceIte, Nat.reduceEqDiff, Nat.reduceAdd, Nat.reduceBEq, List.length_cons, List.length_nil, List.replicate_succ, List.replicate_zero, List.nil_append, List.cons_append, List.append_nil, List.foldl_cons, List.foldl_nil, List.map_cons, List.map_nil, List.all_cons, List.all_nil, List.set_cons_zero, List.set_cons_succ, List.getD_cons_zero, List.getD_cons_succ, List.drop_zero, List.drop_succ_cons, List.take_succ_cons, List.take_zero, List.flatten_cons, List.flatten_nil, Bool.true_and, Bool.and_true, Bool.not_true, Bool.not_false, true_and, and_true, true_or, or_true, Option.bind_some, Option.map_some, decide_true, decide_false, beq_self_eq_true, true_implies, false_implies, implies_true, not_true_eq_false, not_false_eq_true, and_self, Bool.and_false, Bool.false_and, Nat.reduceLT, Nat.reduceLeDiff, List.reverse_cons, List.reverse_nil, Nat.zero_add, Nat.add_zero, Bool.false_eq_true, List.getElem?_cons_zero, Nat.reduceMul, Nat.mul_one, partSt, G1, F2, G2, at_Put, at_Has, putE_d]
      refine ⟨fun _ => ⟨⟨by omega, by omega⟩, ⟨by omega, by omega⟩, hP c' g lR r0 (fun E x2 W o y4 y5 hE => ?_)⟩, fun c2 => absurd c2 (by omega)⟩
      rw [hup _ hpk.symm]
      have hfin : ∀ {S : State}, S.can [0] [0, 1, 2, 7, 8, 9] = partSt l e r f how i (mkR l.length (upS p i (k + 1))) (k + 1) → 0 < S.heap.length →
          Z3p [0, 1, 2, 7, 8, 9] (fun k : Nat => partSt l e r f how i (mkR l.length (upS p i k)) k) (fun k => k ≤ l.length) (fun k => l.length - k) (l.length - k) S := fun {S} g1 g2 =>
        Z3p.mk [0] (k + 1) (by simp) (by simpa using g2) g1 (by show k + 1 ≤ _; omega) (by show _ - (k + 1) < _ - k; omega)
      rcases hE with rfl | ⟨y, rfl⟩
      · simp (maxSteps := 3000000) only [↓Z1d, ↓Z2b, ↓Z1t, ↓Z05, ↓Z2q, ↓Z2k, Z49, Z4a, ↓Z20, ↓Z1c, ↓Z0i, ↓Z1u, ↓Z12, ↓Z1z, ↓Z2z, ↓Z30, ↓Z23, ↓Z1s, ↓Z2d, ↓Z28, ↓Z1y, ↓Z3m, ↓Z46, ↓Z3e, ↓Z3g, ↓Z3f, ↓Z3v, ↓Z3q, ↓Z44, ↓Z0j, ↓Z0b, ↓Z16, ↓Z0h, ↓Z1g, Z4d, Z0a, Z18, Z32, Z1a, Z35, evN, Z2s, Z1x, Z34, Z41, Z1w, Z19, Z1v, Z2p, Z2a, Z29, Z1e, Z2x, evT, Opd.ev, Z04, Z01, Z33, Z3x, Z3o, Z26, Z1f, Z2w, Z2y, Z3c, Z22, Z14, Z3r, LOp.isNew, State.prune, Z3s, Z3j, AV.leaf, Heap.at, Z0g, Z08, Z1m, Z0e, Z02, Z4x, Z4t, rowW, Z24, Z2t, Z1p, Z1b, rowB, Z2v, Z2u, rowN, Z4b, Z3h, Z17, Z15, w_or, Z4r, Z2r, Z45, Z50, Z42, Z4s, Z47, Z4z, Z4y, Z4u, Z4v, Z4w, w_eq, Bool.decide_eq_true, Z3b, Z3a, Z39, Z2f, Z1h, Z03, Z09, Z11, Z00, Z21, rowI, RatG.row, LocG.row, ActG.row, StepG.row, StampG.row, ActG.av, ActG.eta, RatG.eta, LocG.eta, beq_true, beq_false, Z2j, Z2o, Z2c, Z2l, Z10, Z0n, Z0y, Z0z, Z0m, Z0l, Z0c, List.length_set, List.length_replicate, Z06, Int.reduceToNat, Z4o, Z27, Z4e, Src.all, Src.len, Src.leaf, Src.leafN, Z37, Z3z, Z4k, Z0k, Z0o, Z0p, Z0q, Z0r, Z0s, Z0t, Z0u, Z4m, drows, evMk, List.length_map, Z1r, Z1q, List.take_length, List.take_left, List.length_append, Nat.le_add_right, ite_self, List.take_of_length_le, Z38, Z4j, Z3w, Option.isSome_none, Option.isSome_some, Nat.sub_zero, Z4i, Z4p, Z4g, evUn, Z0v, Z13, binT, binQ, chk, Z3t, List.contains_cons, List.contains_nil, Bool.or_false, Bool.false_or, Bool.and_self, resQ, resV, resT, Z4q, Z2e, Z43, Z3l, fnOf, Z3k, isD, HO.drow, Z4f, Z3u, evEq, eqV, eqK, eqC1, Z40, Z3y, Z36, Z31, Z48, Z3d, Z2i, Z1k, Z2h, Z1j, Z2g, Z1i, Z1l, Z0w, Z0x, Z0d, List.mem_cons, List.not_mem_nil, or_false, forall_eq, putRow, Z3n, Z25, RetS, RetF, RetD, AV.frz, AV.frzL, AV.freshP, AV.freshL, DV.less, Z2m, Z1n, Z2n, Z1o, Z0f, Z07, Option.some.injEq, AV.tup.injEq, AV.agg.injEq, List.cons.injEq, DV.list.injEq, List.isEmpty_nil, Nat.le_refl, AV.d.injEq, DV.int.injEq, DV.bool.injEq, ↓reduceIte, Nat.reduceEqDiff, Nat.reduceAdd, Nat.reduceBEq, List.length_cons, List.length_nil, List.replicate_succ, List.replicate_zero, List.nil_append, List.cons_append, List.append_nil, List.foldl_cons, List.foldl_nil, List.map_cons, List.map_nil, List.all_cons, List.all_nil, List.set_cons_zero, List.set_cons_succ, List.getD_cons_zero, List.getD_cons_succ, List.drop_zero, List.drop_succ_cons, List.take_succ_cons, List.take_zero, List.flatten_cons, List.flatten_nil, Bool.true_and, Bool.and_true, Bool.not_true, Bool.not_false, true_and, and_true, true_or, or_true, Option.bind_some, Option.map_some, decide_true, decide_false, beq_self_eq_true, true_implies, false_implies, implies_true, not_true_eq_false, not_false_eq_true, and_self, Bool.and_false, Bool.false_and, Nat.reduceLT, Nat.reduceLeDiff, List.reverse_cons, List.reverse_nil, Nat.zero_add, Nat.add_zero, Bool.false_eq_true, List.getElem?_cons_zero, Nat.reduceMul, Nat.mul_one, p2E, hw9]
        exact hfin (by simp only [State.can, AV.can, AV.canL, HO.can, Z3i, idx, Z04, Z01, Heap.at, Nat.reduceBEq, ↓reduceIte, Nat.reduceEqDiff, Option.getD_some, Option.map_some, List.map_cons, List.map_nil, List.getD_cons_zero, List.getD_cons_succ, partSt]) (by simp)
      · simp (maxSteps := 3000000) only [↓Z1d, ↓Z2b, ↓Z1t, ↓Z05, ↓Z2q, ↓Z2k, Z49, Z4a, ↓Z20, ↓Z1c, ↓Z0i, ↓Z1u, ↓Z12, ↓Z1z, ↓Z2z, ↓Z30, ↓Z23, ↓Z1s, ↓Z2d, ↓Z28, ↓Z1y, ↓Z3m, ↓Z46, ↓Z3e, ↓Z3g, ↓Z3f, ↓Z3v, ↓Z3q, ↓Z44, ↓Z0j, ↓Z0b, ↓Z16, ↓Z0h, ↓Z1g, Z4d, Z0a, Z18, Z32, Z1a, Z35, evN, Z2s, Z1x, Z34, Z41, Z1w, Z19, Z1v, Z2p, Z2a, Z29, Z1e, Z2x, evT, Opd.ev, Z04, Z01, Z33, Z3x, Z3o, Z26, Z1f, Z2w, Z2y, Z3c, Z22, Z14, Z3r, LOp.isNew, State.prune, Z3s, Z3j, AV.leaf, Heap.at, Z0g, Z08, Z1m, Z0e, Z02, Z4x, Z4t, rowW, Z24, Z2t, Z1p, Z1b, rowB, Z2v, Z2u, rowN, Z4b, Z3h, Z17, Z15, w_or, Z4r, Z2r, Z45, Z50, Z42, Z4s, Z47, Z4z, Z4y, Z4u, Z4v, Z4w, w_eq, Bool.decide_eq_true, Z3b, Z3a, Z39, Z2f, Z1h, Z03, Z09, Z11, Z00, Z21, rowI, RatG.row, LocG.row, ActG.row, StepG.row, StampG.row, ActG.av, ActG.eta, RatG.eta, LocG.eta, beq_true, beq_false, Z2j, Z2o, Z2c, Z2l, Z10, Z0n, Z0y, Z0z, Z0m, Z0l, Z0c, List.length_set, List.length_replicate, Z06, Int.reduceToNat, Z4o, Z27, Z4e, Src.all, Src.len, Src.leaf, Src.leafN, Z37, Z3z, Z4k, Z0k, Z0o, Z0p, Z0q, Z0r, Z0s, Z0t, Z0u, Z4m, drows, evMk, List.length_map, Z1r, Z1q, List.take_length, List.take_left, List.length_append, Nat.le_add_right, ite_self, List.take_of_length_le, Z38, Z4j, Z3w, Option.isSome_none, Option.isSome_some, Nat.sub_zero, Z4i, Z4p, Z4g, evUn, Z0v, Z13, binT, binQ, chk, Z3t, List.contains_cons, List.contains_nil, Bool.or_false, Bool.false_or, Bool.and_self, resQ, resV, resT, Z4q, Z2e, Z43, Z3l, fnOf, Z3k, isD, HO.drow, Z4f, Z3u, evEq, eqV, eqK, eqC1, Z40, Z3y, Z36, Z31, Z48, Z3d, Z2i, Z1k, Z2h, Z1j, Z2g, Z1i, Z1l, Z0w, Z0x, Z0d, List.mem_cons, List.not_mem_nil, or_false, forall_eq, putRow, Z3n, Z25, RetS, RetF, RetD, AV.frz, AV.frzL, AV.freshP, AV.freshL, DV.less, Z2m, Z1n, Z2n, Z1o, Z0f, Z07, Option.some.injEq, AV.tup.injEq, AV.agg.injEq, List.cons.injEq, DV.list.injEq, List.isEmpty_nil, Nat.le_refl, AV.d.injEq, DV.int.injEq, DV.bool.injEq, ↓reduceIte, Nat.reduceEqDiff, Nat.reduceAdd, Nat.reduceBEq, List.length_cons, List.length_nil, List.replicate_succ, List.replicate_zero, List.nil_append, List.cons_append, List.append_nil, List.foldl_cons, List.foldl_nil, List.map_cons, List.map_nil, List.all_cons, List.all_nil, List.set_cons_zero, List.set_cons_succ, List.getD_cons_zero, List.getD_cons_succ, List.drop_zero, List.drop_succ_cons, List.take_succ_cons, List.take_zero, List.flatten_cons, List.flatten_nil, Bool.true_and, Bool.and_true, Bool.not_true, Bool.not_false, true_and, and_true, true_or, or_true, Option.bind_some, Option.map_some, decide_true, decide_false, beq_self_eq_true, true_implies, false_implies, implies_true, not_true_eq_false, not_false_eq_true, and_self, Bool.and_false, Bool.false_and, Nat.reduceLT, Nat.reduceLeDiff, List.reverse_cons, List.reverse_nil, Nat.zero_add, Nat.add_zero, Bool.false_eq_true, List.getElem?_cons_zero, Nat.reduceMul, Nat.mul_one, p2E, hw9]
        exact hfin (by simp only [State.can, AV.can, AV.canL, HO.can, Z3i, idx, Z04, Z01, Heap.at, Nat.reduceBEq, ↓reduceIte, Nat.reduceEqDiff, Option.getD_some, Option.map_some, List.map_cons, List.map_nil, List.getD_cons_zero, List.getD_cons_succ, partSt]) (by simp)
    · have hke : k = l.length := by omega
      subst hke
      simp (maxSteps := 3000000) only [↓Z1d, ↓Z2b, ↓Z1t, ↓Z05, ↓Z2q, ↓Z2k, Z49, Z4a, ↓Z20, ↓Z1c, ↓Z0i, ↓Z1u, ↓Z12, ↓Z1z, ↓Z2z, ↓Z30, ↓Z23, ↓Z1s, ↓Z2d, ↓Z28, ↓Z1y, ↓Z3m, ↓Z46, ↓Z3e, ↓Z3g, ↓Z3f, ↓Z3v, ↓Z3q, ↓Z44, ↓Z0j, ↓Z0b, ↓Z16, ↓Z0h, ↓Z1g, Z4d, Z0a, Z18, Z32, Z1a, Z35, evN, Z2s, Z1x, Z34, Z41, Z1w, Z19, Z1v, Z2p, Z2a, Z29, Z1e, Z2x, evT, Opd.ev, Z04, Z01, Z33, Z3x, Z3o, Z26, Z1f, Z2w, Z2y, Z3c, Z22, Z14, Z3r, LOp.isNew, State.prune, Z3s, Z3j, AV.leaf, Heap.at, Z0g, Z08, Z1m, Z0e, Z02, Z4x, Z4t, rowW, Z24, Z2t, Z1p, Z1b, rowB, Z2v, Z2u, rowN, Z4b, Z3h, Z17, Z15, w_or, Z4r, Z2r, Z45, Z50, Z42, Z4s, Z47, Z4z, Z4y, Z4u, Z4v, Z4w, w_eq, Bool.decide_eq_true, Z3b, Z3a, Z39, Z2f, Z1h, Z03, Z09, Z11, Z00, Z21, rowI, RatG.row, LocG.row, ActG.row, StepG.row, StampG.row, ActG.av, ActG.eta, RatG.eta, LocG.eta, beq_true, beq_false, Z2j, Z2o, Z2c, Z2l, Z10, Z0n, Z0y, Z0z, Z0m, Z0l, Z0c, List.length_set, List.length_replicate, Z06, Int.reduceToNat, Z4o, Z27, Z4e, Src.all, Src.len, Src.leaf, Src.leafN, Z37, Z3z, Z4k, Z0k, Z0o, Z0p, Z0q, Z0r, Z0s, Z0t, Z0u, Z4m, drows, evMk, List.length_map, Z1r, Z1q, List.take_length, List.take_left, List.length_append, Nat.le_add_right, ite_self, List.take_of_length_le, Z38, Z4j, Z3w, Option.isSome_none, Option.isSome_some, Nat.sub_zero, Z4i, Z4p, Z4g, evUn, Z0v, Z13, binT, binQ, chk, Z3t, List.contains_cons, List.contains_nil, Bool.or_false, Bool.false_or, Bool.and_self, resQ, resV, resT, Z4q, Z2e, Z43, Z3l, fnOf, Z3k, isD, HO.drow, Z4f, Z3u, evEq, eqV, eqK, eqC1, Z40, Z3y, Z36, Z31, Z48, Z3d, Z2i, Z1k, Z2h, Z1j, Z2g, Z1i, Z1l, Z0w, Z0x, Z0d, List.mem_cons, List.not_mem_nil, or_false, forall_eq, putRow, Z3n, Z25, RetS, RetF, RetD, AV.frz, AV.frzL, AV.freshP, AV.freshL, DV.less, Z2m, Z1n, Z2n, Z1o, Z0f, Z07, Option.some.injEq, AV.tup.injEq, AV.agg.injEq, List.cons.injEq, DV.list.injEq, List.isEmpty_nil, Nat.le_refl, AV.d.injEq, DV.int.injEq, DV.bool.injEq, ↓reduceIte, Nat.reduceEqDiff, Nat.reduceAdd, Nat.reduceBEq, List.length_cons, List.length_nil, List.replicate_succ, List.replicate_zero, List.nil_append, List.cons_append, List.append_nil, List.foldl_cons, List.foldl_nil, List.map_cons, List.map_nil, List.all_cons, List.all_nil, List.set_cons_zero, List.set_cons_succ, List.getD_cons_zero, List.getD_cons_succ, List.drop_zero, List.drop_succ_cons, List.take_succ_cons, List.take_zero, List.flatten_cons, List.flatten_nil, Bool.true_and, Bool.and_true, Bool.not_true, Bool.not_false, true_and, and_true, true_or, or_true, Option.bind_some, Option.map_some, decide_true, decide_false, beq_self_eq_true, true_implies, false_implies, implies_true, not_true_eq_false, not_false_eq_true, and_self, Bool.and_false, Bool.false_and, Nat.reduceLT, Nat.reduceLeDiff, List.reverse_cons, List.reverse_nil, Nat.zero_add, Nat.add_zero, Bool.false_eq_true, List.getElem?_cons_zero, Nat.reduceMul, Nat.mul_one, partSt]
      refine ⟨fun c2 => absurd c2 (by omega), fun _ => ?_⟩
      rw [Z4l c' (by omega), upS_next]
      exact Z3p.mk [0] (i + 1) (by simp) (by simp) (by simp only [State.can, AV.can, AV.canL, HO.can, Z3i, idx, Z04, Z01, Heap.at, Nat.reduceBEq, ↓reduceIte, Nat.reduceEqDiff, Option.getD_some, Option.map_some, List.map_cons, List.map_nil, List.getD_cons_zero, List.getD_cons_succ]) (by show i + 1 ≤ _; omega) (by show _ - (i + 1) < _ - i; omega)
  · have : i = l.length := by omega
    subst this
    rw [upS_end, ← hp]
    exact frz_end (l := partG l r how) (by simp [partG, Z53])
end Go.Ago

/- The reference of layer 19: its words are those of the program's model. Conditions: none. -/
set_option maxRecDepth 100000
set_option linter.unusedSimpArgs false
set_option linter.unusedVariables false
namespace Go.Ago
/-! ### Laid together, of so many -/
theorem lay2_nil (a b : List W) : lay2 qOr (lay2 qOr [] a) b = lay2 qOr a b := by
  have e : mxR (lay2 qOr [] a) b = mxR a b := by
    unfold mxR
    rw [show szR (lay2 qOr [] a) = szR a from ?_]
    unfold szR
    rw [lay2_len]
    unfold mxR szR
    simp
  rw [show lay2 qOr (lay2 qOr [] a) b = mkR (mxR (lay2 qOr [] a) b) (fun i k => qOr (hasN (lay2 qOr [] a) i k) (hasN b i k)) from rfl, e]
  show _ = mkR (mxR a b) (fun i k => qOr (hasN a i k) (hasN b i k))
  congr 1
  funext i k
  rw [hasN_or, hasN_nil, Bool.false_or]
theorem or2_eq (a b : List W) : orL [a, b] = lay2 qOr a b := by
  unfold orL; rw [List.foldl_cons, List.foldl_cons, List.foldl_nil, lay2_nil]
theorem layQ_or : lay2 (layQ 0) = lay2 qOr := by funext a b; exact lay2_or a b
theorem foldG_or2 (a b : List W × Bool) (l : List (List W × Bool)) : foldG (lay2 (layQ 0)) (a :: b :: l) = orL (a.1 :: b.1 :: l.map (·.1)) := by
  unfold foldG orL
  rw [layQ_or]
  simp only [List.drop_succ_cons, List.drop_zero, List.foldl_cons, List.getD_cons_zero]
  rw [lay2_nil, List.foldl_map]
theorem foldG_cons (g : List W → List W → List W) (a : List W × Bool) (l : List (List W × Bool)) : foldG g (a :: l) = l.foldl (fun o x => g o x.1) a.1 := rfl
def sp_or19 : Sp := sp_fold (lay2 (layQ 0))
def sp_then19 : Sp := sp_fold thenG
theorem bodyD_ref02_Lay {T : Tab} {n1 n2 n3 : Nat} (k1 : Knows T n1 sp_Has) (k2 : KnowsG T n2 ef_Put.at) (k3 : Knows T n3 sp_most) : (Sp.dat sp_layR).Body T V_ref02_Lay (L_ref02_Lay n1 n2 n3) R_ref02_Lay :=
  (body_ref02_Lay k1 k2 k3).dat (fun x ok sz l h => by simp only [sp_layR, SpecR.rows.injEq] at h; rw [← h.2.2]; exact scal_W)
theorem bodyD_ref02_Then {T : Tab} {n1 n2 n3 : Nat} (k1 : Knows T n1 sp_Has) (k2 : KnowsG T n2 ef_Put.at) (k3 : Knows T n3 sp_most) : (Sp.dat sp_Then).Body T V_ref02_Then (L_ref02_Then n1 n2 n3) R_ref02_Then :=
  (body_ref02_Then k1 k2 k3).dat (fun x ok sz l h => by simp only [sp_Then, SpecR.rows.injEq] at h; rw [← h.2.2]; exact scal_W)
theorem bodyD_ref02_Star {T : Tab} {n1 n2 : Nat} (k1 : Knows T n1 sp_Plus) (k2 : KnowsG T n2 ef_Put.at) : (Sp.dat sp_Star).Body T V_ref02_Star (L_ref02_Star n1 n2) R_ref02_Star :=
  (body_ref02_Star k1 k2).dat (fun x ok sz l h => by simp only [sp_Star, SpecR.rows.injEq] at h; rw [← h.2.2]; exact scal_W)
theorem bodyD_ref19_or {T : Tab} {n1 : Nat} (k1 : Knows T n1 sp_layR.dat) : sp_or19.Body T V_ref19_or (L_ref19_or n1) R_ref19_or := body_ref19_or k1
theorem bodyD_ref19_then {T : Tab} {n1 : Nat} (k1 : Knows T n1 sp_Then.dat) : sp_then19.Body T V_ref19_then (L_ref19_then n1) R_ref19_then := body_ref19_then k1
theorem at_or2R (a b : List W) (f1 f2 f : Bool) : sp_or19.at [.d (.list [[.list (a.map rowW) f1], [.list (b.map rowW) f2]] f)] = .data (a.length ≤ 64 ∧ b.length ≤ 64) (.d (.list ((lay2 qOr a b).map rowW) false)) false := by
  refine (at_fold _ [(a, f1), (b, f2)] f).trans ?_
  rw [foldG_or2, List.map_nil, or2_eq]
  congr 1
  apply propext; simp
theorem at_or3R (a b c : List W) (f1 f2 f3 f : Bool) : sp_or19.at [.d (.list [[.list (a.map rowW) f1], [.list (b.map rowW) f2], [.list (c.map rowW) f3]] f)] = .data (a.length ≤ 64 ∧ b.length ≤ 64 ∧ c.length ≤ 64) (.d (.list ((orL [a, b, c]).map rowW) false)) false := by
  refine (at_fold _ [(a, f1), (b, f2), (c, f3)] f).trans ?_
  rw [foldG_or2]
  congr 1
  apply propext; simp
theorem at_or4R (a b c d : List W) (f1 f2 f3 f4 f : Bool) : sp_or19.at [.d (.list [[.list (a.map rowW) f1], [.list (b.map rowW) f2], [.list (c.map rowW) f3], [.list (d.map rowW) f4]] f)] = .data (a.length ≤ 64 ∧ b.length ≤ 64 ∧ c.length ≤ 64 ∧ d.length ≤ 64) (.d (.list ((orL [a, b, c, d]).map rowW) false)) false := by
  refine (at_fold _ [(a, f1), (b, f2), (c, f3), (d, f4)] f).trans ?_
  rw [foldG_or2]
  congr 1
  apply propext; simp
theorem at_or5R (a b c d e : List W) (f1 f2 f3 f4 f5 f : Bool) : sp_or19.at [.d (.list [[.list (a.map rowW) f1], [.list (b.map rowW) f2], [.list (c.map rowW) f3], [.list (d.map rowW) f4], [.list (e.map rowW) f5]] f)] = .data (a.length ≤ 64 ∧ b.length ≤ 64 ∧ c.length ≤ 64 ∧ d.length ≤ 64 ∧ e.length ≤ 64) (.d (.list ((orL [a, b, c, d, e]).map rowW) false)) false := by
  refine (at_fold _ [(a, f1), (b, f2), (c, f3), (d, f4), (e, f5)] f).trans ?_
  rw [foldG_or2]
  congr 1
  apply propext; simp
theorem at_then2R (a b : List W) (f1 f2 f : Bool) : sp_then19.at [.d (.list [[.list (a.map rowW) f1], [.list (b.map rowW) f2]] f)] = .data (a.length ≤ 64 ∧ b.length ≤ 64) (.d (.list ((thenG a b).map rowW) false)) false := by
  refine (at_fold _ [(a, f1), (b, f2)] f).trans ?_
  rw [foldG_cons]
  simp only [List.foldl_cons, List.foldl_nil, SpecR.data.injEq, and_true]
  apply propext; simp
theorem at_then3R (a b c : List W) (f1 f2 f3 f : Bool) : sp_then19.at [.d (.list [[.list (a.map rowW) f1], [.list (b.map rowW) f2], [.list (c.map rowW) f3]] f)] = .data (a.length ≤ 64 ∧ b.length ≤ 64 ∧ c.length ≤ 64) (.d (.list ((thenG (thenG a b) c).map rowW) false)) false := by
  refine (at_fold _ [(a, f1), (b, f2), (c, f3)] f).trans ?_
  rw [foldG_cons]
  simp only [List.foldl_cons, List.foldl_nil, SpecR.data.injEq, and_true]
  apply propext; simp
theorem at_then4R (a b c d : List W) (f1 f2 f3 f4 f : Bool) : sp_then19.at [.d (.list [[.list (a.map rowW) f1], [.list (b.map rowW) f2], [.list (c.map rowW) f3], [.list (d.map rowW) f4]] f)] = .data (a.length ≤ 64 ∧ b.length ≤ 64 ∧ c.length ≤ 64 ∧ d.length ≤ 64) (.d (.list ((thenG (thenG (thenG a b) c) d).map rowW) false)) false := by
  refine (at_fold _ [(a, f1), (b, f2), (c, f3), (d, f4)] f).trans ?_
  rw [foldG_cons]
  simp only [List.foldl_cons, List.foldl_nil, SpecR.data.injEq, and_true]
  apply propext; simp
/-! ### The parts -/
theorem part_ext {n : Nat} {l : List NodeG} {r : List W} (hl : l.length = n) (hr : Sq n r) : partG l r 1 = whereG l apartQ r := by
  unfold partG whereG
  rw [hl, hr.len]
  refine Z4h fun i k _ _ => ?_
  unfold partQ
  rw [if_pos rfl]
theorem part_loc {n : Nat} {l : List NodeG} {r : List W} (hl : l.length = n) (hr : Sq n r) : partG l r 3 = whereG l locQ r := by
  unfold partG whereG
  rw [hl, hr.len]
  refine Z4h fun i k _ _ => ?_
  unfold partQ
  rw [if_neg (by decide), if_neg (by decide), if_pos rfl]
theorem part_sq {n : Nat} (hn : n ≤ 64) {l : List NodeG} {r : List W} (hl : l.length = n) (k : Int) : Sq n (partG l r k) := by
  unfold partG; rw [hl]; exact Sq.mk hn _
theorem where_sq {n : Nat} (hn : n ≤ 64) {l : List NodeG} {r : List W} {q : NodeG → NodeG → Bool} (hr : Sq n r) : Sq n (whereG l q r) := by
  unfold whereG; rw [hr.len]; exact Sq.mk hn _
theorem hasN_part {n : Nat} (hn : n ≤ 64) {l : List NodeG} {r : List W} (hl : l.length = n) {k : Int} {i j : Nat} (hi : i < n) (hj : j < n) : hasN (partG l r k) i j = (hasN r i j && partQ k (l.getD i default) (l.getD j default)) := by
  unfold partG; rw [hl, hasN_mk hn]; simp [hi, hj]
theorem hasN_where {n : Nat} (hn : n ≤ 64) {l : List NodeG} {r : List W} {q : NodeG → NodeG → Bool} (hr : Sq n r) {i j : Nat} (hi : i < n) (hj : j < n) : hasN (whereG l q r) i j = (hasN r i j && q (l.getD i default) (l.getD j default)) := by
  unfold whereG; rw [hr.len, hasN_mk hn]; simp [hi, hj]
theorem part_int {n : Nat} (hn : n ≤ 64) {l : List NodeG} {r : List W} (hl : l.length = n) (hr : Sq n r) : partG l r 2 = lay2 qMinus r (whereG l apartQ r) := by
  refine (part_sq hn hl 2).ext (Sq.lay2 hr.len (where_sq hn hr).len hn) fun i k hi hk => ?_
  rw [hasN_part hn hl hi hk, hasN_lay2 rfl, hasN_where hn hr hi hk]
  show (_ && !apartQ _ _) = (hasN r i k && !_)
  cases hasN r i k <;> simp
theorem Sq.get {n : Nat} (hn : n ≤ 64) {r : List W} (hr : Sq n r) {i k : Nat} (hi : i < n) : (r.getD i 0#64).getLsbD k = hasN r i k := by
  conv => lhs; rw [hr.eq]
  rw [mkR_get hi]
  by_cases h : k < n
  · rw [decide_eq_true h, decide_eq_true (show k < 64 by omega)]; rfl
  · rw [decide_eq_false h, hasN_off (by unfold szR; rw [hr.len]; omega)]; rfl
theorem keep_eq {n : Nat} (hn : n ≤ 64) {r : List W} (hr : Sq n r) (a b : W) : keepG r a b = mkR n fun i k => a.getLsbD i && (hasN r i k && b.getLsbD k) := by
  refine mkR_ext (by rw [keepG_len, hr.len]) fun i k hi hk => ?_
  unfold keepG
  rw [mapW_get (by rw [hr.len]; exact hi)]
  cases ha : a.getLsbD i
  · simp
  · rw [if_pos rfl, BitVec.getLsbD_and, hr.get hn hi]
    by_cases h : k < n
    · simp [h]
    · rw [decide_eq_false h, hasN_off (by unfold szR; rw [hr.len]; omega)]; rfl
theorem kindW_get {n : Nat} (hn : n ≤ 64) {l : List NodeG} {q : Int} {i : Nat} (hi : i < n) : (kindW l q n).getLsbD i = decide ((l.getD i default).kd = q) := by
  unfold kindW
  rw [get_ofB]
  simp [hi, show i < 64 by omega]
theorem part_keep {n : Nat} (hn : n ≤ 64) {l : List NodeG} {r : List W} (hl : l.length = n) (hr : Sq n r) {k a b : Int} (hq : ∀ x y, partQ k x y = (decide (x.kd = a) && decide (y.kd = b))) : partG l r k = keepG r (kindW l a n) (kindW l b n) := by
  rw [keep_eq hn hr]
  unfold partG
  rw [hl]
  refine Z4h fun i j hi hj => ?_
  rw [kindW_get hn hi, kindW_get hn hj, hq]
  cases hasN r i j <;> simp
theorem part_rr {n : Nat} (hn : n ≤ 64) {l : List NodeG} {r : List W} (hl : l.length = n) (hr : Sq n r) : partG l r 4 = keepG r (kindW l 1 n) (kindW l 1 n) := part_keep hn hl hr fun x y => by simp [partQ]
theorem part_rw {n : Nat} (hn : n ≤ 64) {l : List NodeG} {r : List W} (hl : l.length = n) (hr : Sq n r) : partG l r 5 = keepG r (kindW l 1 n) (kindW l 2 n) := part_keep hn hl hr fun x y => by simp [partQ]
theorem part_wr {n : Nat} (hn : n ≤ 64) {l : List NodeG} {r : List W} (hl : l.length = n) (hr : Sq n r) : partG l r 6 = keepG r (kindW l 2 n) (kindW l 1 n) := part_keep hn hl hr fun x y => by simp [partQ]
theorem part_ww {n : Nat} (hn : n ≤ 64) {l : List NodeG} {r : List W} (hl : l.length = n) (hr : Sq n r) : partG l r 7 = keepG r (kindW l 2 n) (kindW l 2 n) := part_keep hn hl hr fun x y => by simp [partQ]
/-! ### A fitted execution as a model -/
def mgR (x : XG) : MG where
  nodes := x.nodes
  nf := false
  xn := []
  xf := false
  po := x.po.1
  rf := x.rf.1
  co := x.co.1
  fr := x.fr.1
  addr := x.addr.1
  data := x.data.1
  ctrl := x.ctrl.1
  fenced := x.fenced.1
  sync := x.sync.1
  lwsync := x.lwsync.1
  pairs := x.pairs.1
  read := kindW x.nodes 1 x.nodes.length
  write := kindW x.nodes 2 x.nodes.length
/-! ### Step by step, or all at once: the same in the end -/
structure P4.Le (s t : P4) : Prop where
  ii : ∀ i k, hasN s.ii i k = true → hasN t.ii i k = true
  ci : ∀ i k, hasN s.ci i k = true → hasN t.ci i k = true
  ic : ∀ i k, hasN s.ic i k = true → hasN t.ic i k = true
  cc : ∀ i k, hasN s.cc i k = true → hasN t.cc i k = true
theorem P4.Le.refl (s : P4) : s.Le s := ⟨fun _ _ h => h, fun _ _ h => h, fun _ _ h => h, fun _ _ h => h⟩
theorem P4.Le.eq {n : Nat} {s t : P4} (hs : s.Ok n) (ht : t.Ok n) (h : s.Le t) (h' : t.Le s) : s = t := by
  have e1 : s.ii = t.ii := hs.ii.ext ht.ii fun i k _ _ => Bool.eq_iff_iff.2 ⟨h.ii i k, h'.ii i k⟩
  have e2 : s.ci = t.ci := hs.ci.ext ht.ci fun i k _ _ => Bool.eq_iff_iff.2 ⟨h.ci i k, h'.ci i k⟩
  have e3 : s.ic = t.ic := hs.ic.ext ht.ic fun i k _ _ => Bool.eq_iff_iff.2 ⟨h.ic i k, h'.ic i k⟩
  have e4 : s.cc = t.cc := hs.cc.ext ht.cc fun i k _ _ => Bool.eq_iff_iff.2 ⟨h.cc i k, h'.cc i k⟩
  cases s; cases t; simp_all
theorem or_le {l l' : List (List W)} (h : ∀ r ∈ l, ∃ r' ∈ l', ∀ i k, hasN r i k = true → hasN r' i k = true) (i k : Nat) (hh : hasN (orL l) i k = true) : hasN (orL l') i k = true := by
  rw [hasN_orL, List.any_eq_true] at hh ⊢
  obtain ⟨r, h1, h2⟩ := hh
  obtain ⟨r', h3, h4⟩ := h r h1
  exact ⟨r', h3, h4 i k h2⟩
theorem then_le {a b a' b' : List W} (h1 : ∀ i k, hasN a i k = true → hasN a' i k = true) (h2 : ∀ i k, hasN b i k = true → hasN b' i k = true) (i k : Nat) (h : hasN (thenG a b) i k = true) : hasN (thenG a' b') i k = true := by
  rw [hasN_then, thenP_iff] at h ⊢
  obtain ⟨j, h3, h4⟩ := h
  exact ⟨j, h1 _ _ h3, h2 _ _ h4⟩
attribute [local irreducible] orL thenG lay2 whereG keepG mkR cntR partG
theorem or_le3 {a b c a' b' c' : List W} (h1 : ∀ i k, hasN a i k = true → hasN a' i k = true) (h2 : ∀ i k, hasN b i k = true → hasN b' i k = true) (h3 : ∀ i k, hasN c i k = true → hasN c' i k = true) :
    ∀ i k, hasN (orL [a, b, c]) i k = true → hasN (orL [a', b', c']) i k = true :=
  or_le fun r hr => by
    simp only [List.mem_cons, List.not_mem_nil, or_false] at hr
    rcases hr with rfl | rfl | rfl
    · exact ⟨a', by simp, h1⟩
    · exact ⟨b', by simp, h2⟩
    · exact ⟨c', by simp, h3⟩
theorem or_le4 {a b c d a' b' c' d' : List W} (h1 : ∀ i k, hasN a i k = true → hasN a' i k = true) (h2 : ∀ i k, hasN b i k = true → hasN b' i k = true) (h3 : ∀ i k, hasN c i k = true → hasN c' i k = true) (h4 : ∀ i k, hasN d i k = true → hasN d' i k = true) :
    ∀ i k, hasN (orL [a, b, c, d]) i k = true → hasN (orL [a', b', c', d']) i k = true :=
  or_le fun r hr => by
    simp only [List.mem_cons, List.not_mem_nil, or_false] at hr
    rcases hr with rfl | rfl | rfl | rfl
    · exact ⟨a', by simp, h1⟩
    · exact ⟨b', by simp, h2⟩
    · exact ⟨c', by simp, h3⟩
    · exact ⟨d', by simp, h4⟩
theorem or_le5 {a b c d e a' b' c' d' e' : List W} (h1 : ∀ i k, hasN a i k = true → hasN a' i k = true) (h2 : ∀ i k, hasN b i k = true → hasN b' i k = true) (h3 : ∀ i k, hasN c i k = true → hasN c' i k = true) (h4 : ∀ i k, hasN d i k = true → hasN d' i k = true) (h5 : ∀ i k, hasN e i k = true → hasN e' i k = true) :
    ∀ i k, hasN (orL [a, b, c, d, e]) i k = true → hasN (orL [a', b', c', d', e']) i k = true :=
  or_le fun r hr => by
    simp only [List.mem_cons, List.not_mem_nil, or_false] at hr
    rcases hr with rfl | rfl | rfl | rfl | rfl
    · exact ⟨a', by simp, h1⟩
    · exact ⟨b', by simp, h2⟩
    · exact ⟨c', by simp, h3⟩
    · exact ⟨d', by simp, h4⟩
    · exact ⟨e', by simp, h5⟩
theorem stepP_le {s t : P4} (h : s.Le t) : (stepP s).Le (stepP t) where
  ii := or_le4 h.ii h.ci (then_le h.ic h.ci) (then_le h.ii h.ii)
  ci := or_le3 h.ci (then_le h.ci h.ii) (then_le h.cc h.ci)
  ic := or_le5 h.ic h.ii h.cc (then_le h.ic h.cc) (then_le h.ii h.ic)
  cc := or_le4 h.cc h.ci (then_le h.ci h.ic) (then_le h.cc h.cc)
def rII (s : P4) : List W := orL [s.ii, s.ci, thenG s.ic s.ci, thenG s.ii s.ii]
def rCI (s : P4) : List W := orL [s.ci, thenG s.ci (rII s), thenG s.cc s.ci]
def rIC (s : P4) : List W := orL [s.ic, rII s, s.cc, thenG s.ic s.cc, thenG (rII s) s.ic]
def rCC (s : P4) : List W := orL [s.cc, rCI s, thenG (rCI s) (rIC s), thenG s.cc s.cc]
/-- One round of the reference: each rule sees what the rules ahead of it found. -/
def stepR (s : P4) : P4 := ⟨rII s, rCI s, rIC s, rCC s⟩
theorem stepR_ok {n : Nat} (hn : n ≤ 64) {s : P4} (h : s.Ok n) : (stepR s).Ok n := by
  have h1 : Sq n (rII s) := Sq.or4 hn h.ii.len h.ci.len (then_len hn h.ic h.ci) (then_len hn h.ii h.ii)
  have h2 : Sq n (rCI s) := Sq.or3 hn h.ci.len (then_len hn h.ci h1) (then_len hn h.cc h.ci)
  have h3 : Sq n (rIC s) := Sq.or5 hn h.ic.len h1.len h.cc.len (then_len hn h.ic h.cc) (then_len hn h1 h.ic)
  exact ⟨h1, h2, h3, Sq.or4 hn h.cc.len h2.len (then_len hn h2 h3) (then_len hn h.cc h.cc)⟩
theorem stepR_more {n : Nat} (hn : n ≤ 64) {s : P4} (h : s.Ok n) (hne : stepR s ≠ s) : cnt4 s < cnt4 (stepR s) := by
  have h' := stepR_ok hn h
  have m1 : cntR s.ii ≤ cntR (stepR s).ii := cntR_mono fun i k => orL_head
  have m2 : cntR s.ci ≤ cntR (stepR s).ci := cntR_mono fun i k => orL_head
  have m3 : cntR s.ic ≤ cntR (stepR s).ic := cntR_mono fun i k => orL_head
  have m4 : cntR s.cc ≤ cntR (stepR s).cc := cntR_mono fun i k => orL_head
  by_cases e1 : (stepR s).ii = s.ii
  · by_cases e2 : (stepR s).ci = s.ci
    · by_cases e3 : (stepR s).ic = s.ic
      · by_cases e4 : (stepR s).cc = s.cc
        · exact absurd (by cases s; cases hs : stepR _; simp_all) hne
        · have := cntR_lt h.cc h'.cc (fun i k => orL_head) e4
          unfold cnt4; omega
      · have := cntR_lt h.ic h'.ic (fun i k => orL_head) e3
        unfold cnt4; omega
    · have := cntR_lt h.ci h'.ci (fun i k => orL_head) e2
      unfold cnt4; omega
  · have := cntR_lt h.ii h'.ii (fun i k => orL_head) e1
    unfold cnt4; omega
def limR (s : P4) : P4 := fixF stepR 16385 s
theorem limR_step {n : Nat} (hn : n ≤ 64) {s : P4} (h : s.Ok n) : limR s = limR (stepR s) :=
  fixF_step (Inv := P4.Ok n) (μ := cnt4) (B := 16384) (fun s hs => stepR_ok hn hs) (fun s _ => cnt4_le s) (fun s hs hne => stepR_more hn hs hne) h
theorem limR_fix {n : Nat} (hn : n ≤ 64) {s : P4} (h : s.Ok n) : stepR (limR s) = limR s :=
  fixF_fix (Inv := P4.Ok n) (μ := cnt4) (B := 16384) (fun s hs => stepR_ok hn hs) (fun s _ => cnt4_le s) (fun s hs hne => stepR_more hn hs hne) _ _ h (by have := cnt4_le s; omega)
theorem limR_ok {n : Nat} (hn : n ≤ 64) {s : P4} (h : s.Ok n) : (limR s).Ok n := fixF_keep (Q := P4.Ok n) (fun s hs => stepR_ok hn hs) _ _ h
theorem limP_ok {n : Nat} (hn : n ≤ 64) {s : P4} (h : s.Ok n) : (limP s).Ok n := fixF_keep (Q := P4.Ok n) (fun s hs => stepP_ok hn hs) _ _ h
theorem stepR_end {s : P4} (h : stepR s = s) : stepP s = s := by
  have e1 : rII s = s.ii := congrArg P4.ii h
  have e2 : rCI s = s.ci := congrArg P4.ci h
  have e3 : rIC s = s.ic := congrArg P4.ic h
  have e4 : rCC s = s.cc := congrArg P4.cc h
  have f2 := e2; have f3 := e3; have f4 := e4
  unfold rCI at f2; rw [e1] at f2
  unfold rIC at f3; rw [e1] at f3
  unfold rCC at f4; rw [e2, e3] at f4
  have f1 := e1
  unfold rII at f1
  unfold stepP
  rw [f1, f2, f3, f4]
theorem limP_above {s L : P4} (hs : s.Le L) (hL : stepP L = L) : (limP s).Le L :=
  fixF_keep (Q := fun (t : P4) => t.Le L) (fun t ht => by have := stepP_le ht; rwa [hL] at this) _ _ hs
theorem stepR_le {s L : P4} (hs : s.Le L) (hL : stepP L = L) : (stepR s).Le L := by
  have g := stepP_le hs
  rw [hL] at g
  have l1 : ∀ i k, hasN (rII s) i k = true → hasN L.ii i k = true := fun i k h => g.ii i k h
  have t : ∀ {a : List W} {b : List W}, a = b → ∀ i k, hasN a i k = true → hasN b i k = true := fun e i k h => by rw [← e]; exact h
  have l2 : ∀ i k, hasN (rCI s) i k = true → hasN L.ci i k = true := fun i k h => t (congrArg P4.ci hL) i k (or_le3 hs.ci (then_le hs.ci l1) (then_le hs.cc hs.ci) i k h)
  have l3 : ∀ i k, hasN (rIC s) i k = true → hasN L.ic i k = true := fun i k h => t (congrArg P4.ic hL) i k (or_le5 hs.ic l1 hs.cc (then_le hs.ic hs.cc) (then_le l1 hs.ic) i k h)
  have l4 : ∀ i k, hasN (rCC s) i k = true → hasN L.cc i k = true := fun i k h => t (congrArg P4.cc hL) i k (or_le4 hs.cc l2 (then_le l2 l3) (then_le hs.cc hs.cc) i k h)
  exact ⟨l1, l2, l3, l4⟩
theorem limR_above {s L : P4} (hs : s.Le L) (hL : stepP L = L) : (limR s).Le L := fixF_keep (Q := fun (t : P4) => t.Le L) (fun t ht => stepR_le ht hL) _ _ hs
theorem step_up (s : P4) : s.Le (stepP s) := ⟨fun i k => orL_head, fun i k => orL_head, fun i k => orL_head, fun i k => orL_head⟩
theorem stepR_up (s : P4) : s.Le (stepR s) := ⟨fun i k => orL_head, fun i k => orL_head, fun i k => orL_head, fun i k => orL_head⟩
theorem P4.Le.trans {a b c : P4} (h : a.Le b) (h' : b.Le c) : a.Le c := ⟨fun i k e => h'.ii i k (h.ii i k e), fun i k e => h'.ci i k (h.ci i k e), fun i k e => h'.ic i k (h.ic i k e), fun i k e => h'.cc i k (h.cc i k e)⟩
theorem limP_up (s : P4) : s.Le (limP s) := fixF_keep (Q := fun (t : P4) => s.Le t) (fun t ht => ht.trans (step_up t)) _ _ (P4.Le.refl s)
theorem limR_up (s : P4) : s.Le (limR s) := fixF_keep (Q := fun (t : P4) => s.Le t) (fun t ht => ht.trans (stepR_up t)) _ _ (P4.Le.refl s)
theorem limR_limP {n : Nat} (hn : n ≤ 64) {s : P4} (h : s.Ok n) : limR s = limP s :=
  P4.Le.eq (limR_ok hn h) (limP_ok hn h) (limR_above (limP_up s) (limP_fix hn h)) (limP_above (limR_up s) (stepR_end (limR_fix hn h)))
end Go.Ago

/- The reference of layer 19: Ppo. Conditions: none. -/
set_option maxRecDepth 100000
set_option linter.unusedSimpArgs false
set_option linter.unusedVariables false
namespace Go.Ago
attribute [local irreducible] orL thenG lay2 whereG keepG mkR cntR partG vck
def sp_PpoR : Sp := ⟨XG, fun x => [x.av], fun x => .data (mgR x).Ok (.d (.list ((mgR x).ppo.map rowW) false)) false⟩
theorem at_PpoR (x : XG) : sp_PpoR.at [x.av] = .data (mgR x).Ok (.d (.list ((mgR x).ppo.map rowW) false)) false :=
  Sp.at_enc (s := sp_PpoR) (fun (x y : XG) h => by
    simp only [sp_PpoR, List.cons.injEq, and_true] at h
    exact XG.av_inj _ _ h) x
theorem part_64 {l : List NodeG} {r : List W} {k : Int} (h : l.length ≤ 64) : ((partG l r k).length ≤ 64) = True := eqT (by rw [partG_len]; exact h)
theorem part_M {l : List NodeG} {r : List W} {k : Int} (h : l.length ≤ 64) : ((partG l r k).length ≤ maxLen) = True := eqT (le_M (by rw [partG_len]; exact h))
set_option maxHeartbeats 4000000 in
theorem body_ref19_Ppo {T : Tab} {n1 n2 n3 n4 n5 : Nat} (k1 : Knows T n1 sp_sameW) (k2 : Knows T n2 sp_part) (k3 : Knows T n3 sp_or19) (k4 : Knows T n4 sp_and19) (k5 : Knows T n5 sp_then19) : sp_PpoR.Body T V_ref19_Ppo (L_ref19_Ppo n1 n2 n3 n4 n5) R_ref19_Ppo := by
  have F1 := k1.F; have G1 := k1.G; have F2 := k2.F; have G2 := k2.G; have F3 := k3.F; have G3 := k3.G; have F4 := k4.F; have G4 := k4.G; have F5 := k5.F; have G5 := k5.G
  rintro (x : XG) hm
  have hm : (mgR x).Ok := hm
  refine ⟨rfl, ?_⟩
  unfold V_ref19_Ppo L_ref19_Ppo R_ref19_Ppo
  simp (maxSteps := 3000000) only [↓Z1d, ↓Z2b, ↓Z1t, ↓Z05, ↓Z2q, ↓Z2k, Z49, Z4a, ↓Z20, ↓Z1c, ↓Z0i, ↓Z1u, ↓Z12, ↓Z1z, ↓Z2z, ↓Z30, ↓Z23, ↓Z1s, ↓Z2d, ↓Z28, ↓Z1y, ↓Z3m, ↓Z46, ↓Z3e, ↓Z3g, ↓Z3f, ↓Z3v, ↓Z3q, ↓Z44, ↓Z0j, ↓Z0b, ↓Z16, ↓Z0h, ↓Z1g, Z4d, Z0a, Z18, Z32, Z1a, Z35, evN, Z2s, Z1x, Z34, Z41, Z1w, Z19, Z1v, Z2p, Z2a, Z29, Z1e, Z2x, evT, Opd.ev, Z04, Z01, Z33, Z3x, Z3o, Z26, Z1f, Z2w, Z2y, Z3c, Z22, Z14, Z3r, LOp.isNew, State.prune, Z3s, Z3j, AV.leaf, Heap.at, Z0g, Z08, Z1m, Z0e, Z02, Z4x, Z4t, rowW, Z24, Z2t, Z1p, Z1b, rowB, Z2v, Z2u, rowN, Z4b, Z3h, Z17, Z15, w_or, Z4r, Z2r, Z45, Z50, Z42, Z4s, Z47, Z4z, Z4y, Z4u, Z4v, Z4w, w_eq, Bool.decide_eq_true, Z3b, Z3a, Z39, Z2f, Z1h, Z03, Z09, Z11, Z00, Z21, rowI, RatG.row, LocG.row, ActG.row, StepG.row, StampG.row, ActG.av, ActG.eta, RatG.eta, LocG.eta, beq_true, beq_false, Z2j, Z2o, Z2c, Z2l, Z10, Z0n, Z0y, Z0z, Z0m, Z0l, Z0c, List.length_set, List.length_replicate, Z06, Int.reduceToNat, Z4o, Z27, Z4e, Src.all, Src.len, Src.leaf, Src.leafN, Z37, Z3z, Z4k, Z0k, Z0o, Z0p, Z0q, Z0r, Z0s, Z0t, Z0u, Z4m, drows, evMk, List.length_map, Z1r, Z1q, List.take_length, List.take_left, List.length_append, Nat.le_add_right, ite_self, List.take_of_length_le, Z38, Z4j, Z3w, Option.isSome_none, Option.isSome_some, Nat.sub_zero, Z4i, Z4p, Z4g, evUn, Z0v, Z13, binT, binQ, chk, Z3t, List.contains_cons, List.contains_nil, Bool.or_false, Bool.false_or, Bool.and_self, resQ, resV, resT, Z4q, Z2e, Z43, Z3l, fnOf, Z3k, isD, HO.drow, Z4f, Z3u, evEq, eqV, eqK, eqC1, Z40, Z3y, Z36, Z31, Z48, Z3d, Z2i, Z1k, Z2h, Z1j, Z2g, Z1i, Z1l, Z0w, Z0x, Z0d, List.mem_cons, List.not_mem_nil, or_false, forall_eq, putRow, Z3n, Z25, RetS, RetF, RetD, AV.frz, AV.frzL, AV.freshP, AV.freshL, DV.less, Z2m, Z1n, Z2n, Z1o, Z0f, Z07, Option.some.injEq, AV.tup.injEq, AV.agg.injEq, List.cons.injEq, DV.list.injEq, List.isEmpty_nil, Nat.le_refl, AV.d.injEq, DV.int.injEq, DV.bool.injEq, ↓reduceIte, Nat.reduceEqDiff, Nat.reduceAdd, Nat.reduceBEq, List.length_cons, List.length_nil, List.replicate_succ, List.replicate_zero, List.nil_append, List.cons_append, List.append_nil, List.foldl_cons, List.foldl_nil, List.map_cons, List.map_nil, List.all_cons, List.all_nil, List.set_cons_zero, List.set_cons_succ, List.getD_cons_zero, List.getD_cons_succ, List.drop_zero, List.drop_succ_cons, List.take_succ_cons, List.take_zero, List.flatten_cons, List.flatten_nil, Bool.true_and, Bool.and_true, Bool.not_true, Bool.not_false, true_and, and_true, true_or, or_true, Option.bind_some, Option.map_some, decide_true, decide_false, beq_self_eq_true, true_implies, false_implies, implies_true, not_true_eq_false, not_false_eq_true, and_self, Bool.and_false, Bool.false_and, Nat.reduceLT, Nat.reduceLeDiff, List.reverse_cons, List.reverse_nil, Nat.zero_add, Nat.add_zero, Bool.false_eq_true, List.getElem?_cons_zero, Nat.reduceMul, Nat.mul_one, sp_PpoR, XG.av, lsX, F1, G1, F2, G2, F3, G3, F4, G4, F5, G5, at_sameW, at_part, at_or2R, at_or3R, at_or4R, at_or5R, at_then2R, at_then3R, at_then4R, at_and19]
  have hn : x.nodes.length ≤ 64 := hm.n
  have w1 : Sq x.nodes.length x.po.1 := hm.po
  have w2 : Sq x.nodes.length x.rf.1 := hm.rf
  have w3 : Sq x.nodes.length x.co.1 := hm.co
  have w4 : Sq x.nodes.length x.fr.1 := hm.fr
  have w5 : Sq x.nodes.length x.addr.1 := hm.addr
  have w6 : Sq x.nodes.length x.data.1 := hm.data
  have w7 : Sq x.nodes.length x.ctrl.1 := hm.ctrl
  have w8 : Sq x.nodes.length x.fenced.1 := hm.fenced
  have hst : P4.mk (orL [lay2 qOr x.addr.1 x.data.1, partG x.nodes x.rf.1 2, lay2 (layQ 1) (partG x.nodes x.po.1 3) (thenG (partG x.nodes x.fr.1 1) (partG x.nodes x.rf.1 1))])
      (lay2 qOr x.fenced.1 (lay2 (layQ 1) (partG x.nodes x.po.1 3) (thenG (partG x.nodes x.co.1 1) (partG x.nodes x.rf.1 1))))
      (List.replicate x.nodes.length 0#64) (orL [lay2 qOr x.addr.1 x.data.1, partG x.nodes x.po.1 3, x.ctrl.1, thenG x.addr.1 x.po.1]) = (mgR x).start := by
    rw [part_int hn rfl w2, part_loc rfl w1, part_ext rfl w4, part_ext rfl w2, part_ext rfl w3, lay2_and, lay2_and, ← or2_eq x.fenced.1]
    rfl
  generalize hs0 : (mgR x).start = s0 at hst
  have hS : s0.Ok x.nodes.length := by
    rw [← hst]
    exact {
      ii := Sq.or3 hn (Sq.lay2 w5.len w6.len hn).len (part_sq hn rfl 2).len (Sq.lay2 (part_sq hn rfl 3).len (Sq.thenG (part_sq hn rfl 1).len (part_sq hn rfl 1).len hn).len hn).len
      ci := Sq.lay2 w8.len (Sq.lay2 (part_sq hn rfl 3).len (Sq.thenG (part_sq hn rfl 1).len (part_sq hn rfl 1).len hn).len hn).len hn
      ic := by
        show Sq _ (List.replicate x.nodes.length 0#64)
        rw [mkR_zero (p := fun _ _ => false) (fun _ _ _ _ => rfl)]
        exact Sq.mk hn _
      cc := Sq.or4 hn (Sq.lay2 w5.len w6.len hn).len (part_sq hn rfl 3).len w7.len (Sq.thenG w5.len w1.len hn).len }
  simp only [lay2_64, lay2_M, thenG_64, thenG_M, part_64 hn, part_M hn, orL_64, orL_M, w1.len, w2.len, w3.len, w4.len, w5.len, w6.len, w7.len, w8.len, eqT hn, eqT (le_M hn), Nat.le_refl, and_true, true_and, Int.reduceLE]
  refine ⟨⟨by omega, by omega, roomy_of (by omega) (by omega)⟩, ?_⟩
  refine Loop.ices [22] (Nat.zero_le _) ?_
  simp only [↓Z1d, ↓Z2b, ↓Z1t, ↓Z05, ↓Z2q, ↓Z2k, Z49, Z4a, ↓Z20, ↓Z1c, ↓Z0i, ↓Z1u, ↓Z12, ↓Z1z, ↓Z2z, ↓Z30, ↓Z23, ↓Z1s, ↓Z2d, ↓Z28, ↓Z1y, ↓Z3m, ↓Z46, ↓Z3e, ↓Z3g, ↓Z3f, ↓Z3v, ↓Z3q, ↓Z44, ↓Z0j, ↓Z0b, ↓Z16, ↓Z0h, ↓Z1g, Z4d, Z0a, Z18, Z32, Z1a, Z35, evN, Z2s, Z1x, Z34, Z41, Z1w, Z19, Z1v, Z2p, Z2a, Z29, Z1e, Z2x, evT, Opd.ev, Z04, Z01, Z33, Z3x, Z3o, Z26, Z1f, Z2w, Z2y, Z3c, Z22, Z14, Z3r, LOp.isNew, State.prune, Z3s, Z3j, AV.leaf, Heap.at, Z0g, Z08, Z1m, Z0e, Z02, Z4x, Z4t, rowW, Z24, Z2t, Z1p, Z1b, rowB, Z2v, Z2u, rowN, Z4b, Z3h, Z17, Z15, w_or, Z4r, Z2r, Z45, Z50, Z42, Z4s, Z47, Z4z, Z4y, Z4u, Z4v, Z4w, w_eq, Bool.decide_eq_true, Z3b, Z3a, Z39, Z2f, Z1h, Z03, Z09, Z11, Z00, Z21, rowI, RatG.row, LocG.row, ActG.row, StepG.row, StampG.row, ActG.av, ActG.eta, RatG.eta, LocG.eta, beq_true, beq_false, Z2j, Z2o, Z2c, Z2l, Z10, Z0n, Z0y, Z0z, Z0m, Z0l, Z0c, List.length_set, List.length_replicate, Z06, Int.reduceToNat, Z4o, Z27, Z4e, Src.all, Src.len, Src.leaf, Src.leafN, Z37, Z3z, Z4k, Z0k, Z0o, Z0p, Z0q, Z0r, Z0s, Z0t, Z0u, Z4m, drows, evMk, List.length_map, Z1r, Z1q, List.take_length, List.take_left, List.length_append, Nat.le_add_right, ite_self, List.take_of_length_le, Z38, Z4j, Z3w, Option.isSome_none, Option.isSome_some, Nat.sub_zero, Z4i, Z4p, Z4g, evUn, Z0v, Z13, binT, binQ, chk, Z3t, List.contains_cons, List.contains_nil, Bool.or_false, Bool.false_or, Bool.and_self, resQ, resV, resT, Z4q, Z2e, Z43, Z3l, fnOf, Z3k, isD, HO.drow, Z4f, Z3u, evEq, eqV, eqK, eqC1, Z40, Z3y, Z36, Z31, Z48, Z3d, Z2i, Z1k, Z2h, Z1j, Z2g, Z1i, Z1l, Z0w, Z0x, Z0d, List.mem_cons, List.not_mem_nil, or_false, forall_eq, putRow, Z3n, Z25, RetS, RetF, RetD, AV.frz, AV.frzL, AV.freshP, AV.freshL, DV.less, Z2m, Z1n, Z2n, Z1o, Z0f, Z07, Option.some.injEq, AV.tup.injEq, AV.agg.injEq, List.cons.injEq, DV.list.injEq, List.isEmpty_nil, Nat.le_refl, AV.d.injEq, DV.int.injEq, DV.bool.injEq, ↓reduceIte, Nat.reduceEqDiff, Nat.reduceAdd, Nat.reduceBEq, List.length_cons, List.length_nil, List.replicate_succ, List.replicate_zero, List.nil_append, List.cons_append, List.append_nil, List.foldl_cons, List.foldl_nil, List.map_cons, List.map_nil, List.all_cons, List.all_nil, List.set_cons_zero, List.set_cons_succ, List.getD_cons_zero, List.getD_cons_succ, List.drop_zero, List.drop_succ_cons, List.take_succ_cons, List.take_zero, List.flatten_cons, List.flatten_nil, Bool.true_and, Bool.and_true, Bool.not_true, Bool.not_false, true_and, and_true, true_or, or_true, Option.bind_some, Option.map_some, decide_true, decide_false, beq_self_eq_true, true_implies, false_implies, implies_true, not_true_eq_false, not_false_eq_true, and_self, Bool.and_false, Bool.false_and, Nat.reduceLT, Nat.reduceLeDiff, List.reverse_cons, List.reverse_nil, Nat.zero_add, Nat.add_zero, Bool.false_eq_true, List.getElem?_cons_zero, Nat.reduceMul, Nat.mul_one, State.ices, State.ice, HO.data, iceEnv, iceHeap, HO.ice, AV.ice, AV.iceL]
  refine Loop.fam [3, 7, 8, 9, 10] (fun s : P4 => ⟨[(3, .d (.list (x.nodes.map ActG.row) x.nf)), (7, .d (.list (s.ii.map rowW) false)), (8, .d (.list (s.ci.map rowW) false)), (9, .d (.list (s.cc.map rowW) false)), (10, .d (.list (s.ic.map rowW) false))], []⟩)
    (fun s => s.Ok x.nodes.length ∧ limR s = limR s0) (fun s => 16384 - cnt4 s) s0 [] (by simp) (by simp) (by rw [← hst]; simp only [State.can, AV.can, AV.canL, HO.can, Z3i, idx, Z04, Z01, Heap.at, Nat.reduceBEq, ↓reduceIte, Nat.reduceEqDiff, Option.getD_some, Option.map_some, List.map_cons, List.map_nil, List.getD_cons_zero, List.getD_cons_succ]) ⟨hS, rfl⟩ ?_
  rintro s ⟨hs, hl⟩
  simp (maxSteps := 3000000) only [↓Z1d, ↓Z2b, ↓Z1t, ↓Z05, ↓Z2q, ↓Z2k, Z49, Z4a, ↓Z20, ↓Z1c, ↓Z0i, ↓Z1u, ↓Z12, ↓Z1z, ↓Z2z, ↓Z30, ↓Z23, ↓Z1s, ↓Z2d, ↓Z28, ↓Z1y, ↓Z3m, ↓Z46, ↓Z3e, ↓Z3g, ↓Z3f, ↓Z3v, ↓Z3q, ↓Z44, ↓Z0j, ↓Z0b, ↓Z16, ↓Z0h, ↓Z1g, Z4d, Z0a, Z18, Z32, Z1a, Z35, evN, Z2s, Z1x, Z34, Z41, Z1w, Z19, Z1v, Z2p, Z2a, Z29, Z1e, Z2x, evT, Opd.ev, Z04, Z01, Z33, Z3x, Z3o, Z26, Z1f, Z2w, Z2y, Z3c, Z22, Z14, Z3r, LOp.isNew, State.prune, Z3s, Z3j, AV.leaf, Heap.at, Z0g, Z08, Z1m, Z0e, Z02, Z4x, Z4t, rowW, Z24, Z2t, Z1p, Z1b, rowB, Z2v, Z2u, rowN, Z4b, Z3h, Z17, Z15, w_or, Z4r, Z2r, Z45, Z50, Z42, Z4s, Z47, Z4z, Z4y, Z4u, Z4v, Z4w, w_eq, Bool.decide_eq_true, Z3b, Z3a, Z39, Z2f, Z1h, Z03, Z09, Z11, Z00, Z21, rowI, RatG.row, LocG.row, ActG.row, StepG.row, StampG.row, ActG.av, ActG.eta, RatG.eta, LocG.eta, beq_true, beq_false, Z2j, Z2o, Z2c, Z2l, Z10, Z0n, Z0y, Z0z, Z0m, Z0l, Z0c, List.length_set, List.length_replicate, Z06, Int.reduceToNat, Z4o, Z27, Z4e, Src.all, Src.len, Src.leaf, Src.leafN, Z37, Z3z, Z4k, Z0k, Z0o, Z0p, Z0q, Z0r, Z0s, Z0t, Z0u, Z4m, drows, evMk, List.length_map, Z1r, Z1q, List.take_length, List.take_left, List.length_append, Nat.le_add_right, ite_self, List.take_of_length_le, Z38, Z4j, Z3w, Option.isSome_none, Option.isSome_some, Nat.sub_zero, Z4i, Z4p, Z4g, evUn, Z0v, Z13, binT, binQ, chk, Z3t, List.contains_cons, List.contains_nil, Bool.or_false, Bool.false_or, Bool.and_self, resQ, resV, resT, Z4q, Z2e, Z43, Z3l, fnOf, Z3k, isD, HO.drow, Z4f, Z3u, evEq, eqV, eqK, eqC1, Z40, Z3y, Z36, Z31, Z48, Z3d, Z2i, Z1k, Z2h, Z1j, Z2g, Z1i, Z1l, Z0w, Z0x, Z0d, List.mem_cons, List.not_mem_nil, or_false, forall_eq, putRow, Z3n, Z25, RetS, RetF, RetD, AV.frz, AV.frzL, AV.freshP, AV.freshL, DV.less, Z2m, Z1n, Z2n, Z1o, Z0f, Z07, Option.some.injEq, AV.tup.injEq, AV.agg.injEq, List.cons.injEq, DV.list.injEq, List.isEmpty_nil, Nat.le_refl, AV.d.injEq, DV.int.injEq, DV.bool.injEq, ↓reduceIte, Nat.reduceEqDiff, Nat.reduceAdd, Nat.reduceBEq, List.length_cons, List.length_nil, List.replicate_succ, List.replicate_zero, List.nil_append, List.cons_append, List.append_nil, List.foldl_cons, List.foldl_nil, List.map_cons, List.map_nil, List.all_cons, List.all_nil, List.set_cons_zero, List.set_cons_succ, List.getD_cons_zero, List.getD_cons_succ, List.drop_zero, List.drop_succ_cons, List.take_succ_cons, List.take_zero, List.flatten_cons, List.flatten_nil, Bool.true_and, Bool.and_true, Bool.not_true, Bool.not_false, true_and, and_true, true_or, or_true, Option.bind_some, Option.map_some, decide_true, decide_false, beq_self_eq_true, true_implies, false_implies, implies_true, not_true_eq_false, not_false_eq_true, and_self, Bool.and_false, Bool.false_and, Nat.reduceLT, Nat.reduceLeDiff, List.reverse_cons, List.reverse_nil, Nat.zero_add, Nat.add_zero, Bool.false_eq_true, List.getElem?_cons_zero, Nat.reduceMul, Nat.mul_one, F1, G1, F2, G2, F3, G3, F4, G4, F5, G5, at_sameW, at_part, at_or2R, at_or3R, at_or4R, at_or5R, at_then2R, at_then3R, at_then4R, at_and19, Int.reduceLT, Int.reduceLE]
  have r1 : orL [s.ii, s.ci, thenG s.ic s.ci, thenG s.ii s.ii] = rII s := rfl
  simp only [r1]
  have r2 : orL [s.ci, thenG s.ci (rII s), thenG s.cc s.ci] = rCI s := rfl
  have r3 : orL [s.ic, rII s, s.cc, thenG s.ic s.cc, thenG (rII s) s.ic] = rIC s := rfl
  simp only [r2, r3]
  have r4 : orL [s.cc, rCI s, thenG (rCI s) (rIC s), thenG s.cc s.cc] = rCC s := rfl
  simp only [r4]
  have m1 : ((rII s).length ≤ 64) = True := orL_64 _
  have m2 : ((rCI s).length ≤ 64) = True := orL_64 _
  have m3 : ((rIC s).length ≤ 64) = True := orL_64 _
  have m1' : ((rII s).length ≤ maxLen) = True := orL_M _
  have m3' : ((rIC s).length ≤ maxLen) = True := orL_M _
  simp only [m1, m2, m3, m1', m3', thenG_64, part_64 hn, hs.ii.len, hs.ci.len, hs.ic.len, hs.cc.len, eqT hn, eqT (le_M hn), and_true, true_and, Int.reduceLT, Int.cast_ofNat_Int]
  have next : ∀ {S : State}, stepR s ≠ s → S.can [] [3, 7, 8, 9, 10] = ⟨[(3, .d (.list (x.nodes.map ActG.row) x.nf)), (7, .d (.list ((rII s).map rowW) false)), (8, .d (.list ((rCI s).map rowW) false)), (9, .d (.list ((rCC s).map rowW) false)), (10, .d (.list ((rIC s).map rowW) false))], []⟩ →
      Z3p [3, 7, 8, 9, 10] (fun s : P4 => ⟨[(3, .d (.list (x.nodes.map ActG.row) x.nf)), (7, .d (.list (s.ii.map rowW) false)), (8, .d (.list (s.ci.map rowW) false)), (9, .d (.list (s.cc.map rowW) false)), (10, .d (.list (s.ic.map rowW) false))], []⟩)
        (fun s => s.Ok x.nodes.length ∧ limR s = limR s0) (fun s => 16384 - cnt4 s) (16384 - cnt4 s) S := fun {S} hne h => by
    have h1 := stepR_more hn hs hne
    have h2 := cnt4_le (stepR s)
    exact Z3p.mk [] (stepR s) (by simp) (by simp) h ⟨stepR_ok hn hs, by rw [← limR_step hn hs]; exact hl⟩ (by omega)
  refine ⟨fun e1 => ⟨fun e2 => ⟨fun e3 => ⟨fun e4 => ?_, fun e4 => ?_⟩, fun e3 => ?_⟩, fun e2 => ?_⟩, fun e1 => ?_⟩
  · have he : stepR s = s := by
      have : stepR s = ⟨s.ii, s.ci, s.ic, s.cc⟩ := by
        unfold stepR; rw [← e1, ← e2, ← e3, ← e4]
      exact this
    have hq : (mgR x).ppo = lay2 qOr (keepG (limP s0).ii (kindW x.nodes 1 x.nodes.length) (kindW x.nodes 1 x.nodes.length)) (keepG (limP s0).ic (kindW x.nodes 1 x.nodes.length) (kindW x.nodes 2 x.nodes.length)) := by
      rw [← hs0]; rfl
    rw [← limR_limP hn hS, ← hl, show limR s = s from fixF_end he] at hq
    rw [← part_rr hn rfl hs.ii, ← part_rw hn rfl hs.ic] at hq
    rw [hq, ← e1, ← e3]
  · exact next (fun e => e4 (congrArg P4.cc e).symm) (by simp only [State.can, AV.can, AV.canL, HO.can, Z3i, idx, Z04, Z01, Heap.at, Nat.reduceBEq, ↓reduceIte, Nat.reduceEqDiff, Option.getD_some, Option.map_some, List.map_cons, List.map_nil, List.getD_cons_zero, List.getD_cons_succ])
  · exact next (fun e => e3 (congrArg P4.ic e).symm) (by simp only [State.can, AV.can, AV.canL, HO.can, Z3i, idx, Z04, Z01, Heap.at, Nat.reduceBEq, ↓reduceIte, Nat.reduceEqDiff, Option.getD_some, Option.map_some, List.map_cons, List.map_nil, List.getD_cons_zero, List.getD_cons_succ])
  · exact next (fun e => e2 (congrArg P4.ci e).symm) (by simp only [State.can, AV.can, AV.canL, HO.can, Z3i, idx, Z04, Z01, Heap.at, Nat.reduceBEq, ↓reduceIte, Nat.reduceEqDiff, Option.getD_some, Option.map_some, List.map_cons, List.map_nil, List.getD_cons_zero, List.getD_cons_succ])
  · exact next (fun e => e1 (congrArg P4.ii e).symm) (by simp only [State.can, AV.can, AV.canL, HO.can, Z3i, idx, Z04, Z01, Heap.at, Nat.reduceBEq, ↓reduceIte, Nat.reduceEqDiff, Option.getD_some, Option.map_some, List.map_cons, List.map_nil, List.getD_cons_zero, List.getD_cons_succ])
end Go.Ago

/- The reference of layer 19: Fitted, hb, Prop, self. Conditions: none. -/
set_option maxRecDepth 100000
set_option linter.unusedSimpArgs false
set_option linter.unusedVariables false
namespace Go.Ago
attribute [local irreducible] orL thenG lay2 whereG keepG mkR cntR partG starG vck
/-! ### Fitted -/
def fitted (x : XG) : XG where
  nodes := x.nodes.take x.n
  nf := false
  po := (fitR x.po.1 x.n, false)
  rf := (fitR x.rf.1 x.n, false)
  co := (fitR x.co.1 x.n, false)
  fr := (fitR x.fr.1 x.n, false)
  addr := (fitR x.addr.1 x.n, false)
  data := (fitR x.data.1 x.n, false)
  ctrl := (fitR x.ctrl.1 x.n, false)
  fenced := (fitR x.fenced.1 x.n, false)
  sync := (fitR x.sync.1 x.n, false)
  lwsync := (fitR x.lwsync.1 x.n, false)
  pairs := (fitR x.pairs.1 x.n, false)
def sp_Fitted : Sp := ⟨XG, fun x => [x.av], fun x => .data x.Ok (fitted x).av false⟩
theorem at_Fitted (x : XG) : sp_Fitted.at [x.av] = .data x.Ok (fitted x).av false :=
  Sp.at_enc (s := sp_Fitted) (fun (x y : XG) h => by
    simp only [sp_Fitted, List.cons.injEq, and_true] at h
    exact XG.av_inj _ _ h) x
set_option maxHeartbeats 4000000 in
theorem body_ref19_Fitted {T : Tab} {n1 : Nat} (k1 : Knows T n1 sp_Fit) : sp_Fitted.Body T V_ref19_Fitted (L_ref19_Fitted n1) R_ref19_Fitted := by
  have F1 := k1.F; have G1 := k1.G
  rintro (x : XG) hx
  have hx : x.Ok := hx
  refine ⟨rfl, ?_⟩
  unfold V_ref19_Fitted L_ref19_Fitted R_ref19_Fitted
  simp (maxSteps := 3000000) only [↓Z1d, ↓Z2b, ↓Z1t, ↓Z05, ↓Z2q, ↓Z2k, Z49, Z4a, ↓Z20, ↓Z1c, ↓Z0i, ↓Z1u, ↓Z12, ↓Z1z, ↓Z2z, ↓Z30, ↓Z23, ↓Z1s, ↓Z2d, ↓Z28, ↓Z1y, ↓Z3m, ↓Z46, ↓Z3e, ↓Z3g, ↓Z3f, ↓Z3v, ↓Z3q, ↓Z44, ↓Z0j, ↓Z0b, ↓Z16, ↓Z0h, ↓Z1g, Z4d, Z0a, Z18, Z32, Z1a, Z35, evN, Z2s, Z1x, Z34, Z41, Z1w, Z19, Z1v, Z2p, Z2a, Z29, Z1e, Z2x, evT, Opd.ev, Z04, Z01, Z33, Z3x, Z3o, Z26, Z1f, Z2w, Z2y, Z3c, Z22, Z14, Z3r, LOp.isNew, State.prune, Z3s, Z3j, AV.leaf, Heap.at, Z0g, Z08, Z1m, Z0e, Z02, Z4x, Z4t, rowW, Z24, Z2t, Z1p, Z1b, rowB, Z2v, Z2u, rowN, Z4b, Z3h, Z17, Z15, w_or, Z4r, Z2r, Z45, Z50, Z42, Z4s, Z47, Z4z, Z4y, Z4u, Z4v, Z4w, w_eq, Bool.decide_eq_true, Z3b, Z3a, Z39, Z2f, Z1h, Z03, Z09, Z11, Z00, Z21, rowI, RatG.row, LocG.row, ActG.row, StepG.row, StampG.row, ActG.av, ActG.eta, RatG.eta, LocG.eta, beq_true, beq_false, Z2j, Z2o, Z2c, Z2l, Z10, Z0n, Z0y, Z0z, Z0m, Z0l, Z0c, List.length_set, List.length_replicate, Z06, Int.reduceToNat, Z4o, Z27, Z4e, Src.all, Src.len, Src.leaf, Src.leafN, Z37, Z3z, Z4k, Z0k, Z0o, Z0p, Z0q, Z0r, Z0s, Z0t, Z0u, Z4m, drows, evMk, List.length_map, Z1r, Z1q, List.take_length, List.take_left, List.length_append, Nat.le_add_right, ite_self, List.take_of_length_le, Z38, Z4j, Z3w, Option.isSome_none, Option.isSome_some, Nat.sub_zero, Z4i, Z4p, Z4g, evUn, Z0v, Z13, binT, binQ, chk, Z3t, List.contains_cons, List.contains_nil, Bool.or_false, Bool.false_or, Bool.and_self, resQ, resV, resT, Z4q, Z2e, Z43, Z3l, fnOf, Z3k, isD, HO.drow, Z4f, Z3u, evEq, eqV, eqK, eqC1, Z40, Z3y, Z36, Z31, Z48, Z3d, Z2i, Z1k, Z2h, Z1j, Z2g, Z1i, Z1l, Z0w, Z0x, Z0d, List.mem_cons, List.not_mem_nil, or_false, forall_eq, putRow, Z3n, Z25, RetS, RetF, RetD, AV.frz, AV.frzL, AV.freshP, AV.freshL, DV.less, Z2m, Z1n, Z2n, Z1o, Z0f, Z07, Option.some.injEq, AV.tup.injEq, AV.agg.injEq, List.cons.injEq, DV.list.injEq, List.isEmpty_nil, Nat.le_refl, AV.d.injEq, DV.int.injEq, DV.bool.injEq, ↓reduceIte, Nat.reduceEqDiff, Nat.reduceAdd, Nat.reduceBEq, List.length_cons, List.length_nil, List.replicate_succ, List.replicate_zero, List.nil_append, List.cons_append, List.append_nil, List.foldl_cons, List.foldl_nil, List.map_cons, List.map_nil, List.all_cons, List.all_nil, List.set_cons_zero, List.set_cons_succ, List.getD_cons_zero, List.getD_cons_succ, List.drop_zero, List.drop_succ_cons, List.take_succ_cons, List.take_zero, List.flatten_cons, List.flatten_nil, Bool.true_and, Bool.and_true, Bool.not_true, Bool.not_false, true_and, and_true, true_or, or_true, Option.bind_some, Option.map_some, decide_true, decide_false, beq_self_eq_true, true_implies, false_implies, implies_true, not_true_eq_false, not_false_eq_true, and_self, Bool.and_false, Bool.false_and, Nat.reduceLT, Nat.reduceLeDiff, List.reverse_cons, List.reverse_nil, Nat.zero_add, Nat.add_zero, Bool.false_eq_true, List.getElem?_cons_zero, Nat.reduceMul, Nat.mul_one, sp_Fitted, XG.av, lsX, F1, G1, at_Fit]
  refine ⟨fun c => ?_, fun c => ?_⟩
  · have hn : x.n = 64 := by unfold XG.n; omega
    have hl : (List.take 64 x.nodes).length = 64 := by rw [List.length_take]; omega
    unfold fitted
    simp only [hn, hl, eqT hx.po, eqT hx.rf, eqT hx.co, eqT hx.fr, eqT hx.addr, eqT hx.data, eqT hx.ctrl, eqT hx.fenced, eqT hx.sync, eqT hx.lwsync, eqT hx.pairs, Nat.le_refl, and_true, true_and]
    omega
  · have hn : x.n = x.nodes.length := by unfold XG.n; omega
    have hl : (x.nodes.length ≤ 64) = True := eqT (by omega)
    unfold fitted
    simp only [hn, hl, List.take_length, eqT hx.po, eqT hx.rf, eqT hx.co, eqT hx.fr, eqT hx.addr, eqT hx.data, eqT hx.ctrl, eqT hx.fenced, eqT hx.sync, eqT hx.lwsync, eqT hx.pairs, Nat.le_refl, and_true, true_and]
/-! ### hb -/
def sp_hbR : Sp := ⟨XG, fun x => [x.av], fun x => .data (mgR x).Ok (.tup [.d (.list ((mgR x).hb.map rowW) false), .d (.list ((mgR x).fence.map rowW) false)]) false⟩
theorem at_hbR (x : XG) : sp_hbR.at [x.av] = .data (mgR x).Ok (.tup [.d (.list ((mgR x).hb.map rowW) false), .d (.list ((mgR x).fence.map rowW) false)]) false :=
  Sp.at_enc (s := sp_hbR) (fun (x y : XG) h => by
    simp only [sp_hbR, List.cons.injEq, and_true] at h
    exact XG.av_inj _ _ h) x
theorem at_PpoRX (x : XG) : sp_PpoR.at [.agg [.d (.list (x.nodes.map ActG.row) x.nf), .d (.list (x.po.1.map rowW) x.po.2), .d (.list (x.rf.1.map rowW) x.rf.2), .d (.list (x.co.1.map rowW) x.co.2), .d (.list (x.fr.1.map rowW) x.fr.2), .d (.list (x.addr.1.map rowW) x.addr.2), .d (.list (x.data.1.map rowW) x.data.2), .d (.list (x.ctrl.1.map rowW) x.ctrl.2),
  .d (.list (x.fenced.1.map rowW) x.fenced.2), .d (.list (x.sync.1.map rowW) x.sync.2), .d (.list (x.lwsync.1.map rowW) x.lwsync.2), .d (.list (x.pairs.1.map rowW) x.pairs.2)]] = .data (mgR x).Ok (.d (.list ((mgR x).ppo.map rowW) false)) false := at_PpoR x
theorem at_hbRX (x : XG) : sp_hbR.at [.agg [.d (.list (x.nodes.map ActG.row) x.nf), .d (.list (x.po.1.map rowW) x.po.2), .d (.list (x.rf.1.map rowW) x.rf.2), .d (.list (x.co.1.map rowW) x.co.2), .d (.list (x.fr.1.map rowW) x.fr.2), .d (.list (x.addr.1.map rowW) x.addr.2), .d (.list (x.data.1.map rowW) x.data.2), .d (.list (x.ctrl.1.map rowW) x.ctrl.2),
  .d (.list (x.fenced.1.map rowW) x.fenced.2), .d (.list (x.sync.1.map rowW) x.sync.2), .d (.list (x.lwsync.1.map rowW) x.lwsync.2), .d (.list (x.pairs.1.map rowW) x.pairs.2)]] = .data (mgR x).Ok (.tup [.d (.list ((mgR x).hb.map rowW) false), .d (.list ((mgR x).fence.map rowW) false)]) false := at_hbR x
set_option maxHeartbeats 4000000 in
theorem body_ref19_hb {T : Tab} {n1 n2 n3 n4 : Nat} (k1 : Knows T n1 sp_PpoR) (k2 : Knows T n2 sp_part) (k3 : Knows T n3 sp_or19) (k4 : Knows T n4 sp_layR.dat) : sp_hbR.Body T V_ref19_hb (L_ref19_hb n1 n2 n3 n4) R_ref19_hb := by
  have F1 := k1.F; have G1 := k1.G; have F2 := k2.F; have G2 := k2.G; have F3 := k3.F; have G3 := k3.G; have F4 := k4.F; have G4 := k4.G
  rintro (x : XG) hm
  have hm : (mgR x).Ok := hm
  refine ⟨rfl, ?_⟩
  unfold V_ref19_hb L_ref19_hb R_ref19_hb
  have hn : x.nodes.length ≤ 64 := hm.n
  have w1 : Sq x.nodes.length x.rf.1 := hm.rf
  have w2 : Sq x.nodes.length x.lwsync.1 := hm.lwsync
  have w3 : Sq x.nodes.length x.sync.1 := hm.sync
  simp (maxSteps := 3000000) only [↓Z1d, ↓Z2b, ↓Z1t, ↓Z05, ↓Z2q, ↓Z2k, Z49, Z4a, ↓Z20, ↓Z1c, ↓Z0i, ↓Z1u, ↓Z12, ↓Z1z, ↓Z2z, ↓Z30, ↓Z23, ↓Z1s, ↓Z2d, ↓Z28, ↓Z1y, ↓Z3m, ↓Z46, ↓Z3e, ↓Z3g, ↓Z3f, ↓Z3v, ↓Z3q, ↓Z44, ↓Z0j, ↓Z0b, ↓Z16, ↓Z0h, ↓Z1g, Z4d, Z0a, Z18, Z32, Z1a, Z35, evN, Z2s, Z1x, Z34, Z41, Z1w, Z19, Z1v, Z2p, Z2a, Z29, Z1e, Z2x, evT, Opd.ev, Z04, Z01, Z33, Z3x, Z3o, Z26, Z1f, Z2w, Z2y, Z3c, Z22, Z14, Z3r, LOp.isNew, State.prune, Z3s, Z3j, AV.leaf, Heap.at, Z0g, Z08, Z1m, Z0e, Z02, Z4x, Z4t, rowW, Z24, Z2t, Z1p, Z1b, rowB, Z2v, Z2u, rowN, Z4b, Z3h, Z17, Z15, w_or, Z4r, Z2r, Z45, Z50, Z42, Z4s, Z47, Z4z, Z4y, Z4u, Z4v, Z4w, w_eq, Bool.decide_eq_true, Z3b, Z3a, Z39, Z2f, Z1h, Z03, Z09, Z11, Z00, Z21, rowI, RatG.row, LocG.row, ActG.row, StepG.row, StampG.row, ActG.av, ActG.eta, RatG.eta, LocG.eta, beq_true, beq_false, Z2j, Z2o, Z2c, Z2l, Z10, Z0n, Z0y, Z0z, Z0m, Z0l, Z0c, List.length_set, List.length_replicate, Z06, Int.reduceToNat, Z4o, Z27, Z4e, Src.all, Src.len, Src.leaf, Src.leafN, Z37, Z3z, Z4k, Z0k, Z0o, Z0p, Z0q, Z0r, Z0s, Z0t, Z0u, Z4m, drows, evMk, List.length_map, Z1r, Z1q, List.take_length, List.take_left, List.length_append, Nat.le_add_right, ite_self, List.take_of_length_le, Z38, Z4j, Z3w, Option.isSome_none, Option.isSome_some, Nat.sub_zero, Z4i, Z4p, Z4g, evUn, Z0v, Z13, binT, binQ, chk, Z3t, List.contains_cons, List.contains_nil, Bool.or_false, Bool.false_or, Bool.and_self, resQ, resV, resT, Z4q, Z2e, Z43, Z3l, fnOf, Z3k, isD, HO.drow, Z4f, Z3u, evEq, eqV, eqK, eqC1, Z40, Z3y, Z36, Z31, Z48, Z3d, Z2i, Z1k, Z2h, Z1j, Z2g, Z1i, Z1l, Z0w, Z0x, Z0d, List.mem_cons, List.not_mem_nil, or_false, forall_eq, putRow, Z3n, Z25, RetS, RetF, RetD, AV.frz, AV.frzL, AV.freshP, AV.freshL, DV.less, Z2m, Z1n, Z2n, Z1o, Z0f, Z07, Option.some.injEq, AV.tup.injEq, AV.agg.injEq, List.cons.injEq, DV.list.injEq, List.isEmpty_nil, Nat.le_refl, AV.d.injEq, DV.int.injEq, DV.bool.injEq, ↓reduceIte, Nat.reduceEqDiff, Nat.reduceAdd, Nat.reduceBEq, List.length_cons, List.length_nil, List.replicate_succ, List.replicate_zero, List.nil_append, List.cons_append, List.append_nil, List.foldl_cons, List.foldl_nil, List.map_cons, List.map_nil, List.all_cons, List.all_nil, List.set_cons_zero, List.set_cons_succ, List.getD_cons_zero, List.getD_cons_succ, List.drop_zero, List.drop_succ_cons, List.take_succ_cons, List.take_zero, List.flatten_cons, List.flatten_nil, Bool.true_and, Bool.and_true, Bool.not_true, Bool.not_false, true_and, and_true, true_or, or_true, Option.bind_some, Option.map_some, decide_true, decide_false, beq_self_eq_true, true_implies, false_implies, implies_true, not_true_eq_false, not_false_eq_true, and_self, Bool.and_false, Bool.false_and, Nat.reduceLT, Nat.reduceLeDiff, List.reverse_cons, List.reverse_nil, Nat.zero_add, Nat.add_zero, Bool.false_eq_true, List.getElem?_cons_zero, Nat.reduceMul, Nat.mul_one, sp_hbR, XG.av, lsX, F1, G1, F2, G2, F3, G3, F4, G4, Sp.at_dat, SpecR.dat_rows, at_layR, at_part, at_or2R, at_or3R, at_or4R, at_or5R, at_PpoRX, Int.reduceLT, Int.reduceLE]
  have hf : (mgR x).fence = lay2 qOr x.sync.1 (lay2 (layQ 2) x.lwsync.1 (partG x.nodes x.lwsync.1 6)) := by
    rw [part_wr hn rfl w2, lay2_minus]; rfl
  have hh : (mgR x).hb = orL [(mgR x).ppo, (mgR x).fence, partG x.nodes x.rf.1 1] := by
    rw [part_ext rfl w1]; rfl
  rw [← hf, ← hh]
  have p1 : ((mgR x).ppo.length ≤ 64) = True := ppo_64 _
  have p2 : ((mgR x).fence.length ≤ 64) = True := lay2_64 _ _ _
  simp only [p1, p2, eqT hm, lay2_64, lay2_M, part_64 hn, part_M hn, w1.len, w2.len, w3.len, eqT hn, eqT (le_M hn), and_true, true_and]
/-! ### Prop -/
theorem mgR_start {x : XG} (hm : (mgR x).Ok) : (mgR x).start.Ok x.nodes.length := by
  have hn : x.nodes.length ≤ 64 := hm.n
  have w1 : Sq x.nodes.length x.po.1 := hm.po
  have w2 : Sq x.nodes.length x.rf.1 := hm.rf
  have w3 : Sq x.nodes.length x.co.1 := hm.co
  have w4 : Sq x.nodes.length x.fr.1 := hm.fr
  have w5 : Sq x.nodes.length x.addr.1 := hm.addr
  have w6 : Sq x.nodes.length x.data.1 := hm.data
  have w7 : Sq x.nodes.length x.ctrl.1 := hm.ctrl
  have w8 : Sq x.nodes.length x.fenced.1 := hm.fenced
  exact {
    ii := Sq.or3 hn (Sq.lay2 w5.len w6.len hn).len (Sq.lay2 w2.len (where_sq hn w2).len hn).len (Sq.lay2 (where_sq hn w1).len (Sq.thenG (where_sq hn w4).len (where_sq hn w2).len hn).len hn).len
    ci := Sq.or2 hn w8.len (Sq.lay2 (where_sq hn w1).len (Sq.thenG (where_sq hn w3).len (where_sq hn w2).len hn).len hn).len
    ic := by
      show Sq _ (List.replicate x.nodes.length 0#64)
      rw [mkR_zero (p := fun _ _ => false) (fun _ _ _ _ => rfl)]
      exact Sq.mk hn _
    cc := Sq.or4 hn (Sq.lay2 w5.len w6.len hn).len (where_sq hn w1).len w7.len (Sq.thenG w5.len w1.len hn).len }
def sp_PropR : Sp := ⟨XG, fun x => [x.av], fun x => .data (mgR x).Ok (.d (.list ((mgR x).prop.map rowW) false)) false⟩
theorem at_PropR (x : XG) : sp_PropR.at [x.av] = .data (mgR x).Ok (.d (.list ((mgR x).prop.map rowW) false)) false :=
  Sp.at_enc (s := sp_PropR) (fun (x y : XG) h => by
    simp only [sp_PropR, List.cons.injEq, and_true] at h
    exact XG.av_inj _ _ h) x
theorem at_PropRX (x : XG) : sp_PropR.at [.agg [.d (.list (x.nodes.map ActG.row) x.nf), .d (.list (x.po.1.map rowW) x.po.2), .d (.list (x.rf.1.map rowW) x.rf.2), .d (.list (x.co.1.map rowW) x.co.2), .d (.list (x.fr.1.map rowW) x.fr.2), .d (.list (x.addr.1.map rowW) x.addr.2), .d (.list (x.data.1.map rowW) x.data.2), .d (.list (x.ctrl.1.map rowW) x.ctrl.2),
  .d (.list (x.fenced.1.map rowW) x.fenced.2), .d (.list (x.sync.1.map rowW) x.sync.2), .d (.list (x.lwsync.1.map rowW) x.lwsync.2), .d (.list (x.pairs.1.map rowW) x.pairs.2)]] = .data (mgR x).Ok (.d (.list ((mgR x).prop.map rowW) false)) false := at_PropR x
set_option maxHeartbeats 4000000 in
theorem body_ref19_Prop {T : Tab} {n1 n2 n3 n4 n5 : Nat} (k1 : Knows T n1 sp_part) (k2 : Knows T n2 sp_or19) (k3 : Knows T n3 sp_then19) (k4 : Knows T n4 sp_hbR) (k5 : Knows T n5 sp_Star.dat) : sp_PropR.Body T V_ref19_Prop (L_ref19_Prop n1 n2 n3 n4 n5) R_ref19_Prop := by
  have F1 := k1.F; have G1 := k1.G; have F2 := k2.F; have G2 := k2.G; have F3 := k3.F; have G3 := k3.G; have F4 := k4.F; have G4 := k4.G; have F5 := k5.F; have G5 := k5.G
  rintro (x : XG) hm
  have hm : (mgR x).Ok := hm
  refine ⟨rfl, ?_⟩
  unfold V_ref19_Prop L_ref19_Prop R_ref19_Prop
  have hn : x.nodes.length ≤ 64 := hm.n
  have w1 : Sq x.nodes.length x.rf.1 := hm.rf
  have w2 : Sq x.nodes.length x.lwsync.1 := hm.lwsync
  have w3 : Sq x.nodes.length x.sync.1 := hm.sync
  have w4 : Sq x.nodes.length x.co.1 := hm.co
  have w5 : Sq x.nodes.length x.fr.1 := hm.fr
  simp (maxSteps := 3000000) only [↓Z1d, ↓Z2b, ↓Z1t, ↓Z05, ↓Z2q, ↓Z2k, Z49, Z4a, ↓Z20, ↓Z1c, ↓Z0i, ↓Z1u, ↓Z12, ↓Z1z, ↓Z2z, ↓Z30, ↓Z23, ↓Z1s, ↓Z2d, ↓Z28, ↓Z1y, ↓Z3m, ↓Z46, ↓Z3e, ↓Z3g, ↓Z3f, ↓Z3v, ↓Z3q, ↓Z44, ↓Z0j, ↓Z0b, ↓Z16, ↓Z0h, ↓Z1g, Z4d, Z0a, Z18, Z32, Z1a, Z35, evN, Z2s, Z1x, Z34, Z41, Z1w, Z19, Z1v, Z2p, Z2a, Z29, Z1e, Z2x, evT, Opd.ev, Z04, Z01, Z33, Z3x, Z3o, Z26, Z1f, Z2w, Z2y, Z3c, Z22, Z14, Z3r, LOp.isNew, State.prune, Z3s, Z3j, AV.leaf, Heap.at, Z0g, Z08, Z1m, Z0e, Z02, Z4x, Z4t, rowW, Z24, Z2t, Z1p, Z1b, rowB, Z2v, Z2u, rowN, Z4b, Z3h, Z17, Z15, w_or, Z4r, Z2r, Z45, Z50, Z42, Z4s, Z47, Z4z, Z4y, Z4u, Z4v, Z4w, w_eq, Bool.decide_eq_true, Z3b, Z3a, Z39, Z2f, Z1h, Z03, Z09, Z11, Z00, Z21, rowI, RatG.row, LocG.row, ActG.row, StepG.row, StampG.row, ActG.av, ActG.eta, RatG.eta, LocG.eta, beq_true, beq_false, Z2j, Z2o, Z2c, Z2l, Z10, Z0n, Z0y, Z0z, Z0m, Z0l, Z0c, List.length_set, List.length_replicate, Z06, Int.reduceToNat, Z4o, Z27, Z4e, Src.all, Src.len, Src.leaf, Src.leafN, Z37, Z3z, Z4k, Z0k, Z0o, Z0p, Z0q, Z0r, Z0s, Z0t, Z0u, Z4m, drows, evMk, List.length_map, Z1r, Z1q, List.take_length, List.take_left, List.length_append, Nat.le_add_right, ite_self, List.take_of_length_le, Z38, Z4j, Z3w, Option.isSome_none, Option.isSome_some, Nat.sub_zero, Z4i, Z4p, Z4g, evUn, Z0v, Z13, binT, binQ, chk, Z3t, List.contains_cons, List.contains_nil, Bool.or_false, Bool.false_or, Bool.and_self, resQ, resV, resT, Z4q, Z2e, Z43, Z3l, fnOf, Z3k, isD, HO.drow, Z4f, Z3u, evEq, eqV, eqK, eqC1, Z40, Z3y, Z36, Z31, Z48, Z3d, Z2i, Z1k, Z2h, Z1j, Z2g, Z1i, Z1l, Z0w, Z0x, Z0d, List.mem_cons, List.not_mem_nil, or_false, forall_eq, putRow, Z3n, Z25, RetS, RetF, RetD, AV.frz, AV.frzL, AV.freshP, AV.freshL, DV.less, Z2m, Z1n, Z2n, Z1o, Z0f, Z07, Option.some.injEq, AV.tup.injEq, AV.agg.injEq, List.cons.injEq, DV.list.injEq, List.isEmpty_nil, Nat.le_refl, AV.d.injEq, DV.int.injEq, DV.bool.injEq, ↓reduceIte, Nat.reduceEqDiff, Nat.reduceAdd, Nat.reduceBEq, List.length_cons, List.length_nil, List.replicate_succ, List.replicate_zero, List.nil_append, List.cons_append, List.append_nil, List.foldl_cons, List.foldl_nil, List.map_cons, List.map_nil, List.all_cons, List.all_nil, List.set_cons_zero, List.set_cons_succ, List.getD_cons_zero, List.getD_cons_succ, List.drop_zero, List.drop_succ_cons, List.take_succ_cons, List.take_zero, List.flatten_cons, List.flatten_nil, Bool.true_and, Bool.and_true, Bool.not_true, Bool.not_false, true_and, and_true, true_or, or_true, Option.bind_some, Option.map_some, decide_true, decide_false, beq_self_eq_true, true_implies, false_implies, implies_true, not_true_eq_false, not_false_eq_true, and_self, Bool.and_false, Bool.false_and, Nat.reduceLT, Nat.reduceLeDiff, List.reverse_cons, List.reverse_nil, Nat.zero_add, Nat.add_zero, Bool.false_eq_true, List.getElem?_cons_zero, Nat.reduceMul, Nat.mul_one, sp_PropR, XG.av, lsX, F1, G1, F2, G2, F3, G3, F4, G4, F5, G5, Sp.at_dat, SpecR.dat_rows, at_layR, at_part, at_or2R, at_or3R, at_or4R, at_or5R, at_then2R, at_then3R, at_then4R, at_Star, at_hbRX, Int.reduceLT, Int.reduceLE]
  have p2 : (mgR x).fence.length ≤ 64 := by rw [show ((mgR x).fence.length ≤ 64) = True from lay2_64 _ _ _]; trivial
  have p3 : (mgR x).hb.length ≤ 64 := orL_le _
  have e1 : (mgR x).fence.length = x.nodes.length := (Sq.lay2 w3.len (Sq.lay2 w2.len (by rw [keepG_len]; exact w2.len) hn).len hn).len
  have e2 : Sq x.nodes.length (mgR x).hb := Sq.or3 hn (Sq.lay2 (by rw [keepG_len]; exact (limP_ok hn (mgR_start hm)).ii.len) (by rw [keepG_len]; exact (limP_ok hn (mgR_start hm)).ic.len) hn).len e1 (where_sq hn w1).len
  have e3 : (starG (mgR x).hb).length = x.nodes.length := by rw [starG_len]; unfold szR; rw [e2.len]; omega
  have e4 : Sq x.nodes.length (mgR x).base := Sq.thenG (Sq.lay2 e1 (Sq.thenG (where_sq hn w1).len e1 hn).len hn).len e3 hn
  have hb : (mgR x).base = thenG (lay2 qOr (mgR x).fence (thenG (partG x.nodes x.rf.1 1) (mgR x).fence)) (starG (mgR x).hb) := by
    rw [part_ext rfl w1]; rfl
  rw [← hb]
  have hc : (mgR x).com = orL [x.rf.1, x.co.1, x.fr.1] := rfl
  rw [← hc]
  have hs : (mgR x).strong = thenG (thenG (thenG (starG (mgR x).com) (starG (mgR x).base)) x.sync.1) (starG (mgR x).hb) := rfl
  rw [← hs]
  have hp : (mgR x).prop = lay2 qOr (partG x.nodes (mgR x).base 7) (mgR x).strong := by
    rw [part_ww hn rfl e4]; rfl
  rw [← hp]
  have p4 : ((mgR x).com.length ≤ maxLen) = True := orL_M _
  have p5 : ((mgR x).base.length ≤ maxLen) = True := thenG_M _ _
  have p6 : ((mgR x).strong.length ≤ 64) = True := thenG_64 _ _
  simp only [p4, p5, p6, lay2_64, lay2_M, thenG_64, thenG_M, starG_64, starG_M, eqT p2, eqT p3, eqT (le_M p3), eqT hm, part_64 hn, part_M hn, w1.len, w2.len, w3.len, w4.len, w5.len, eqT hn, eqT (le_M hn), and_true, true_and]
end Go.Ago

/- The reference of layer 19: self, Check. Conditions: none. -/
set_option maxRecDepth 100000
set_option linter.unusedSimpArgs false
set_option linter.unusedVariables false
namespace Go.Ago
attribute [local irreducible] orL thenG lay2 whereG keepG mkR cntR partG starG vck
def sp_selfR : Sp := ⟨List W × Bool, fun x => [.d (.list (x.1.map rowW) x.2)], fun x => .data (x.1.length ≤ 64) (.d (.bool (selfG x.1))) true⟩
theorem at_selfR (A : List W) (e : Bool) : sp_selfR.at [.d (.list (A.map rowW) e)] = .data (A.length ≤ 64) (.d (.bool (selfG A))) true :=
  Sp.at_enc (s := sp_selfR) (fun x y h => by
    obtain ⟨a, b⟩ := x; obtain ⟨a', b'⟩ := y
    simp only [sp_selfR, List.cons.injEq, AV.d.injEq, DV.list.injEq, and_true] at h
    rw [Z4n Z51 h.1, h.2]) (A, e)
theorem body_ref19_self {T : Tab} {n1 : Nat} (k1 : Knows T n1 sp_Has) : sp_selfR.Body T V_ref19_self (L_ref19_self n1) R_ref19_self := by
  have F1 := k1.F; have G1 := k1.G
  rintro ⟨A, e⟩ h1
  have h1 : A.length ≤ 64 := h1
  refine .inl ⟨rfl, ?_⟩
  unfold V_ref19_self L_ref19_self R_ref19_self
  simp (maxSteps := 3000000) only [↓Z1d, ↓Z2b, ↓Z1t, ↓Z05, ↓Z2q, ↓Z2k, Z49, Z4a, ↓Z20, ↓Z1c, ↓Z0i, ↓Z1u, ↓Z12, ↓Z1z, ↓Z2z, ↓Z30, ↓Z23, ↓Z1s, ↓Z2d, ↓Z28, ↓Z1y, ↓Z3m, ↓Z46, ↓Z3e, ↓Z3g, ↓Z3f, ↓Z3v, ↓Z3q, ↓Z44, ↓Z0j, ↓Z0b, ↓Z16, ↓Z0h, ↓Z1g, Z4d, Z0a, Z18, Z32, Z1a, Z35, evN, Z2s, Z1x, Z34, Z41, Z1w, Z19, Z1v, Z2p, Z2a, Z29, Z1e, Z2x, evT, Opd.ev, Z04, Z01, Z33, Z3x, Z3o, Z26, Z1f, Z2w, Z2y, Z3c, Z22, Z14, Z3r, LOp.isNew, State.prune, Z3s, Z3j, AV.leaf, Heap.at, Z0g, Z08, Z1m, Z0e, Z02, Z4x, Z4t, rowW, Z24, Z2t, Z1p, Z1b, rowB, Z2v, Z2u, rowN, Z4b, Z3h, Z17, Z15, w_or, Z4r, Z2r, Z45, Z50, Z42, Z4s, Z47, Z4z, Z4y, Z4u, Z4v, Z4w, w_eq, Bool.decide_eq_true, Z3b, Z3a, Z39, Z2f, Z1h, Z03, Z09, Z11, Z00, Z21, rowI, RatG.row, LocG.row, ActG.row, StepG.row, StampG.row, ActG.av, ActG.eta, RatG.eta, LocG.eta, beq_true, beq_false, Z2j, Z2o, Z2c, Z2l, Z10, Z0n, Z0y, Z0z, Z0m, Z0l, Z0c, List.length_set, List.length_replicate, Z06, Int.reduceToNat, Z4o, Z27, Z4e, Src.all, Src.len, Src.leaf, Src.leafN, Z37, Z3z, Z4k, Z0k, Z0o, Z0p, Z0q, Z0r, Z0s, Z0t, Z0u, Z4m, drows, evMk, List.length_map, Z1r, Z1q, List.take_length, List.take_left, List.length_append, Nat.le_add_right, ite_self, List.take_of_length_le, Z38, Z4j, Z3w, Option.isSome_none, Option.isSome_some, Nat.sub_zero, Z4i, Z4p, Z4g, evUn, Z0v, Z13, binT, binQ, chk, Z3t, List.contains_cons, List.contains_nil, Bool.or_false, Bool.false_or, Bool.and_self, resQ, resV, resT, Z4q, Z2e, Z43, Z3l, fnOf, Z3k, isD, HO.drow, Z4f, Z3u, evEq, eqV, eqK, eqC1, Z40, Z3y, Z36, Z31, Z48, Z3d, Z2i, Z1k, Z2h, Z1j, Z2g, Z1i, Z1l, Z0w, Z0x, Z0d, List.mem_cons, List.not_mem_nil, or_false, forall_eq, putRow, Z3n, Z25, RetS, RetF, RetD, AV.frz, AV.frzL, AV.freshP, AV.freshL, DV.less, Z2m, Z1n, Z2n, Z1o, Z0f, Z07, Option.some.injEq, AV.tup.injEq, AV.agg.injEq, List.cons.injEq, DV.list.injEq, List.isEmpty_nil, Nat.le_refl, AV.d.injEq, DV.int.injEq, DV.bool.injEq, ↓reduceIte, Nat.reduceEqDiff, Nat.reduceAdd, Nat.reduceBEq, List.length_cons, List.length_nil, List.replicate_succ, List.replicate_zero, List.nil_append, List.cons_append, List.append_nil, List.foldl_cons, List.foldl_nil, List.map_cons, List.map_nil, List.all_cons, List.all_nil, List.set_cons_zero, List.set_cons_succ, List.getD_cons_zero, List.getD_cons_succ, List.drop_zero, List.drop_succ_cons, List.take_succ_cons, List.take_zero, List.flatten_cons, List.flatten_nil, Bool.true_and, Bool.and_true, Bool.not_true, Bool.not_false, true_and, and_true, true_or, or_true, Option.bind_some, Option.map_some, decide_true, decide_false, beq_self_eq_true, true_implies, false_implies, implies_true, not_true_eq_false, not_false_eq_true, and_self, Bool.and_false, Bool.false_and, Nat.reduceLT, Nat.reduceLeDiff, List.reverse_cons, List.reverse_nil, Nat.zero_add, Nat.add_zero, Bool.false_eq_true, List.getElem?_cons_zero, Nat.reduceMul, Nat.mul_one, sp_selfR, F1, G1, at_Has]
  refine Loop.fam [0, 3] (fun i : Nat => ⟨[(0, .d (.list (A.map rowW) e)), (3, .d (.int .i64 i))], []⟩) (fun i => i ≤ A.length ∧ ∀ j, j < i → (A.getD j 0#64).getLsbD j = false) (fun i => A.length - i) 0 [] (by simp) (by simp) (by simp only [State.can, AV.can, AV.canL, HO.can, Z3i, idx, Z04, Z01, Heap.at, Nat.reduceBEq, ↓reduceIte, Nat.reduceEqDiff, Option.getD_some, Option.map_some, List.map_cons, List.map_nil, List.getD_cons_zero, List.getD_cons_succ]; rfl) ⟨by omega, by omega⟩ ?_
  rintro i ⟨hi, hj⟩
  simp (maxSteps := 3000000) only [↓Z1d, ↓Z2b, ↓Z1t, ↓Z05, ↓Z2q, ↓Z2k, Z49, Z4a, ↓Z20, ↓Z1c, ↓Z0i, ↓Z1u, ↓Z12, ↓Z1z, ↓Z2z, ↓Z30, ↓Z23, ↓Z1s, ↓Z2d, ↓Z28, ↓Z1y, ↓Z3m, ↓Z46, ↓Z3e, ↓Z3g, ↓Z3f, ↓Z3v, ↓Z3q, ↓Z44, ↓Z0j, ↓Z0b, ↓Z16, ↓Z0h, ↓Z1g, Z4d, Z0a, Z18, Z32, Z1a, Z35, evN, Z2s, Z1x, Z34, Z41, Z1w, Z19, Z1v, Z2p, Z2a, Z29, Z1e, Z2x, evT, Opd.ev, Z04, Z01, Z33, Z3x, Z3o, Z26, Z1f, Z2w, Z2y, Z3c, Z22, Z14, Z3r, LOp.isNew, State.prune, Z3s, Z3j, AV.leaf, Heap.at, Z0g, Z08, Z1m, Z0e, Z02, Z4x, Z4t, rowW, Z24, Z2t, Z1p, Z1b, rowB, Z2v, Z2u, rowN, Z4b, Z3h, Z17, Z15, w_or, Z4r, Z2r, Z45, Z50, Z42, Z4s, Z47, Z4z, Z4y, Z4u, Z4v, Z4w, w_eq, Bool.decide_eq_true, Z3b, Z3a, Z39, Z2f, Z1h, Z03, Z09, Z11, Z00, Z21, rowI, RatG.row, LocG.row, ActG.row, StepG.row, StampG.row, ActG.av, ActG.eta, RatG.eta, LocG.eta, beq_true, beq_false, Z2j, Z2o, Z2c, Z2l, Z10, Z0n, Z0y, Z0z, Z0m, Z0l, Z0c, List.length_set, List.length_replicate, Z06, Int.reduceToNat, Z4o, Z27, Z4e, Src.all, Src.len, Src.leaf, Src.leafN, Z37, Z3z, Z4k, Z0k, Z0o, Z0p, Z0q, Z0r, Z0s, Z0t, Z0u, Z4m, drows, evMk, List.length_map, Z1r, Z1q, List.take_length, List.take_left, List.length_append, Nat.le_add_right, ite_self, List.take_of_length_le, Z38, Z4j, Z3w, Option.isSome_none, Option.isSome_some, Nat.sub_zero, Z4i, Z4p, Z4g, evUn, Z0v, Z13, binT, binQ, chk, Z3t, List.contains_cons, List.contains_nil, Bool.or_false, Bool.false_or, Bool.and_self, resQ, resV, resT, Z4q, Z2e, Z43, Z3l, fnOf, Z3k, isD, HO.drow, Z4f, Z3u, evEq, eqV, eqK, eqC1, Z40, Z3y, Z36, Z31, Z48, Z3d, Z2i, Z1k, Z2h, Z1j, Z2g, Z1i, Z1l, Z0w, Z0x, Z0d, List.mem_cons, List.not_mem_nil, or_false, forall_eq, putRow, Z3n, Z25, RetS, RetF, RetD, AV.frz, AV.frzL, AV.freshP, AV.freshL, DV.less, Z2m, Z1n, Z2n, Z1o, Z0f, Z07, Option.some.injEq, AV.tup.injEq, AV.agg.injEq, List.cons.injEq, DV.list.injEq, List.isEmpty_nil, Nat.le_refl, AV.d.injEq, DV.int.injEq, DV.bool.injEq, ↓reduceIte, Nat.reduceEqDiff, Nat.reduceAdd, Nat.reduceBEq, List.length_cons, List.length_nil, List.replicate_succ, List.replicate_zero, List.nil_append, List.cons_append, List.append_nil, List.foldl_cons, List.foldl_nil, List.map_cons, List.map_nil, List.all_cons, List.all_nil, List.set_cons_zero, List.set_cons_succ, List.getD_cons_zero, List.getD_cons_succ, List.drop_zero, List.drop_succ_cons, List.take_succ_cons, List.take_zero, List.flatten_cons, List.flatten_nil, Bool.true_and, Bool.and_true, Bool.not_true, Bool.not_false, true_and, and_true, true_or, or_true, Option.bind_some, Option.map_some, decide_true, decide_false, beq_self_eq_true, true_implies, false_implies, implies_true, not_true_eq_false, not_false_eq_true, and_self, Bool.and_false, Bool.false_and, Nat.reduceLT, Nat.reduceLeDiff, List.reverse_cons, List.reverse_nil, Nat.zero_add, Nat.add_zero, Bool.false_eq_true, List.getElem?_cons_zero, Nat.reduceMul, Nat.mul_one, F1, G1, at_Has]
  have hh : i < A.length → hasI A i i = (A.getD i 0#64).getLsbD i := fun h => by
    rw [hasI_nat]; unfold hasN szR; simp; intro _; omega
  refine ⟨fun c => ⟨le_M h1, fun d => ?_, fun d => ?_⟩, fun c => ?_⟩
  · rw [hh (by omega)] at d
    have : selfG A = true := by
      unfold selfG
      rw [List.any_eq_true]
      exact ⟨i, by simp; omega, d⟩
    rw [this]
  · rw [hh (by omega)] at d
    rw [Z4l (n := A.length) (by omega) (le_M h1)]
    exact Z3p.mk [] (i + 1) (by simp) (by simp) (by simp only [State.can, AV.can, AV.canL, HO.can, Z3i, idx, Z04, Z01, Heap.at, Nat.reduceBEq, ↓reduceIte, Nat.reduceEqDiff, Option.getD_some, Option.map_some, List.map_cons, List.map_nil, List.getD_cons_zero, List.getD_cons_succ]) ⟨by omega, fun j hj' => by
      by_cases e : j = i
      · rw [e]; simpa using d
      · exact hj j (by omega)⟩ (by omega)
  · have : selfG A = false := by
      unfold selfG
      rw [List.any_eq_false]
      intro j hj'
      simp at hj'
      rw [hj j (by omega)]; simp
    rw [this]
def sp_CheckR : Sp := ⟨XG, fun x => [x.av], fun x => .data (mgR x).Ok (.d (.int .i64 (mgR x).check)) true⟩
theorem at_CheckR (x : XG) : sp_CheckR.at [x.av] = .data (mgR x).Ok (.d (.int .i64 (mgR x).check)) true :=
  Sp.at_enc (s := sp_CheckR) (fun (x y : XG) h => by
    simp only [sp_CheckR, List.cons.injEq, and_true] at h
    exact XG.av_inj _ _ h) x
set_option maxHeartbeats 4000000 in
theorem body_ref19_Check {T : Tab} {n1 n2 n3 n4 n5 n6 n7 n8 n9 : Nat} (k1 : Knows T n1 sp_PropR) (k2 : Knows T n2 sp_part) (k3 : Knows T n3 sp_or19) (k4 : Knows T n4 sp_and19) (k5 : Knows T n5 sp_then19) (k6 : Knows T n6 sp_hbR) (k7 : Knows T n7 sp_Star.dat) (k8 : Knows T n8 sp_Ring) (k9 : Knows T n9 sp_selfR) :
    sp_CheckR.Body T V_ref19_Check (L_ref19_Check n1 n2 n3 n4 n5 n6 n7 n8 n9) R_ref19_Check := by
  have F1 := k1.F; have G1 := k1.G; have F2 := k2.F; have G2 := k2.G; have F3 := k3.F; have G3 := k3.G; have F4 := k4.F; have G4 := k4.G; have F5 := k5.F; have G5 := k5.G
  have F6 := k6.F; have G6 := k6.G; have F7 := k7.F; have G7 := k7.G; have F8 := k8.F; have G8 := k8.G; have F9 := k9.F; have G9 := k9.G
  rintro (x : XG) hm
  have hm : (mgR x).Ok := hm
  refine .inl ⟨rfl, ?_⟩
  unfold V_ref19_Check L_ref19_Check R_ref19_Check
  have hn : x.nodes.length ≤ 64 := hm.n
  have w1 : Sq x.nodes.length x.rf.1 := hm.rf
  have w2 : Sq x.nodes.length x.co.1 := hm.co
  have w3 : Sq x.nodes.length x.fr.1 := hm.fr
  have w4 : Sq x.nodes.length x.po.1 := hm.po
  have w5 : Sq x.nodes.length x.pairs.1 := hm.pairs
  simp (maxSteps := 3000000) only [↓Z1d, ↓Z2b, ↓Z1t, ↓Z05, ↓Z2q, ↓Z2k, Z49, Z4a, ↓Z20, ↓Z1c, ↓Z0i, ↓Z1u, ↓Z12, ↓Z1z, ↓Z2z, ↓Z30, ↓Z23, ↓Z1s, ↓Z2d, ↓Z28, ↓Z1y, ↓Z3m, ↓Z46, ↓Z3e, ↓Z3g, ↓Z3f, ↓Z3v, ↓Z3q, ↓Z44, ↓Z0j, ↓Z0b, ↓Z16, ↓Z0h, ↓Z1g, Z4d, Z0a, Z18, Z32, Z1a, Z35, evN, Z2s, Z1x, Z34, Z41, Z1w, Z19, Z1v, Z2p, Z2a, Z29, Z1e, Z2x, evT, Opd.ev, Z04, Z01, Z33, Z3x, Z3o, Z26, Z1f, Z2w, Z2y, Z3c, Z22, Z14, Z3r, LOp.isNew, State.prune, Z3s, Z3j, AV.leaf, Heap.at, Z0g, Z08, Z1m, Z0e, Z02, Z4x, Z4t, rowW, Z24, Z2t, Z1p, Z1b, rowB, Z2v, Z2u, rowN, Z4b, Z3h, Z17, Z15, w_or, Z4r, Z2r, Z45, Z50, Z42, Z4s, Z47, Z4z, Z4y, Z4u, Z4v, Z4w, w_eq, Bool.decide_eq_true, Z3b, Z3a, Z39, Z2f, Z1h, Z03, Z09, Z11, Z00, Z21, rowI, RatG.row, LocG.row, ActG.row, StepG.row, StampG.row, ActG.av, ActG.eta, RatG.eta, LocG.eta, beq_true, beq_false, Z2j, Z2o, Z2c, Z2l, Z10, Z0n, Z0y, Z0z, Z0m, Z0l, Z0c, List.length_set, List.length_replicate, Z06, Int.reduceToNat, Z4o, Z27, Z4e, Src.all, Src.len, Src.leaf, Src.leafN, Z37, Z3z, Z4k, Z0k, Z0o, Z0p, Z0q, Z0r, Z0s, Z0t, Z0u, Z4m, drows, evMk, List.length_map, Z1r, Z1q, List.take_length, List.take_left, List.length_append, Nat.le_add_right, ite_self, List.take_of_length_le, Z38, Z4j, Z3w, Option.isSome_none, Option.isSome_some, Nat.sub_zero, Z4i, Z4p, Z4g, evUn, Z0v, Z13, binT, binQ, chk, Z3t, List.contains_cons, List.contains_nil, Bool.or_false, Bool.false_or, Bool.and_self, resQ, resV, resT, Z4q, Z2e, Z43, Z3l, fnOf, Z3k, isD, HO.drow, Z4f, Z3u, evEq, eqV, eqK, eqC1, Z40, Z3y, Z36, Z31, Z48, Z3d, Z2i, Z1k, Z2h, Z1j, Z2g, Z1i, Z1l, Z0w, Z0x, Z0d, List.mem_cons, List.not_mem_nil, or_false, forall_eq, putRow, Z3n, Z25, RetS, RetF, RetD, AV.frz, AV.frzL, AV.freshP, AV.freshL, DV.less, Z2m, Z1n, Z2n, Z1o, Z0f, Z07, Option.some.injEq, AV.tup.injEq, AV.agg.injEq, List.cons.injEq, DV.list.injEq, List.isEmpty_nil, Nat.le_refl, AV.d.injEq, DV.int.injEq, DV.bool.injEq, ↓reduceIte, Nat.reduceEqDiff, Nat.reduceAdd, Nat.reduceBEq, List.length_cons, List.length_nil, List.replicate_succ, List.replicate_zero, List.nil_append, List.cons_append, List.append_nil, List.foldl_cons, List.foldl_nil, List.map_cons, List.map_nil, List.all_cons, List.all_nil, List.set_cons_zero, List.set_cons_succ, List.getD_cons_zero, List.getD_cons_succ, List.drop_zero, List.drop_succ_cons, List.take_succ_cons, List.take_zero, List.flatten_cons, List.flatten_nil, Bool.true_and, Bool.and_true, Bool.not_true, Bool.not_false, true_and, and_true, true_or, or_true, Option.bind_some, Option.map_some, decide_true, decide_false, beq_self_eq_true, true_implies, false_implies, implies_true, not_true_eq_false, not_false_eq_true, and_self, Bool.and_false, Bool.false_and, Nat.reduceLT, Nat.reduceLeDiff, List.reverse_cons, List.reverse_nil, Nat.zero_add, Nat.add_zero, Bool.false_eq_true, List.getElem?_cons_zero, Nat.reduceMul, Nat.mul_one, sp_CheckR, XG.av, lsX, F1, G1, F2, G2, F3, G3, F4, G4, F5, G5, F6, G6, F7, G7, F8, G8, F9, G9, Sp.at_dat, SpecR.dat_rows, at_layR, at_part, at_or2R, at_or3R, at_or4R, at_or5R, at_then2R, at_then3R, at_then4R, at_Star, at_Ring, at_hbRX, at_PropRX, at_selfR, at_and19, Int.reduceLT, Int.reduceLE]
  have e0 : orL [partG x.nodes x.po.1 3, x.rf.1, x.co.1, x.fr.1] = lay2 qOr (whereG x.nodes locQ x.po.1) (mgR x).com := by
    rw [part_loc rfl w4]
    refine (Sq.or4 hn (where_sq hn w4).len w1.len w2.len w3.len).ext (Sq.lay2 (where_sq hn w4).len (Sq.or3 hn w1.len w2.len w3.len).len hn) fun i k _ _ => ?_
    rw [hasN_or, hasN_orL]
    unfold MG.com
    rw [hasN_orL]
    rfl
  rw [e0, part_ext rfl w2, part_ext rfl w3, lay2_and]
  have p1 : ((mgR x).hb.length ≤ 64) = True := orL_64 _
  have p1' : ((mgR x).hb.length ≤ maxLen) = True := orL_M _
  have p2 : ((mgR x).prop.length ≤ 64) = True := lay2_64 _ _ _
  simp only [p1, p1', p2, lay2_64, lay2_M, thenG_64, thenG_M, starG_64, starG_M, whereG_len, part_64 hn, part_M hn, orL_64, orL_M, w1.len, w2.len, w3.len, w4.len, w5.len, eqT hm, eqT hn, eqT (le_M hn), Nat.le_refl, and_true, true_and]
  have hchk : (mgR x).check = if ringG (lay2 qOr (whereG x.nodes locQ x.po.1) (mgR x).com) = true then 1
    else if ringG (mgR x).hb = true then 2
    else if selfG (thenG (thenG (whereG x.nodes apartQ x.fr.1) (mgR x).prop) (starG (mgR x).hb)) = true then 3
    else if ringG (lay2 qOr x.co.1 (mgR x).prop) = true then 4
    else if ((lay2 qAnd x.pairs.1 (thenG (whereG x.nodes apartQ x.fr.1) (whereG x.nodes apartQ x.co.1))).any nzW) = true then 5
    else 0 := rfl
  rw [hchk]
  refine ⟨fun h1 => ?_, fun h1 => ⟨fun h2 => ?_, fun h2 => ⟨fun h3 => ?_, fun h3 => ⟨fun h4 => ?_, fun h4 => ?_⟩⟩⟩⟩
  · rw [if_pos h1]
  · rw [h1, if_neg (by simp), if_pos h2]
  · rw [h1, h2, if_neg (by simp), if_neg (by simp), if_pos h3]
  · rw [h1, h2, h3, if_neg (by simp), if_neg (by simp), if_neg (by simp), if_pos h4]
  · rw [h1, h2, h3, h4]
    simp only [Bool.false_eq_true, ↓reduceIte]
    have hB : (lay2 qAnd x.pairs.1 (thenG (whereG x.nodes apartQ x.fr.1) (whereG x.nodes apartQ x.co.1))).length ≤ 64 := by rw [lay2_64]; trivial
    generalize lay2 qAnd x.pairs.1 (thenG (whereG x.nodes apartQ x.fr.1) (whereG x.nodes apartQ x.co.1)) = B at hB
    refine Loop.fam [8, 9] (fun i : Nat => ⟨[(8, .d (.list (B.map rowW) false)), (9, .d (.int .i64 i))], []⟩) (fun i => i ≤ B.length ∧ ∀ j, j < i → B.getD j 0#64 = 0#64) (fun i => B.length - i) 0 [] (by simp) (by simp) (by simp only [State.can, AV.can, AV.canL, HO.can, Z3i, idx, Z04, Z01, Heap.at, Nat.reduceBEq, ↓reduceIte, Nat.reduceEqDiff, Option.getD_some, Option.map_some, List.map_cons, List.map_nil, List.getD_cons_zero, List.getD_cons_succ]; rfl) ⟨by omega, by omega⟩ ?_
    rintro i ⟨hi, hj⟩
    simp (maxSteps := 3000000) only [↓Z1d, ↓Z2b, ↓Z1t, ↓Z05, ↓Z2q, ↓Z2k, Z49, Z4a, ↓Z20, ↓Z1c, ↓Z0i, ↓Z1u, ↓Z12, ↓Z1z, ↓Z2z, ↓Z30, ↓Z23, ↓Z1s, ↓Z2d, ↓Z28, ↓Z1y, ↓Z3m, ↓Z46, ↓Z3e, ↓Z3g, ↓Z3f, ↓Z3v, ↓Z3q, ↓Z44, ↓Z0j, ↓Z0b, ↓Z16, ↓Z0h, ↓Z1g, Z4d, Z0a, Z18, Z32, Z1a, Z35, evN, Z2s, Z1x, Z34, Z41, Z1w, Z19, Z1v, Z2p, Z2a, Z29, Z1e, Z2x, evT, Opd.ev, Z04, Z01, Z33, Z3x, Z3o, Z26, Z1f, Z2w, Z2y, Z3c, Z22, Z14, Z3r, LOp.isNew, State.prune, Z3s, Z3j, AV.leaf, Heap.at, Z0g, Z08, Z1m, Z0e, Z02, Z4x, Z4t, rowW, Z24, Z2t, Z1p, Z1b, rowB, Z2v, Z2u, rowN, Z4b, Z3h, Z17, Z15, w_or, Z4r, Z2r, Z45, Z50, Z42, Z4s, Z47, Z4z, Z4y, Z4u, Z4v, Z4w, w_eq, Bool.decide_eq_true, Z3b, Z3a, Z39, Z2f, Z1h, Z03, Z09, Z11, Z00, Z21, rowI, RatG.row, LocG.row, ActG.row, StepG.row, StampG.row, ActG.av, ActG.eta, RatG.eta, LocG.eta, beq_true, beq_false, Z2j, Z2o, Z2c, Z2l, Z10, Z0n, Z0y, Z0z, Z0m, Z0l, Z0c, List.length_set, List.length_replicate, Z06, Int.reduceToNat, Z4o, Z27, Z4e, Src.all, Src.len, Src.leaf, Src.leafN, Z37, Z3z, Z4k, Z0k, Z0o, Z0p, Z0q, Z0r, Z0s, Z0t, Z0u, Z4m, drows, evMk, List.length_map, Z1r, Z1q, List.take_length, List.take_left, List.length_append, Nat.le_add_right, ite_self, List.take_of_length_le, Z38, Z4j, Z3w, Option.isSome_none, Option.isSome_some, Nat.sub_zero, Z4i, Z4p, Z4g, evUn, Z0v, Z13, binT, binQ, chk, Z3t, List.contains_cons, List.contains_nil, Bool.or_false, Bool.false_or, Bool.and_self, resQ, resV, resT, Z4q, Z2e, Z43, Z3l, fnOf, Z3k, isD, HO.drow, Z4f, Z3u, evEq, eqV, eqK, eqC1, Z40, Z3y, Z36, Z31, Z48, Z3d, Z2i, Z1k, Z2h, Z1j, Z2g, Z1i, Z1l, Z0w, Z0x, Z0d, List.mem_cons, List.not_mem_nil, or_false, forall_eq, putRow, Z3n, Z25, RetS, RetF, RetD, AV.frz, AV.frzL, AV.freshP, AV.freshL, DV.less, Z2m, Z1n, Z2n, Z1o, Z0f, Z07, Option.some.injEq, AV.tup.injEq, AV.agg.injEq, List.cons.injEq, DV.list.injEq, List.isEmpty_nil, Nat.le_refl, AV.d.injEq, DV.int.injEq, DV.bool.injEq, ↓reduceIte, Nat.reduceEqDiff, Nat.reduceAdd, Nat.reduceBEq, List.length_cons, List.length_nil, List.replicate_succ, List.replicate_zero, List.nil_append, List.cons_append, List.append_nil, List.foldl_cons, List.foldl_nil, List.map_cons, List.map_nil, List.all_cons, List.all_nil, List.set_cons_zero, List.set_cons_succ, List.getD_cons_zero, List.getD_cons_succ, List.drop_zero, List.drop_succ_cons, List.take_succ_cons, List.take_zero, List.flatten_cons, List.flatten_nil, Bool.true_and, Bool.and_true, Bool.not_true, Bool.not_false, true_and, and_true, true_or, or_true, Option.bind_some, Option.map_some, decide_true, decide_false, beq_self_eq_true, true_implies, false_implies, implies_true, not_true_eq_false, not_false_eq_true, and_self, Bool.and_false, Bool.false_and, Nat.reduceLT, Nat.reduceLeDiff, List.reverse_cons, List.reverse_nil, Nat.zero_add, Nat.add_zero, Bool.false_eq_true, List.getElem?_cons_zero, Nat.reduceMul, Nat.mul_one, F1, G1]
    refine ⟨fun c => ⟨⟨by omega, by omega⟩, fun d => ?_, fun d => ?_⟩, fun c => ?_⟩
    · rw [Z4l (n := B.length) (by omega) (le_M hB)]
      exact Z3p.mk [] (i + 1) (by simp) (by simp) (by simp only [State.can, AV.can, AV.canL, HO.can, Z3i, idx, Z04, Z01, Heap.at, Nat.reduceBEq, ↓reduceIte, Nat.reduceEqDiff, Option.getD_some, Option.map_some, List.map_cons, List.map_nil, List.getD_cons_zero, List.getD_cons_succ]) ⟨by omega, fun j hj' => by
        by_cases e : j = i
        · rw [e]; exact d
        · exact hj j (by omega)⟩ (by omega)
    · have hl : i < B.length := by omega
      rw [if_pos]
      rw [List.any_eq_true]
      refine ⟨B.getD i 0#64, ?_, by unfold nzW; rw [decide_eq_false d]; rfl⟩
      rw [List.getD_eq_getElem?_getD, List.getElem?_eq_getElem hl]
      exact List.getElem_mem hl
    · rw [if_neg]
      intro h
      rw [List.any_eq_true] at h
      obtain ⟨b, hb, hz⟩ := h
      obtain ⟨j, hj', rfl⟩ := List.getElem_of_mem hb
      have := hj j (by omega)
      rw [List.getD_eq_getElem?_getD, List.getElem?_eq_getElem hj'] at this
      simp only [Option.getD_some] at this
      simp [nzW, this] at hz
end Go.Ago

/- Relations that package power is handed, as data. Conditions: none. -/
set_option linter.unusedSimpArgs false
set_option linter.unusedVariables false
namespace Go.Ago
theorem scal_lay2 {q : Bool → Bool → Bool} (x : (sp_lay2 q).A) (ok : Prop) (sz : Nat) (l : List (List DV)) (h : (sp_lay2 q).out x = .rows ok sz l) : ∀ r ∈ l, ∀ y ∈ r, DV.scal y = true := by
  simp only [sp_lay2, SpecR.rows.injEq] at h
  rw [← h.2.2]; exact scal_W
theorem bodyD_rel_Union {T : Tab} {n1 n2 n_rel_Union_1 n_rel_Inter_1 n_rel_Minus_1 n_rel_Plus_1 : Nat} (k1 : Knows T n1 (sp_lay (hs4 n_rel_Union_1 n_rel_Inter_1 n_rel_Minus_1 n_rel_Plus_1))) (e1 : hs4 n_rel_Union_1 n_rel_Inter_1 n_rel_Minus_1 n_rel_Plus_1 n2 = some orW) :
    (Sp.dat (sp_lay2 qOr)).Body T V_rel_Union (L_rel_Union n1 n2) R_rel_Union := (body_rel_Union k1 e1).dat scal_lay2
theorem bodyD_rel_Inter {T : Tab} {n1 n2 n_rel_Union_1 n_rel_Inter_1 n_rel_Minus_1 n_rel_Plus_1 : Nat} (k1 : Knows T n1 (sp_lay (hs4 n_rel_Union_1 n_rel_Inter_1 n_rel_Minus_1 n_rel_Plus_1))) (e1 : hs4 n_rel_Union_1 n_rel_Inter_1 n_rel_Minus_1 n_rel_Plus_1 n2 = some andW) :
    (Sp.dat (sp_lay2 qAnd)).Body T V_rel_Inter (L_rel_Inter n1 n2) R_rel_Inter := (body_rel_Inter k1 e1).dat scal_lay2
theorem bodyD_rel_Minus {T : Tab} {n1 n2 n_rel_Union_1 n_rel_Inter_1 n_rel_Minus_1 n_rel_Plus_1 : Nat} (k1 : Knows T n1 (sp_lay (hs4 n_rel_Union_1 n_rel_Inter_1 n_rel_Minus_1 n_rel_Plus_1))) (e1 : hs4 n_rel_Union_1 n_rel_Inter_1 n_rel_Minus_1 n_rel_Plus_1 n2 = some minusW) :
    (Sp.dat (sp_lay2 qMinus)).Body T V_rel_Minus (L_rel_Minus n1 n2) R_rel_Minus := (body_rel_Minus k1 e1).dat scal_lay2
theorem bodyD_rel_Then {T : Tab} {n1 n2 n3 : Nat} (k1 : Knows T n1 sp_size) (k2 : Knows T n2 sp_row) (k3 : Knows T n3 sp_tz) : (Sp.dat sp_Then).Body T V_rel_Then (L_rel_Then n1 n2 n3) R_rel_Then :=
  (body_rel_Then k1 k2 k3).dat (fun x ok sz l h => by simp only [sp_Then, SpecR.rows.injEq] at h; rw [← h.2.2]; exact scal_W)
theorem bodyD_rel_Star {T : Tab} {n1 : Nat} (k1 : Knows T n1 sp_Plus) : (Sp.dat sp_Star).Body T V_rel_Star (L_rel_Star n1) R_rel_Star :=
  (body_rel_Star k1).dat (fun x ok sz l h => by simp only [sp_Star, SpecR.rows.injEq] at h; rw [← h.2.2]; exact scal_W)
end Go.Ago

/- The laws of layer 19: PowerNone. Conditions: none. -/
set_option maxRecDepth 100000
set_option linter.unusedSimpArgs false
set_option linter.unusedVariables false
namespace Go.Ago

/-- Nothing stands to anything. -/
def Zr (r : List W) : Prop := ∀ i k, hasN r i k = false
theorem Zr.lay2 {q : Bool → Bool → Bool} (hq : q false false = false) {a b : List W} (ha : Zr a) (hb : Zr b) : Zr (lay2 q a b) := fun i k => by
  rw [hasN_lay2 hq, ha, hb, hq]
theorem Zr.and {a b : List W} (hb : Zr b) : Zr (Go.Ago.lay2 qAnd a b) := fun i k => by
  rw [hasN_lay2 rfl, hb]; simp [qAnd]
theorem Zr.orL {l : List (List W)} (h : ∀ r ∈ l, Zr r) : Zr (Go.Ago.orL l) := fun i k => by
  rw [hasN_orL, List.any_eq_false]
  intro r hr; rw [h r hr]; simp
theorem Zr.keep {r : List W} {a b : W} (h : Zr r) : Zr (keepG r a b) := fun i k => by
  have := h i k
  unfold hasN at this ⊢
  have hl : szR (keepG r a b) = szR r := by unfold szR; rw [keepG_len]
  rw [hl]
  by_cases hi : i < szR r
  · have hr := szR_len r
    have e : (keepG r a b).getD i 0#64 = if a.getLsbD i then r.getD i 0#64 &&& b else 0#64 := by unfold keepG; rw [mapW_get (by omega)]
    rw [e]
    by_cases hk : k < szR r
    · simp only [hi, hk, decide_true, Bool.true_and] at this ⊢
      split
      · rw [BitVec.getLsbD_and, this]; rfl
      · simp
    · simp [hk]
  · simp [hi]
theorem Zr.whereG {l : List NodeG} {q : NodeG → NodeG → Bool} {r : List W} (hl : r.length ≤ 64) (h : Zr r) : Zr (Go.Ago.whereG l q r) := fun i k => by
  unfold Go.Ago.whereG
  rw [hasN_mk hl, h]; simp
attribute [local irreducible] orL thenG lay2 whereG keepG mkR cntR starG
/-! ### awake -/
def nodesA : List NodeG := [⟨0, 1, 0, 0⟩, ⟨0, 2, 1, 0⟩, ⟨1, 1, 1, 0⟩, ⟨1, 2, 0, 0⟩]
def nilX : List W × Bool := ([], true)
def poA : List W × Bool := ([2, 0, 8, 0], false)
def rfA : List W × Bool := ([0, 4, 0, 1], false)
def xA : XG := ⟨nodesA, false, poA, rfA, nilX, nilX, nilX, nilX, nilX, nilX, nilX, nilX, nilX⟩
def yA : XG := ⟨nodesA, false, poA, rfA, nilX, nilX, nilX, nilX, poA, nilX, nilX, nilX, nilX⟩
theorem ok_xA : xA.Ok := by constructor <;> exact Nat.le_of_ble_eq_true rfl
theorem ok_yA : yA.Ok := by constructor <;> exact Nat.le_of_ble_eq_true rfl
theorem check_xA : (ofXG xA).check = 0 := by decide +kernel
theorem check_yA : (ofXG yA).check = 2 := by decide +kernel
theorem ppo_yA : hasI (ofXG yA).ppo 0 1 = true := by decide +kernel
theorem at_checkA : sp_Check.at [.agg [.d (.list [[.int .i64 0, .int .i64 1, .int .i64 0, .int .i64 0], [.int .i64 0, .int .i64 2, .int .i64 1, .int .i64 0], [.int .i64 1, .int .i64 1, .int .i64 1, .int .i64 0], [.int .i64 1, .int .i64 2, .int .i64 0, .int .i64 0]] false), .d (.list [[.int .u64 2], [.int .u64 0], [.int .u64 8], [.int .u64 0]] false), .d (.list [[.int .u64 0], [.int .u64 4], [.int .u64 0], [.int .u64 1]] false), .d (.list [] true), .d (.list [] true), .d (.list [] true), .d (.list [] true), .d (.list [] true), .d (.list [] true), .d (.list [] true), .d (.list [] true), .d (.list [] true)]] = .data (xA.Ok ∧ (ofXG xA).Ok) (.d (.int .i64 (ofXG xA).check)) true := at_CheckX xA
theorem at_checkB : sp_Check.at [.agg [.d (.list [[.int .i64 0, .int .i64 1, .int .i64 0, .int .i64 0], [.int .i64 0, .int .i64 2, .int .i64 1, .int .i64 0], [.int .i64 1, .int .i64 1, .int .i64 1, .int .i64 0], [.int .i64 1, .int .i64 2, .int .i64 0, .int .i64 0]] false), .d (.list [[.int .u64 2], [.int .u64 0], [.int .u64 8], [.int .u64 0]] false), .d (.list [[.int .u64 0], [.int .u64 4], [.int .u64 0], [.int .u64 1]] false), .d (.list [] true), .d (.list [] true), .d (.list [] true), .d (.list [] true), .d (.list [[.int .u64 2], [.int .u64 0], [.int .u64 8], [.int .u64 0]] false), .d (.list [] true), .d (.list [] true), .d (.list [] true), .d (.list [] true)]] = .data (yA.Ok ∧ (ofXG yA).Ok) (.d (.int .i64 (ofXG yA).check)) true := at_CheckX yA
theorem at_ppoB : sp_Ppo.at [.agg [.d (.list [[.int .i64 0, .int .i64 1, .int .i64 0, .int .i64 0], [.int .i64 0, .int .i64 2, .int .i64 1, .int .i64 0], [.int .i64 1, .int .i64 1, .int .i64 1, .int .i64 0], [.int .i64 1, .int .i64 2, .int .i64 0, .int .i64 0]] false), .d (.list [[.int .u64 2], [.int .u64 0], [.int .u64 8], [.int .u64 0]] false), .d (.list [[.int .u64 0], [.int .u64 4], [.int .u64 0], [.int .u64 1]] false), .d (.list [] true), .d (.list [] true), .d (.list [] true), .d (.list [] true), .d (.list [[.int .u64 2], [.int .u64 0], [.int .u64 8], [.int .u64 0]] false), .d (.list [] true), .d (.list [] true), .d (.list [] true), .d (.list [] true)]] = .data (yA.Ok ∧ (ofXG yA).Ok) (.d (.list ((ofXG yA).ppo.map rowW) false)) false := at_PpoX yA
theorem body_law19_awake {T : Tab} {n1 n2 n3 : Nat} (k1 : Knows T n1 sp_Check) (k2 : Knows T n2 sp_Ppo) (k3 : Knows T n3 sp_Has) : sp_true.Body T V_law19_awake (L_law19_awake n1 n2 n3) R_law19_awake := by
  have F1 := k1.F; have G1 := k1.G; have F2 := k2.F; have G2 := k2.G; have F3 := k3.F; have G3 := k3.G
  rintro ⟨⟩ -
  refine .inl ⟨rfl, ?_⟩
  unfold V_law19_awake L_law19_awake R_law19_awake
  simp only [↓Z1d, ↓Z2b, ↓Z1t, ↓Z05, ↓Z2q, ↓Z2k, Z49, Z4a, ↓Z20, ↓Z1c, ↓Z0i, ↓Z1u, ↓Z12, ↓Z1z, ↓Z2z, ↓Z30, ↓Z23, ↓Z1s, ↓Z2d, ↓Z28, ↓Z1y, ↓Z3m, ↓Z46, ↓Z3e, ↓Z3g, ↓Z3f, ↓Z3v, ↓Z3q, ↓Z44, ↓Z0j, ↓Z0b, ↓Z16, ↓Z0h, ↓Z1g, Z4d, Z0a, Z18, Z32, Z1a, Z35, evN, Z2s, Z1x, Z34, Z41, Z1w, Z19, Z1v, Z2p, Z2a, Z29, Z1e, Z2x, evT, Opd.ev, Z04, Z01, Z33, Z3x, Z3o, Z26, Z1f, Z2w, Z2y, Z3c, Z22, Z14, Z3r, LOp.isNew, State.prune, Z3s, Z3j, AV.leaf, Heap.at, Z0g, Z08, Z1m, Z0e, Z02, Z4x, Z4t, rowW, Z24, Z2t, Z1p, Z1b, rowB, Z2v, Z2u, rowN, Z4b, Z3h, Z17, Z15, w_or, Z4r, Z2r, Z45, Z50, Z42, Z4s, Z47, Z4z, Z4y, Z4u, Z4v, Z4w, w_eq, Bool.decide_eq_true, Z3b, Z3a, Z39, Z2f, Z1h, Z03, Z09, Z11, Z00, Z21, rowI, RatG.row, LocG.row, ActG.row, StepG.row, StampG.row, ActG.av, ActG.eta, RatG.eta, LocG.eta, beq_true, beq_false, Z2j, Z2o, Z2c, Z2l, Z10, Z0n, Z0y, Z0z, Z0m, Z0l, Z0c, List.length_set, List.length_replicate, Z06, Int.reduceToNat, Z4o, Z27, Z4e, Src.all, Src.len, Src.leaf, Src.leafN, Z37, Z3z, Z4k, Z0k, Z0o, Z0p, Z0q, Z0r, Z0s, Z0t, Z0u, Z4m, drows, evMk, List.length_map, Z1r, Z1q, List.take_length, List.take_left, List.length_append, Nat.le_add_right, ite_self, List.take_of_length_le, Z38, Z4j, Z3w, Option.isSome_none, Option.isSome_some, Nat.sub_zero, Z4i, Z4p, Z4g, evUn, Z0v, Z13, binT, binQ, chk, Z3t, List.contains_cons, List.contains_nil, Bool.or_false, Bool.false_or, Bool.and_self, resQ, resV, resT, Z4q, Z2e, Z43, Z3l, fnOf, Z3k, isD, HO.drow, Z4f, Z3u, evEq, eqV, eqK, eqC1, Z40, Z3y, Z36, Z31, Z48, Z3d, Z2i, Z1k, Z2h, Z1j, Z2g, Z1i, Z1l, Z0w, Z0x, Z0d, List.mem_cons, List.not_mem_nil, or_false, forall_eq, putRow, Z3n, Z25, RetS, RetF, RetD, AV.frz, AV.frzL, AV.freshP, AV.freshL, DV.less, Z2m, Z1n, Z2n, Z1o, Z0f, Z07, Option.some.injEq, AV.tup.injEq, AV.agg.injEq, List.cons.injEq, DV.list.injEq, List.isEmpty_nil, Nat.le_refl, AV.d.injEq, DV.int.injEq, DV.bool.injEq, ↓reduceIte, Nat.reduceEqDiff, Nat.reduceAdd, Nat.reduceBEq, List.length_cons, List.length_nil, List.replicate_succ, List.replicate_zero, List.nil_append, List.cons_append, List.append_nil, List.foldl_cons, List.foldl_nil, List.map_cons, List.map_nil, List.all_cons, List.all_nil, List.set_cons_zero, List.set_cons_succ, List.getD_cons_zero, List.getD_cons_succ, List.drop_zero, List.drop_succ_cons, List.take_succ_cons, List.take_zero, List.flatten_cons, List.flatten_nil, Bool.true_and, Bool.and_true, Bool.not_true, Bool.not_false, true_and, and_true, true_or, or_true, Option.bind_some, Option.map_some, decide_true, decide_false, beq_self_eq_true, true_implies, false_implies, implies_true, not_true_eq_false, not_false_eq_true, and_self, Bool.and_false, Bool.false_and, Nat.reduceLT, Nat.reduceLeDiff, List.reverse_cons, List.reverse_nil, Nat.zero_add, Nat.add_zero, Bool.false_eq_true, List.getElem?_cons_zero, Nat.reduceMul, Nat.mul_one, sp_true, F1, G1, F2, G2, F3, G3, at_checkA, at_checkB, at_ppoB, at_Has, check_xA, check_yA, ppo_yA]
  exact ⟨⟨ok_xA, ofXG_ok _⟩, ⟨ok_yA, ofXG_ok _⟩, ⟨ok_yA, ofXG_ok _⟩, le_M (by rw [ppo_64]; trivial)⟩
end Go.Ago

/- The laws of layer 19: PowerRenamed. Conditions: none. -/
set_option maxRecDepth 100000
set_option linter.unusedSimpArgs false
set_option linter.unusedVariables false
namespace Go.Ago
def sp_few : Sp := ⟨XG, fun x => [x.av], fun x => .data True (.d (.bool (decide (x.nodes.length ≤ 14)))) true⟩
theorem at_fewX (x : XG) : sp_few.at [x.av] = .data True (.d (.bool (decide (x.nodes.length ≤ 14)))) true :=
  Sp.at_enc (s := sp_few) (fun (x y : XG) h => by
    simp only [sp_few, List.cons.injEq, and_true] at h
    exact XG.av_inj _ _ h) x
theorem body_law19_few {T : Tab} : sp_few.Body T V_law19_few L_law19_few R_law19_few := by
  rintro (x : XG) -
  refine .inl ⟨rfl, ?_⟩
  unfold V_law19_few L_law19_few R_law19_few
  simp only [↓Z1d, ↓Z2b, ↓Z1t, ↓Z05, ↓Z2q, ↓Z2k, Z49, Z4a, ↓Z20, ↓Z1c, ↓Z0i, ↓Z1u, ↓Z12, ↓Z1z, ↓Z2z, ↓Z30, ↓Z23, ↓Z1s, ↓Z2d, ↓Z28, ↓Z1y, ↓Z3m, ↓Z46, ↓Z3e, ↓Z3g, ↓Z3f, ↓Z3v, ↓Z3q, ↓Z44, ↓Z0j, ↓Z0b, ↓Z16, ↓Z0h, ↓Z1g, Z4d, Z0a, Z18, Z32, Z1a, Z35, evN, Z2s, Z1x, Z34, Z41, Z1w, Z19, Z1v, Z2p, Z2a, Z29, Z1e, Z2x, evT, Opd.ev, Z04, Z01, Z33, Z3x, Z3o, Z26, Z1f, Z2w, Z2y, Z3c, Z22, Z14, Z3r, LOp.isNew, State.prune, Z3s, Z3j, AV.leaf, Heap.at, Z0g, Z08, Z1m, Z0e, Z02, Z4x, Z4t, rowW, Z24, Z2t, Z1p, Z1b, rowB, Z2v, Z2u, rowN, Z4b, Z3h, Z17, Z15, w_or, Z4r, Z2r, Z45, Z50, Z42, Z4s, Z47, Z4z, Z4y, Z4u, Z4v, Z4w, w_eq, Bool.decide_eq_true, Z3b, Z3a, Z39, Z2f, Z1h, Z03, Z09, Z11, Z00, Z21, rowI, RatG.row, LocG.row, ActG.row, StepG.row, StampG.row, ActG.av, ActG.eta, RatG.eta, LocG.eta, beq_true, beq_false, Z2j, Z2o, Z2c, Z2l, Z10, Z0n, Z0y, Z0z, Z0m, Z0l, Z0c, List.length_set, List.length_replicate, Z06, Int.reduceToNat, Z4o, Z27, Z4e, Src.all, Src.len, Src.leaf, Src.leafN, Z37, Z3z, Z4k, Z0k, Z0o, Z0p, Z0q, Z0r, Z0s, Z0t, Z0u, Z4m, drows, evMk, List.length_map, Z1r, Z1q, List.take_length, List.take_left, List.length_append, Nat.le_add_right, ite_self, List.take_of_length_le, Z38, Z4j, Z3w, Option.isSome_none, Option.isSome_some, Nat.sub_zero, Z4i, Z4p, Z4g, evUn, Z0v, Z13, binT, binQ, chk, Z3t, List.contains_cons, List.contains_nil, Bool.or_false, Bool.false_or, Bool.and_self, resQ, resV, resT, Z4q, Z2e, Z43, Z3l, fnOf, Z3k, isD, HO.drow, Z4f, Z3u, evEq, eqV, eqK, eqC1, Z40, Z3y, Z36, Z31, Z48, Z3d, Z2i, Z1k, Z2h, Z1j, Z2g, Z1i, Z1l, Z0w, Z0x, Z0d, List.mem_cons, List.not_mem_nil, or_false, forall_eq, putRow, Z3n, Z25, RetS, RetF, RetD, AV.frz, AV.frzL, AV.freshP, AV.freshL, DV.less, Z2m, Z1n, Z2n, Z1o, Z0f, Z07, Option.some.injEq, AV.tup.injEq, AV.agg.injEq, List.cons.injEq, DV.list.injEq, List.isEmpty_nil, Nat.le_refl, AV.d.injEq, DV.int.injEq, DV.bool.injEq, ↓reduceIte, Nat.reduceEqDiff, Nat.reduceAdd, Nat.reduceBEq, List.length_cons, List.length_nil, List.replicate_succ, List.replicate_zero, List.nil_append, List.cons_append, List.append_nil, List.foldl_cons, List.foldl_nil, List.map_cons, List.map_nil, List.all_cons, List.all_nil, List.set_cons_zero, List.set_cons_succ, List.getD_cons_zero, List.getD_cons_succ, List.drop_zero, List.drop_succ_cons, List.take_succ_cons, List.take_zero, List.flatten_cons, List.flatten_nil, Bool.true_and, Bool.and_true, Bool.not_true, Bool.not_false, true_and, and_true, true_or, or_true, Option.bind_some, Option.map_some, decide_true, decide_false, beq_self_eq_true, true_implies, false_implies, implies_true, not_true_eq_false, not_false_eq_true, and_self, Bool.and_false, Bool.false_and, Nat.reduceLT, Nat.reduceLeDiff, List.reverse_cons, List.reverse_nil, Nat.zero_add, Nat.add_zero, Bool.false_eq_true, List.getElem?_cons_zero, Nat.reduceMul, Nat.mul_one, sp_few, XG.av]
  congr 1; apply propext; omega
def XG.with (x : XG) (l : List NodeG) (f : Bool) : XG := { x with nodes := l, nf := f }
/-! ### Models that tell nodes apart alike -/
structure Alike (m m' : MG) : Prop where
  len : m'.nodes.length = m.nodes.length
  ap : ∀ r : List W, r.length ≤ m.nodes.length → whereG m'.nodes apartQ r = whereG m.nodes apartQ r
  lc : ∀ r : List W, r.length ≤ m.nodes.length → whereG m'.nodes locQ r = whereG m.nodes locQ r
  po : m'.po = m.po
  rf : m'.rf = m.rf
  co : m'.co = m.co
  fr : m'.fr = m.fr
  addr : m'.addr = m.addr
  data : m'.data = m.data
  ctrl : m'.ctrl = m.ctrl
  fenced : m'.fenced = m.fenced
  sync : m'.sync = m.sync
  lwsync : m'.lwsync = m.lwsync
  pairs : m'.pairs = m.pairs
  read : m'.read = m.read
  write : m'.write = m.write
section
variable {m m' : MG} (h : Alike m m') (hm : m.Ok)
include h hm
theorem Alike.rfe : m'.ext m'.rf = m.ext m.rf := by unfold MG.ext; rw [h.rf, h.ap _ (Nat.le_of_eq hm.rf.len)]
theorem Alike.fre : m'.ext m'.fr = m.ext m.fr := by unfold MG.ext; rw [h.fr, h.ap _ (Nat.le_of_eq hm.fr.len)]
theorem Alike.coe : m'.ext m'.co = m.ext m.co := by unfold MG.ext; rw [h.co, h.ap _ (Nat.le_of_eq hm.co.len)]
theorem Alike.poloc : m'.poloc = m.poloc := by unfold MG.poloc; rw [h.po, h.lc _ (Nat.le_of_eq hm.po.len)]
theorem Alike.start : m'.start = m.start := by
  unfold MG.start MG.dd
  rw [h.rfe hm, h.fre hm, h.coe hm, h.poloc hm, h.po, h.rf, h.addr, h.data, h.ctrl, h.fenced, h.len]
theorem Alike.ppo : m'.ppo = m.ppo := by
  unfold MG.ppo
  rw [h.start hm, h.read, h.write]
omit hm in
theorem Alike.fence : m'.fence = m.fence := by
  unfold MG.fence
  rw [h.sync, h.lwsync, h.read, h.write]
theorem Alike.hb : m'.hb = m.hb := by
  unfold MG.hb
  rw [h.ppo hm, h.fence, h.rfe hm]
omit hm in
theorem Alike.com : m'.com = m.com := by
  unfold MG.com
  rw [h.rf, h.co, h.fr]
theorem Alike.base : m'.base = m.base := by
  unfold MG.base
  rw [h.fence, h.rfe hm, h.hb hm]
theorem Alike.strong : m'.strong = m.strong := by
  unfold MG.strong
  rw [h.com, h.base hm, h.sync, h.hb hm]
theorem Alike.prop : m'.prop = m.prop := by
  unfold MG.prop
  rw [h.base hm, h.strong hm, h.write]
theorem Alike.check : m'.check = m.check := by
  have e : m'.seen = m.seen := by unfold MG.seen; rw [h.fre hm, h.prop hm, h.hb hm]
  unfold MG.check
  rw [h.poloc hm, h.com, h.hb hm, e, h.coe hm, h.co, h.prop hm, h.pairs, h.fre hm]
end
end Go.Ago

/- The laws of layer 19: an execution as an argument. Conditions: none. -/
set_option maxRecDepth 100000
set_option linter.unusedVariables false
namespace Go.Ago
abbrev shRelX : Sh := .sl (.int .u64)
abbrev shExec : Sh := .st [.sl shAct, shRelX, shRelX, shRelX, shRelX, shRelX, shRelX, shRelX, shRelX, shRelX, shRelX, shRelX]
theorem has_relX {r : List DV} (h : shRelX.has r) : ∃ x : List W × Bool, r = [lsX x] ∧ x.1.length ≤ maxLen := by
  obtain ⟨l, f, rfl, -, hl⟩ := has_list (f := rowW) (ok := fun _ => True) (fun _ h => has_rowW h) h
  exact ⟨(l, f), rfl, hl⟩
theorem has_exec {r : List DV} (h : shExec.has r) : ∃ x : XG, r = x.cells ∧ x.Ok := by
  obtain ⟨x0, y0, rfl, h0, g0⟩ := hasL_cons (has_st h)
  obtain ⟨x1, y1, rfl, h1, g1⟩ := hasL_cons g0
  obtain ⟨x2, y2, rfl, h2, g2⟩ := hasL_cons g1
  obtain ⟨x3, y3, rfl, h3, g3⟩ := hasL_cons g2
  obtain ⟨x4, y4, rfl, h4, g4⟩ := hasL_cons g3
  obtain ⟨x5, y5, rfl, h5, g5⟩ := hasL_cons g4
  obtain ⟨x6, y6, rfl, h6, g6⟩ := hasL_cons g5
  obtain ⟨x7, y7, rfl, h7, g7⟩ := hasL_cons g6
  obtain ⟨x8, y8, rfl, h8, g8⟩ := hasL_cons g7
  obtain ⟨x9, y9, rfl, h9, g9⟩ := hasL_cons g8
  obtain ⟨x10, y10, rfl, h10, g10⟩ := hasL_cons g9
  obtain ⟨x11, y11, rfl, h11, g11⟩ := hasL_cons g10
  obtain rfl := hasL_nil g11
  obtain ⟨l, f, rfl, -, hl⟩ := has_list (f := ActG.row) (ok := ActG.inn) (fun _ h => has_act h) h0
  obtain ⟨po, rfl, k1⟩ := has_relX h1
  obtain ⟨rf, rfl, k2⟩ := has_relX h2
  obtain ⟨co, rfl, k3⟩ := has_relX h3
  obtain ⟨fr, rfl, k4⟩ := has_relX h4
  obtain ⟨addr, rfl, k5⟩ := has_relX h5
  obtain ⟨data, rfl, k6⟩ := has_relX h6
  obtain ⟨ctrl, rfl, k7⟩ := has_relX h7
  obtain ⟨fenced, rfl, k8⟩ := has_relX h8
  obtain ⟨sync, rfl, k9⟩ := has_relX h9
  obtain ⟨lwsync, rfl, k10⟩ := has_relX h10
  obtain ⟨pairs, rfl, k11⟩ := has_relX h11
  exact ⟨⟨l, f, po, rf, co, fr, addr, data, ctrl, fenced, sync, lwsync, pairs⟩, rfl, hl, k1, k2, k3, k4, k5, k6, k7, k8, k9, k10, k11⟩
end Go.Ago

/- Law PowerJudges. Conditions: none. -/
set_option maxRecDepth 100000
set_option linter.unusedSimpArgs false
set_option linter.unusedVariables false
namespace Go.Ago
attribute [local irreducible] orL thenG lay2 whereG keepG mkR cntR partG starG vck ringG
/-- What the words of the model speak of. -/
def MG.core (m : MG) : MG := ⟨m.nodes, false, [], false, m.po, m.rf, m.co, m.fr, m.addr, m.data, m.ctrl, m.fenced, m.sync, m.lwsync, m.pairs, m.read, m.write⟩
theorem core_ppo (m : MG) : m.core.ppo = m.ppo := rfl
theorem core_prop (m : MG) : m.core.prop = m.prop := rfl
theorem core_check (m : MG) : m.core.check = m.check := rfl
theorem fit_fitR (r : List W × Bool) {n : Nat} (hn : n ≤ 64) : fitX r n = fitR r.1 n := by
  unfold fitX fitG fitR
  refine Z4h fun i k hi hk => ?_
  unfold bitR hasN szR
  rw [trimG_len]
  by_cases h : i < r.1.length
  · have : (trimG r.1 n).getD i 0#64 = r.1.getD i 0#64 := by
      unfold trimG
      rw [List.getD_eq_getElem?_getD, List.getElem?_append_left (by rw [List.length_take]; omega), List.getElem?_take, if_pos hi, ← List.getD_eq_getElem?_getD]
    rw [this]
    simp [h]
    omega
  · have : (trimG r.1 n).getD i 0#64 = 0#64 := by
      unfold trimG
      rw [List.getD_eq_getElem?_getD, List.getElem?_append_right (by rw [List.length_take]; omega), List.getElem?_replicate]
      split <;> rfl
    rw [this]
    simp [h]
theorem kindW_take (l : List NodeG) (q : Int) (n : Nat) : kindW (l.take n) q n = kindW l q n := by
  unfold kindW
  refine ofB_congr fun k hk _ => ?_
  rw [List.getD_eq_getElem?_getD, List.getElem?_take, if_pos hk, ← List.getD_eq_getElem?_getD]
theorem fitted_core (x : XG) : (mgR (fitted x)).core = (ofXG x).core := by
  have hn := n_le x
  have hl : (x.nodes.take x.n).length = x.n := ofXG_len x
  unfold MG.core mgR fitted ofXG
  simp only [fit_fitR _ hn, hl, kindW_take]
theorem core_ok {m : MG} (h : m.Ok) : m.core.Ok := ⟨h.n, h.po, h.rf, h.co, h.fr, h.addr, h.data, h.ctrl, h.fenced, h.sync, h.lwsync, h.pairs⟩
theorem ok_core {m : MG} (h : m.core.Ok) : m.Ok := ⟨h.n, h.po, h.rf, h.co, h.fr, h.addr, h.data, h.ctrl, h.fenced, h.sync, h.lwsync, h.pairs⟩
theorem fitted_ok (x : XG) : (mgR (fitted x)).Ok := ok_core (by rw [fitted_core]; exact core_ok (ofXG_ok x))
theorem fitted_ppo (x : XG) : (mgR (fitted x)).ppo = (ofXG x).ppo := by rw [← core_ppo, fitted_core, core_ppo]
theorem fitted_prop (x : XG) : (mgR (fitted x)).prop = (ofXG x).prop := by rw [← core_prop, fitted_core, core_prop]
theorem fitted_check (x : XG) : (mgR (fitted x)).check = (ofXG x).check := by rw [← core_check, fitted_core, core_check]
theorem at_fewXJ (x : XG) : sp_few.at [.agg [.d (.list (x.nodes.map ActG.row) x.nf), .d (lsX x.po), .d (lsX x.rf), .d (lsX x.co), .d (lsX x.fr), .d (lsX x.addr), .d (lsX x.data), .d (lsX x.ctrl), .d (lsX x.fenced), .d (lsX x.sync), .d (lsX x.lwsync), .d (lsX x.pairs)]] = .data True (.d (.bool (decide (x.nodes.length ≤ 14)))) true := at_fewX x
theorem at_FittedJ (x : XG) : sp_Fitted.at [.agg [.d (.list (x.nodes.map ActG.row) x.nf), .d (lsX x.po), .d (lsX x.rf), .d (lsX x.co), .d (lsX x.fr), .d (lsX x.addr), .d (lsX x.data), .d (lsX x.ctrl), .d (lsX x.fenced), .d (lsX x.sync), .d (lsX x.lwsync), .d (lsX x.pairs)]] = .data x.Ok (fitted x).av false := at_Fitted x
theorem at_PpoXJ (x : XG) : sp_Ppo.at [.agg [.d (.list (x.nodes.map ActG.row) x.nf), .d (lsX x.po), .d (lsX x.rf), .d (lsX x.co), .d (lsX x.fr), .d (lsX x.addr), .d (lsX x.data), .d (lsX x.ctrl), .d (lsX x.fenced), .d (lsX x.sync), .d (lsX x.lwsync), .d (lsX x.pairs)]] = .data (x.Ok ∧ (ofXG x).Ok) (.d (.list ((ofXG x).ppo.map rowW) false)) false := at_PpoX x
theorem at_PropXJ (x : XG) : sp_Prop.at [.agg [.d (.list (x.nodes.map ActG.row) x.nf), .d (lsX x.po), .d (lsX x.rf), .d (lsX x.co), .d (lsX x.fr), .d (lsX x.addr), .d (lsX x.data), .d (lsX x.ctrl), .d (lsX x.fenced), .d (lsX x.sync), .d (lsX x.lwsync), .d (lsX x.pairs)]] = .data (x.Ok ∧ (ofXG x).Ok) (.d (.list ((ofXG x).prop.map rowW) false)) false := at_PropX x
theorem at_CheckXJ (x : XG) : sp_Check.at [.agg [.d (.list (x.nodes.map ActG.row) x.nf), .d (lsX x.po), .d (lsX x.rf), .d (lsX x.co), .d (lsX x.fr), .d (lsX x.addr), .d (lsX x.data), .d (lsX x.ctrl), .d (lsX x.fenced), .d (lsX x.sync), .d (lsX x.lwsync), .d (lsX x.pairs)]] = .data (x.Ok ∧ (ofXG x).Ok) (.d (.int .i64 (ofXG x).check)) true := at_CheckX x
theorem at_PpoRJ (x : XG) : sp_PpoR.at [.agg [.d (.list (x.nodes.map ActG.row) x.nf), .d (lsX x.po), .d (lsX x.rf), .d (lsX x.co), .d (lsX x.fr), .d (lsX x.addr), .d (lsX x.data), .d (lsX x.ctrl), .d (lsX x.fenced), .d (lsX x.sync), .d (lsX x.lwsync), .d (lsX x.pairs)]] = .data (mgR x).Ok (.d (.list ((mgR x).ppo.map rowW) false)) false := at_PpoR x
theorem at_PropRJ (x : XG) : sp_PropR.at [.agg [.d (.list (x.nodes.map ActG.row) x.nf), .d (lsX x.po), .d (lsX x.rf), .d (lsX x.co), .d (lsX x.fr), .d (lsX x.addr), .d (lsX x.data), .d (lsX x.ctrl), .d (lsX x.fenced), .d (lsX x.sync), .d (lsX x.lwsync), .d (lsX x.pairs)]] = .data (mgR x).Ok (.d (.list ((mgR x).prop.map rowW) false)) false := at_PropR x
theorem at_CheckRJ (x : XG) : sp_CheckR.at [.agg [.d (.list (x.nodes.map ActG.row) x.nf), .d (lsX x.po), .d (lsX x.rf), .d (lsX x.co), .d (lsX x.fr), .d (lsX x.addr), .d (lsX x.data), .d (lsX x.ctrl), .d (lsX x.fenced), .d (lsX x.sync), .d (lsX x.lwsync), .d (lsX x.pairs)]] = .data (mgR x).Ok (.d (.int .i64 (mgR x).check)) true := at_CheckR x
set_option maxHeartbeats 4000000 in
theorem law_PowerJudges {T : Tab} {n1 n2 n3 n4 n5 n6 n7 n8 n9 n10 : Nat} (k1 : Knows T n1 sp_true) (k2 : Knows T n2 sp_Check) (k3 : Knows T n3 sp_few) (k4 : Knows T n4 sp_sameW) (k5 : Knows T n5 sp_Ppo) (k6 : Knows T n6 sp_Fitted) (k7 : Knows T n7 sp_PpoR) (k8 : Knows T n8 sp_Prop) (k9 : Knows T n9 sp_PropR) (k10 : Knows T n10 sp_CheckR) (x : XG) (hx : x.Ok) :
    Holds T V_law19_PowerJudges (L_law19_PowerJudges n1 n2 n3 n4 n5 n6 n7 n8 n9 n10) R_law19_PowerJudges [x.av] := by
  have F1 := k1.F; have G1 := k1.G; have F2 := k2.F; have G2 := k2.G; have F3 := k3.F; have G3 := k3.G; have F4 := k4.F; have G4 := k4.G; have F5 := k5.F; have G5 := k5.G
  have F6 := k6.F; have G6 := k6.G; have F7 := k7.F; have G7 := k7.G; have F8 := k8.F; have G8 := k8.G; have F9 := k9.F; have G9 := k9.G; have F10 := k10.F; have G10 := k10.G
  unfold Holds V_law19_PowerJudges L_law19_PowerJudges R_law19_PowerJudges
  simp (maxSteps := 3000000) only [↓Z1d, ↓Z2b, ↓Z1t, ↓Z05, ↓Z2q, ↓Z2k, Z49, Z4a, ↓Z20, ↓Z1c, ↓Z0i, ↓Z1u, ↓Z12, ↓Z1z, ↓Z2z, ↓Z30, ↓Z23, ↓Z1s, ↓Z2d, ↓Z28, ↓Z1y, ↓Z3m, ↓Z46, ↓Z3e, ↓Z3g, ↓Z3f, ↓Z3v, ↓Z3q, ↓Z44, ↓Z0j, ↓Z0b, ↓Z16, ↓Z0h, ↓Z1g, Z4d, Z0a, Z18, Z32, Z1a, Z35, evN, Z2s, Z1x, Z34, Z41, Z1w, Z19, Z1v, Z2p, Z2a, Z29, Z1e, Z2x, evT, Opd.ev, Z04, Z01, Z33, Z3x, Z3o, Z26, Z1f, Z2w, Z2y, Z3c, Z22, Z14, Z3r, LOp.isNew, State.prune, Z3s, Z3j, AV.leaf, Heap.at, Z0g, Z08, Z1m, Z0e, Z02, Z4x, Z4t, rowW, Z24, Z2t, Z1p, Z1b, rowB, Z2v, Z2u, rowN, Z4b, Z3h, Z17, Z15, w_or, Z4r, Z2r, Z45, Z50, Z42, Z4s, Z47, Z4z, Z4y, Z4u, Z4v, Z4w, w_eq, Bool.decide_eq_true, Z3b, Z3a, Z39, Z2f, Z1h, Z03, Z09, Z11, Z00, Z21, rowI, RatG.row, LocG.row, ActG.row, StepG.row, StampG.row, ActG.av, ActG.eta, RatG.eta, LocG.eta, beq_true, beq_false, Z2j, Z2o, Z2c, Z2l, Z10, Z0n, Z0y, Z0z, Z0m, Z0l, Z0c, List.length_set, List.length_replicate, Z06, Int.reduceToNat, Z4o, Z27, Z4e, Src.all, Src.len, Src.leaf, Src.leafN, Z37, Z3z, Z4k, Z0k, Z0o, Z0p, Z0q, Z0r, Z0s, Z0t, Z0u, Z4m, drows, evMk, List.length_map, Z1r, Z1q, List.take_length, List.take_left, List.length_append, Nat.le_add_right, ite_self, List.take_of_length_le, Z38, Z4j, Z3w, Option.isSome_none, Option.isSome_some, Nat.sub_zero, Z4i, Z4p, Z4g, evUn, Z0v, Z13, binT, binQ, chk, Z3t, List.contains_cons, List.contains_nil, Bool.or_false, Bool.false_or, Bool.and_self, resQ, resV, resT, Z4q, Z2e, Z43, Z3l, fnOf, Z3k, isD, HO.drow, Z4f, Z3u, evEq, eqV, eqK, eqC1, Z40, Z3y, Z36, Z31, Z48, Z3d, Z2i, Z1k, Z2h, Z1j, Z2g, Z1i, Z1l, Z0w, Z0x, Z0d, List.mem_cons, List.not_mem_nil, or_false, forall_eq, putRow, Z3n, Z25, RetS, RetF, RetD, AV.frz, AV.frzL, AV.freshP, AV.freshL, DV.less, Z2m, Z1n, Z2n, Z1o, Z0f, Z07, Option.some.injEq, AV.tup.injEq, AV.agg.injEq, List.cons.injEq, DV.list.injEq, List.isEmpty_nil, Nat.le_refl, AV.d.injEq, DV.int.injEq, DV.bool.injEq, ↓reduceIte, Nat.reduceEqDiff, Nat.reduceAdd, Nat.reduceBEq, List.length_cons, List.length_nil, List.replicate_succ, List.replicate_zero, List.nil_append, List.cons_append, List.append_nil, List.foldl_cons, List.foldl_nil, List.map_cons, List.map_nil, List.all_cons, List.all_nil, List.set_cons_zero, List.set_cons_succ, List.getD_cons_zero, List.getD_cons_succ, List.drop_zero, List.drop_succ_cons, List.take_succ_cons, List.take_zero, List.flatten_cons, List.flatten_nil, Bool.true_and, Bool.and_true, Bool.not_true, Bool.not_false, true_and, and_true, true_or, or_true, Option.bind_some, Option.map_some, decide_true, decide_false, beq_self_eq_true, true_implies, false_implies, implies_true, not_true_eq_false, not_false_eq_true, and_self, Bool.and_false, Bool.false_and, Nat.reduceLT, Nat.reduceLeDiff, List.reverse_cons, List.reverse_nil, Nat.zero_add, Nat.add_zero, Bool.false_eq_true, List.getElem?_cons_zero, Nat.reduceMul, Nat.mul_one, XG.av, at_true, at_fewXJ, at_FittedJ, at_PpoXJ, at_PropXJ, at_CheckXJ, at_PpoRJ, at_PropRJ, at_CheckRJ, F1, G1, F2, G2, F3, G3, F4, G4, F5, G5, F6, G6, F7, G7, F8, G8, F9, G9, F10, G10, at_sameW]
  intro _
  have hp : (ofXG x).ppo.length ≤ maxLen := by rw [ppo_M]; trivial
  have hq : (ofXG x).prop.length ≤ maxLen := by rw [show ((ofXG x).prop.length ≤ maxLen) = True from lay2_M _ _ _]; trivial
  have h1 := ofXG_ok x
  have h2 := fitted_ok x
  rw [fitted_ppo, fitted_prop, fitted_check]
  exact ⟨hx, ⟨hx, h1⟩, h2, hp, fun _ => ⟨⟨hx, h1⟩, h2, hq, fun _ => ⟨⟨hx, h1⟩, h2, by simp⟩, fun h => h rfl⟩, fun h => h rfl⟩
end Go.Ago
