/- hist.New. Conditions: none. -/
import Derived.Test.YtoicaaidleddfaaAgoP6
import Derived.Test.YtoicaaidleddfaaAgoP5
import Derived.Test.YtoicaaidleddfaaAgoP4
set_option maxRecDepth 100000
set_option linter.unusedSimpArgs false
set_option linter.unusedVariables false
namespace Go.Ago
def newErr (l : List LocG) (t : Int) : Int := if 16 < l.length ∨ t < 1 ∨ 3 < t then 1 else 0
def pastX (x : LocG) : StampsF := if x.atom then ([], true) else ([⟨⟨0, 1⟩, x.init⟩], false)
def valX (x : LocG) : Int := if x.atom then x.init else 0
def markX (n : Nat) (x : LocG) : RatsF := if x.atom then (startG n, false) else ([], true)
def frontX (n t : Nat) : List RatsF := List.replicate t (startG n, false)
def newM (l : List LocG) (t : Int) : MemG := if newErr l t = 0 then ⟨l, false, l.map pastX, false, l.map valX, false, l.map (markX l.length), false, frontX l.length t.toNat, false⟩ else .nil
def sp_New : Sp := ⟨List LocG × Bool × Int, fun x => [.d (.list (x.1.map LocG.row) x.2.1), .d (.int .i64 x.2.2)], fun x => .data (x.1.length ≤ maxLen) (.tup [(newM x.1 x.2.2).av, .d (.int .i64 (newErr x.1 x.2.2))]) false⟩
theorem at_New (l : List LocG) (f : Bool) (t : Int) : sp_New.at [.d (.list (l.map LocG.row) f), .d (.int .i64 t)] = .data (l.length ≤ maxLen) (.tup [(newM l t).av, .d (.int .i64 (newErr l t))]) false :=
  Sp.at_enc (s := sp_New) (fun x y h => by
    obtain ⟨l, f, t⟩ := x; obtain ⟨l', f', t'⟩ := y
    simp only [sp_New, List.cons.injEq, AV.d.injEq, DV.list.injEq, DV.int.injEq, and_true, true_and] at h
    rw [rows_inj LocG.row_inj h.1.1, h.1.2, h.2]) (l, f, t)
theorem mkVec_appd {sz : Nat} {L : List (List DV)} {x : DV} : mkVec sz (L.map (fun x => x.map AV.d) ++ [[.d x]]) = .dvec sz (L ++ [[x]]) := by
  have : L.map (fun x => x.map AV.d) ++ [[AV.d x]] = (L ++ [[x]]).map (·.map AV.d) := by simp
  rw [this]; exact mkVec_some (drows_d _)
theorem frontX_len (n k : Nat) : (frontX n k).length = k := List.length_replicate
theorem frontX_take (n k : Nat) : List.take k (frontX n k) = frontX n k := List.take_of_length_le (by rw [frontX_len]; exact Nat.le_refl _)
theorem frontX_succ (n k : Nat) : ((frontX n (k + 1)).map rowRats) = (frontX n k).map rowRats ++ [[.list ((startG n).map RatG.row) false]] := by
  unfold frontX; rw [List.replicate_succ', List.map_append]; rfl
def nobj : HO := .vec 5 [[.d (.list [] true), .d (.list [] true), .d (.list [] true), .d (.list [] true), .d (.list [] true)]]
def frSt0 (f : Bool) (t : Int) : Nat → State
  | 0 => ⟨[(0, .d (.list [] f)), (4, .ptr 0 5 0 0), (6, .ptr 2 5 0 0), (73, .d (.int .i64 t)), (74, .d (.int .i64 0))],
      [nobj, .dvec 2 [], .vec 5 [[.ref 1 2 0 0 true, .d (.list [] true), .d (.list [] true), .d (.list [] true), .d (.list [] true)]]]⟩
  | j + 1 => ⟨[(0, .d (.list [] f)), (4, .ptr 0 5 0 0), (6, .ptr 2 5 0 0), (73, .d (.int .i64 t)), (74, .d (.int .i64 ((j + 1 : Nat) : Int)))],
      [nobj, .dvec 2 [], .vec 5 [[.ref 1 2 0 0 true, .d (.list [] true), .d (.list [] true), .d (.list [] true), .ref 3 1 0 (j + 1) true]], .dvec 1 ((frontX 0 (j + 1)).map rowRats)]⟩
def frSt (l : List LocG) (f : Bool) (t : Int) : Nat → State
  | 0 => ⟨[(0, .d (.list (l.map LocG.row) f)), (4, .ptr 0 5 0 0), (6, .ptr 2 5 0 0), (73, .d (.int .i64 t)), (74, .d (.int .i64 0))],
      [nobj, .dvec 2 (l.map LocG.row), .vec 5 [[.ref 1 2 0 l.length true, .ref 3 1 0 l.length true, .ref 4 1 0 l.length true, .ref 5 1 0 l.length true, .d (.list [] true)]],
       .dvec 1 ((l.map pastX).map rowStamps), .dvec 1 ((l.map valX).map rowI), .dvec 1 ((l.map (markX l.length)).map rowRats)]⟩
  | j + 1 => ⟨[(0, .d (.list (l.map LocG.row) f)), (4, .ptr 0 5 0 0), (6, .ptr 2 5 0 0), (73, .d (.int .i64 t)), (74, .d (.int .i64 ((j + 1 : Nat) : Int)))],
      [nobj, .dvec 2 (l.map LocG.row), .vec 5 [[.ref 1 2 0 l.length true, .ref 3 1 0 l.length true, .ref 4 1 0 l.length true, .ref 5 1 0 l.length true, .ref 6 1 0 (j + 1) true]],
       .dvec 1 ((l.map pastX).map rowStamps), .dvec 1 ((l.map valX).map rowI), .dvec 1 ((l.map (markX l.length)).map rowRats), .dvec 1 ((frontX l.length (j + 1)).map rowRats)]⟩
def newSt (l : List LocG) (f : Bool) (t : Int) : Nat → State
  | 0 => ⟨[(0, .d (.list (l.map LocG.row) f)), (1, .d (.int .i64 t)), (4, .ptr 0 5 0 0), (24, .d (.list (l.map LocG.row) f)), (25, .d (.int .i64 l.length)), (26, .d (.int .i64 0)), (6, .ptr 2 5 0 0)],
      [.vec 5 [[.d (.list [] true), .d (.list [] true), .d (.list [] true), .d (.list [] true), .d (.list [] true)]], .dvec 2 (l.map LocG.row), .vec 5 [[.ref 1 2 0 l.length true, .d (.list [] true), .d (.list [] true), .d (.list [] true), .d (.list [] true)]]]⟩
  | i + 1 => ⟨[(0, .d (.list (l.map LocG.row) f)), (1, .d (.int .i64 t)), (4, .ptr 0 5 0 0), (24, .d (.list (l.map LocG.row) f)), (25, .d (.int .i64 l.length)), (26, .d (.int .i64 ((i + 1 : Nat) : Int))), (6, .ptr 2 5 0 0)],
      [.vec 5 [[.d (.list [] true), .d (.list [] true), .d (.list [] true), .d (.list [] true), .d (.list [] true)]], .dvec 2 (l.map LocG.row), .vec 5 [[.ref 1 2 0 l.length true, .ref 3 1 0 (i + 1) true, .ref 4 1 0 (i + 1) true, .ref 5 1 0 (i + 1) true, .d (.list [] true)]],
       .dvec 1 (((l.take (i + 1)).map pastX).map rowStamps), .dvec 1 (((l.take (i + 1)).map valX).map rowI), .dvec 1 (((l.take (i + 1)).map (markX l.length)).map rowRats)]⟩
set_option maxHeartbeats 4000000 in
theorem body_hist_New {T : Tab} {n1 n2 : Nat} (k1 : Knows T n1 (cloneS 2 16)) (k2 : Knows T n2 sp_begin) : sp_New.Body T V_hist_New (L_hist_New n1 n2) R_hist_New := by
  have F1 := k1.F; have G1 := k1.G; have F2 := k2.F; have G2 := k2.G
  rintro ⟨l, f, t⟩ hl
  refine ⟨rfl, ?_⟩
  have hl : l.length ≤ maxLen := hl
  show vck T 0 V_hist_New (L_hist_New n1 n2) ⟨envFrom 0 [.d (.list (l.map LocG.row) f), .d (.int .i64 t)], []⟩ (retK R_hist_New (RetD (.tup [(newM l t).av, .d (.int .i64 (newErr l t))])))
  generalize hX : RetD _ = X
  unfold V_hist_New L_hist_New R_hist_New
  simp (maxSteps := 3000000) only [↓vck_skip, ↓vck_ret, ↓vck_exit, ↓vck_region, ↓vck_nilq, ↓nilTo_to, nilG_d, nilG_r, ↓vck_seq, ↓vck_cond, ↓vck_block, ↓vck_loop, ↓vckTo_to, ↓thenK_n, ↓thenK_x, ↓thenK_r, ↓blockK_n, ↓blockK_x, ↓blockK_o, ↓blockK_r, ↓regK_to, ↓retK_r, ↓retK_n, ↓loopV_n, ↓loopV_x, ↓loopV_r, ↓famK_n, ↓famK_x, ↓famK_r, ↓boolK_true, ↓boolK_false, ↓boolK_not, ↓boolK_dec, ↓boolK_and, nf_mk, RGk_end_f, RGk_end_t, RGk_op, RGk_guard, opK_to, evN, evCallN, grow_mk, feet_f, feet_t, foot_mk, stepK_mk, stepK_v, stepK_no, guardG_t, guardG_f, guardG_no, condG_b, evT, Opd.ev, get_hit, get_next, app_to, app_no, app_up, app_skip, app_skipn, know_mk, knowO_t, knowO_c, envFrom, reserve, keeps, LOp.isNew, State.prune, cellsQ, cellsT, AV.leaf, Heap.at, evLoad_ptr, evLoad_dptr, loadO_vec, loadO_dvec1, stepK_load_map, idx_I, idx_U, idx_Rat, idx_Loc, idx_Act, idx_Step, idx_Stamp, stepK_idx_ref, evStore_ptr, storeO_vec, stepK_store_map1, loadDT_f, rowI, rowU, RatG.row, LocG.row, ActG.row, StepG.row, StampG.row, ActG.av, ActG.eta, RatG.eta, LocG.eta, beq_true, beq_false, loadDT_t, set_rowI, set_rowU, app_rowI, app_rowU, rep_rowI, rep_rowU, set_rowRat, app_rowRat, rep_rowRat, set_rowLoc, app_rowLoc, app_rowAct, app_rowStep, List.length_set, List.length_replicate, Int.toNat_natCast, Int.reduceToNat, evLen, evAppend, srcOf, Src.all, Src.len, Src.leaf, Src.leafN, evApart, aliveQ, joinV, drows_rep1, drows_rep2, drows_rep3, drows_rep4, drows_rep5, drows_rep6, drows_rep7, drows_rep8, mkVec, drows, evMk, List.length_map, take_mapF, drop_mapF, List.take_length, List.take_left, List.length_append, Nat.le_add_right, ite_self, List.take_of_length_le, evSlice, intOr, intOpd, Option.isSome_none, Option.isSome_some, Nat.sub_zero, loadQ, loadT, evBin, evUn, binT, binQ, chk, apartF, List.contains_cons, List.contains_nil, Bool.or_false, Bool.false_or, Bool.and_self, resQ, resV, resT, pickV, evCallT, evTake, evCall, fnOf, viewsT, isD, HO.drow, viewT, evInt2, evEq, eqV, eqK, eqC1, buildQ, buildT, buildRQ, buildRT, lens_I, lensA_I, lens_U, lensA_U, lens_Rat, lensA_Rat, lens_Loc, lensA_Loc, lens_Act, lensA_Act, lens_Step, lensA_Step, lens_Stamp, lensA_Stamp, List.mem_cons, List.not_mem_nil, or_false, forall_eq, putRow, dcells, get_nil, RetS, RetF, RetD, AV.frz, AV.frzL, AV.freshP, AV.freshL, DV.less, scal_int, scal_bool, scal_nil, scal_rowI, scal_rowU, scal_rowRat, scal_rowStep, Option.some.injEq, AV.tup.injEq, AV.agg.injEq, List.cons.injEq, DV.list.injEq, List.isEmpty_nil, Nat.le_refl, AV.d.injEq, DV.int.injEq, DV.bool.injEq, ↓reduceIte, Nat.reduceEqDiff, Nat.reduceAdd, Nat.reduceBEq, List.length_cons, List.length_nil, List.replicate_succ, List.replicate_zero, List.nil_append, List.cons_append, List.append_nil, List.foldl_cons, List.foldl_nil, List.map_cons, List.map_nil, List.all_cons, List.all_nil, List.set_cons_zero, List.set_cons_succ, List.getD_cons_zero, List.getD_cons_succ, List.drop_zero, List.drop_succ_cons, List.take_succ_cons, List.take_zero, List.flatten_cons, List.flatten_nil, Bool.true_and, Bool.and_true, Bool.not_true, Bool.not_false, true_and, and_true, true_or, or_true, Option.bind_some, Option.map_some, decide_true, decide_false, beq_self_eq_true, true_implies, false_implies, implies_true, not_true_eq_false, not_false_eq_true, and_self, Bool.and_false, Bool.false_and, Nat.reduceLT, Nat.reduceLeDiff, List.reverse_cons, List.reverse_nil, Nat.zero_add, Nat.add_zero, Bool.false_eq_true, List.getElem?_cons_zero, F1, G1, F2, G2, at_clone, at_begin, loadO_vec, storeO_vec]
  have err : ∀ {H}, (16 < l.length ∨ t < 1 ∨ 3 < t) → X (.tup [.agg [.d (.list [] true), .d (.list [] true), .d (.list [] true), .d (.list [] true), .d (.list [] true)], .d (.int .i64 1)]) H := fun {H} h => by
    have e1 : newErr l t = 1 := if_pos h
    have e2 : newM l t = .nil := by unfold newM; rw [if_neg (by rw [e1]; decide)]
    rw [← hX, e1, e2]; rfl
  refine ⟨fun c => err (.inl (by omega)), fun c1 => ⟨fun c => err (.inr (.inl c)), fun c2 => ⟨fun c => err (.inr (.inr c)), fun c3 => ⟨roomy_of (by omega) (by omega), ?_⟩⟩⟩⟩
  have hl16 : l.length ≤ 16 := by omega
  have ok1 : newErr l t = 0 := if_neg (by omega)
  have ok2 : newM l t = ⟨l, false, l.map pastX, false, l.map valX, false, l.map (markX l.length), false, frontX l.length t.toNat, false⟩ := if_pos ok1
  refine Loop.fam [0, 1, 4, 24, 25, 26, 6] (newSt l f t) (fun i => i ≤ l.length) (fun i => l.length - i) 0 [0, 1, 2] (by simp) (by simp) (by simp only [State.can, AV.can, AV.canL, HO.can, canRows, idx, get_hit, get_next, Heap.at, Nat.reduceBEq, ↓reduceIte, Nat.reduceEqDiff, Option.getD_some, Option.map_some, List.map_cons, List.map_nil, List.getD_cons_zero, List.getD_cons_succ, newSt]) (Nat.zero_le _) ?_
  intro i hi
  have hi : i ≤ l.length := hi
  by_cases hin : i < l.length
  · have e : l.getD i default = l[i] := getD_lt hin
    have etk : l.take (i + 1) = l.take i ++ [l[i]] := by rw [List.take_add_one, List.getElem?_eq_getElem hin]; rfl
    by_cases hat : (l.getD i default).atom = true
    · have ep : rowStamps (pastX l[i]) = [.list [] true] := by rw [← e]; unfold pastX; rw [hat]; rfl
      have ev : rowI (valX l[i]) = [.int .i64 (l.getD i default).init] := by rw [← e]; unfold valX; rw [hat]; rfl
      have em : rowRats (markX l.length l[i]) = [.list ((startG l.length).map RatG.row) false] := by rw [← e]; unfold markX; rw [hat]; rfl
      cases i with
      | zero =>
        simp (maxSteps := 3000000) only [↓vck_skip, ↓vck_ret, ↓vck_exit, ↓vck_region, ↓vck_nilq, ↓nilTo_to, nilG_d, nilG_r, ↓vck_seq, ↓vck_cond, ↓vck_block, ↓vck_loop, ↓vckTo_to, ↓thenK_n, ↓thenK_x, ↓thenK_r, ↓blockK_n, ↓blockK_x, ↓blockK_o, ↓blockK_r, ↓regK_to, ↓retK_r, ↓retK_n, ↓loopV_n, ↓loopV_x, ↓loopV_r, ↓famK_n, ↓famK_x, ↓famK_r, ↓boolK_true, ↓boolK_false, ↓boolK_not, ↓boolK_dec, ↓boolK_and, nf_mk, RGk_end_f, RGk_end_t, RGk_op, RGk_guard, opK_to, evN, evCallN, grow_mk, feet_f, feet_t, foot_mk, stepK_mk, stepK_v, stepK_no, guardG_t, guardG_f, guardG_no, condG_b, evT, Opd.ev, get_hit, get_next, app_to, app_no, app_up, app_skip, app_skipn, know_mk, knowO_t, knowO_c, envFrom, reserve, keeps, LOp.isNew, State.prune, cellsQ, cellsT, AV.leaf, Heap.at, evLoad_ptr, evLoad_dptr, loadO_vec, loadO_dvec1, stepK_load_map, idx_I, idx_U, idx_Rat, idx_Loc, idx_Act, idx_Step, idx_Stamp, stepK_idx_ref, evStore_ptr, storeO_vec, stepK_store_map1, loadDT_f, rowI, rowU, RatG.row, LocG.row, ActG.row, StepG.row, StampG.row, ActG.av, ActG.eta, RatG.eta, LocG.eta, beq_true, beq_false, loadDT_t, set_rowI, set_rowU, app_rowI, app_rowU, rep_rowI, rep_rowU, set_rowRat, app_rowRat, rep_rowRat, set_rowLoc, app_rowLoc, app_rowAct, app_rowStep, List.length_set, List.length_replicate, Int.toNat_natCast, Int.reduceToNat, evLen, evAppend, srcOf, Src.all, Src.len, Src.leaf, Src.leafN, evApart, aliveQ, joinV, drows_rep1, drows_rep2, drows_rep3, drows_rep4, drows_rep5, drows_rep6, drows_rep7, drows_rep8, mkVec, drows, evMk, List.length_map, take_mapF, drop_mapF, List.take_length, List.take_left, List.length_append, Nat.le_add_right, ite_self, List.take_of_length_le, evSlice, intOr, intOpd, Option.isSome_none, Option.isSome_some, Nat.sub_zero, loadQ, loadT, evBin, evUn, binT, binQ, chk, apartF, List.contains_cons, List.contains_nil, Bool.or_false, Bool.false_or, Bool.and_self, resQ, resV, resT, pickV, evCallT, evTake, evCall, fnOf, viewsT, isD, HO.drow, viewT, evInt2, evEq, eqV, eqK, eqC1, buildQ, buildT, buildRQ, buildRT, lens_I, lensA_I, lens_U, lensA_U, lens_Rat, lensA_Rat, lens_Loc, lensA_Loc, lens_Act, lensA_Act, lens_Step, lensA_Step, lens_Stamp, lensA_Stamp, List.mem_cons, List.not_mem_nil, or_false, forall_eq, putRow, dcells, get_nil, RetS, RetF, RetD, AV.frz, AV.frzL, AV.freshP, AV.freshL, DV.less, scal_int, scal_bool, scal_nil, scal_rowI, scal_rowU, scal_rowRat, scal_rowStep, Option.some.injEq, AV.tup.injEq, AV.agg.injEq, List.cons.injEq, DV.list.injEq, List.isEmpty_nil, Nat.le_refl, AV.d.injEq, DV.int.injEq, DV.bool.injEq, ↓reduceIte, Nat.reduceEqDiff, Nat.reduceAdd, Nat.reduceBEq, List.length_cons, List.length_nil, List.replicate_succ, List.replicate_zero, List.nil_append, List.cons_append, List.append_nil, List.foldl_cons, List.foldl_nil, List.map_cons, List.map_nil, List.all_cons, List.all_nil, List.set_cons_zero, List.set_cons_succ, List.getD_cons_zero, List.getD_cons_succ, List.drop_zero, List.drop_succ_cons, List.take_succ_cons, List.take_zero, List.flatten_cons, List.flatten_nil, Bool.true_and, Bool.and_true, Bool.not_true, Bool.not_false, true_and, and_true, true_or, or_true, Option.bind_some, Option.map_some, decide_true, decide_false, beq_self_eq_true, true_implies, false_implies, implies_true, not_true_eq_false, not_false_eq_true, and_self, Bool.and_false, Bool.false_and, Nat.reduceLT, Nat.reduceLeDiff, List.reverse_cons, List.reverse_nil, Nat.zero_add, Nat.add_zero, Bool.false_eq_true, List.getElem?_cons_zero, newSt, F1, G1, F2, G2, at_clone, at_begin, loadO_vec, storeO_vec, hat, Option.bind_none]
        refine ⟨fun c => ⟨⟨by omega, by omega⟩, roomy_of (by omega) (by omega), roomy_of (by omega) (by omega), ⟨by omega, by omega⟩, roomy_of (by omega) (by omega), FamNext.mk [0, 1, 2, 5, 7, 10] 1 (by simp) (by simp) ?_ (by show 1 ≤ l.length; omega) (by show l.length - 1 < l.length; omega)⟩, fun c => absurd (by omega) c⟩
        simp only [State.can, AV.can, AV.canL, HO.can, canRows, idx, get_hit, get_next, Heap.at, Nat.reduceBEq, ↓reduceIte, Nat.reduceEqDiff, Option.getD_some, Option.map_some, List.map_cons, List.map_nil, List.getD_cons_zero, List.getD_cons_succ, newSt, etk, List.take_zero, List.nil_append, List.map_cons, List.map_nil, ep, ev, em]; rfl
      | succ i =>
        have hlt : (List.take (i + 1) l).length = i + 1 := by rw [List.length_take]; omega
        have ht : ∀ {β : Type} (g : LocG → β), List.take (i + 1) (List.map g (List.take (i + 1) l)) = List.map g (List.take (i + 1) l) := fun g => List.take_of_length_le (by rw [List.length_map, hlt]; omega)
        simp (maxSteps := 3000000) only [↓vck_skip, ↓vck_ret, ↓vck_exit, ↓vck_region, ↓vck_nilq, ↓nilTo_to, nilG_d, nilG_r, ↓vck_seq, ↓vck_cond, ↓vck_block, ↓vck_loop, ↓vckTo_to, ↓thenK_n, ↓thenK_x, ↓thenK_r, ↓blockK_n, ↓blockK_x, ↓blockK_o, ↓blockK_r, ↓regK_to, ↓retK_r, ↓retK_n, ↓loopV_n, ↓loopV_x, ↓loopV_r, ↓famK_n, ↓famK_x, ↓famK_r, ↓boolK_true, ↓boolK_false, ↓boolK_not, ↓boolK_dec, ↓boolK_and, nf_mk, RGk_end_f, RGk_end_t, RGk_op, RGk_guard, opK_to, evN, evCallN, grow_mk, feet_f, feet_t, foot_mk, stepK_mk, stepK_v, stepK_no, guardG_t, guardG_f, guardG_no, condG_b, evT, Opd.ev, get_hit, get_next, app_to, app_no, app_up, app_skip, app_skipn, know_mk, knowO_t, knowO_c, envFrom, reserve, keeps, LOp.isNew, State.prune, cellsQ, cellsT, AV.leaf, Heap.at, evLoad_ptr, evLoad_dptr, loadO_vec, loadO_dvec1, stepK_load_map, idx_I, idx_U, idx_Rat, idx_Loc, idx_Act, idx_Step, idx_Stamp, stepK_idx_ref, evStore_ptr, storeO_vec, stepK_store_map1, loadDT_f, rowI, rowU, RatG.row, LocG.row, ActG.row, StepG.row, StampG.row, ActG.av, ActG.eta, RatG.eta, LocG.eta, beq_true, beq_false, loadDT_t, set_rowI, set_rowU, app_rowI, app_rowU, rep_rowI, rep_rowU, set_rowRat, app_rowRat, rep_rowRat, set_rowLoc, app_rowLoc, app_rowAct, app_rowStep, List.length_set, List.length_replicate, Int.toNat_natCast, Int.reduceToNat, evLen, evAppend, srcOf, Src.all, Src.len, Src.leaf, Src.leafN, evApart, aliveQ, joinV, drows_rep1, drows_rep2, drows_rep3, drows_rep4, drows_rep5, drows_rep6, drows_rep7, drows_rep8, mkVec, drows, evMk, List.length_map, take_mapF, drop_mapF, List.take_length, List.take_left, List.length_append, Nat.le_add_right, ite_self, List.take_of_length_le, evSlice, intOr, intOpd, Option.isSome_none, Option.isSome_some, Nat.sub_zero, loadQ, loadT, evBin, evUn, binT, binQ, chk, apartF, List.contains_cons, List.contains_nil, Bool.or_false, Bool.false_or, Bool.and_self, resQ, resV, resT, pickV, evCallT, evTake, evCall, fnOf, viewsT, isD, HO.drow, viewT, evInt2, evEq, eqV, eqK, eqC1, buildQ, buildT, buildRQ, buildRT, lens_I, lensA_I, lens_U, lensA_U, lens_Rat, lensA_Rat, lens_Loc, lensA_Loc, lens_Act, lensA_Act, lens_Step, lensA_Step, lens_Stamp, lensA_Stamp, List.mem_cons, List.not_mem_nil, or_false, forall_eq, putRow, dcells, get_nil, RetS, RetF, RetD, AV.frz, AV.frzL, AV.freshP, AV.freshL, DV.less, scal_int, scal_bool, scal_nil, scal_rowI, scal_rowU, scal_rowRat, scal_rowStep, Option.some.injEq, AV.tup.injEq, AV.agg.injEq, List.cons.injEq, DV.list.injEq, List.isEmpty_nil, Nat.le_refl, AV.d.injEq, DV.int.injEq, DV.bool.injEq, ↓reduceIte, Nat.reduceEqDiff, Nat.reduceAdd, Nat.reduceBEq, List.length_cons, List.length_nil, List.replicate_succ, List.replicate_zero, List.nil_append, List.cons_append, List.append_nil, List.foldl_cons, List.foldl_nil, List.map_cons, List.map_nil, List.all_cons, List.all_nil, List.set_cons_zero, List.set_cons_succ, List.getD_cons_zero, List.getD_cons_succ, List.drop_zero, List.drop_succ_cons, List.take_succ_cons, List.take_zero, List.flatten_cons, List.flatten_nil, Bool.true_and, Bool.and_true, Bool.not_true, Bool.not_false, true_and, and_true, true_or, or_true, Option.bind_some, Option.map_some, decide_true, decide_false, beq_self_eq_true, true_implies, false_implies, implies_true, not_true_eq_false, not_false_eq_true, and_self, Bool.and_false, Bool.false_and, Nat.reduceLT, Nat.reduceLeDiff, List.reverse_cons, List.reverse_nil, Nat.zero_add, Nat.add_zero, Bool.false_eq_true, List.getElem?_cons_zero, newSt, F1, G1, F2, G2, at_clone, at_begin, loadO_vec, storeO_vec, hat, Option.bind_none, hlt, ht]
        refine ⟨fun c => ⟨⟨by omega, by omega⟩, roomy_of (by omega) (by omega), roomy_of (by omega) (by omega), ⟨by omega, by omega⟩, roomy_of (by omega) (by omega), ?_⟩, fun c => absurd (by omega) c⟩
        rw [wrap_succ hin (by unfold maxLen; omega)]
        refine FamNext.mk [0, 1, 2, 8, 10, 13] (i + 2) (by simp) (by simp) ?_ (by show i + 2 ≤ l.length; omega) (by show l.length - (i + 2) < l.length - (i + 1); omega)
        simp only [State.can, AV.can, AV.canL, HO.can, canRows, idx, get_hit, get_next, Heap.at, Nat.reduceBEq, ↓reduceIte, Nat.reduceEqDiff, Option.getD_some, Option.map_some, List.map_cons, List.map_nil, List.getD_cons_zero, List.getD_cons_succ, newSt, etk, List.map_append, List.map_cons, List.map_nil, ep, ev, em]; rfl
    · have hat : (l.getD i default).atom = false := by simpa using hat
      have ep : rowStamps (pastX l[i]) = [.list [[.int .i64 0, .int .i64 1, .int .i64 (l.getD i default).init]] false] := by rw [← e]; unfold pastX; rw [hat]; rfl
      have ev : rowI (valX l[i]) = [.int .i64 0] := by rw [← e]; unfold valX; rw [hat]; rfl
      have em : rowRats (markX l.length l[i]) = [.list [] true] := by rw [← e]; unfold markX; rw [hat]; rfl
      cases i with
      | zero =>
        simp (maxSteps := 3000000) only [↓vck_skip, ↓vck_ret, ↓vck_exit, ↓vck_region, ↓vck_nilq, ↓nilTo_to, nilG_d, nilG_r, ↓vck_seq, ↓vck_cond, ↓vck_block, ↓vck_loop, ↓vckTo_to, ↓thenK_n, ↓thenK_x, ↓thenK_r, ↓blockK_n, ↓blockK_x, ↓blockK_o, ↓blockK_r, ↓regK_to, ↓retK_r, ↓retK_n, ↓loopV_n, ↓loopV_x, ↓loopV_r, ↓famK_n, ↓famK_x, ↓famK_r, ↓boolK_true, ↓boolK_false, ↓boolK_not, ↓boolK_dec, ↓boolK_and, nf_mk, RGk_end_f, RGk_end_t, RGk_op, RGk_guard, opK_to, evN, evCallN, grow_mk, feet_f, feet_t, foot_mk, stepK_mk, stepK_v, stepK_no, guardG_t, guardG_f, guardG_no, condG_b, evT, Opd.ev, get_hit, get_next, app_to, app_no, app_up, app_skip, app_skipn, know_mk, knowO_t, knowO_c, envFrom, reserve, keeps, LOp.isNew, State.prune, cellsQ, cellsT, AV.leaf, Heap.at, evLoad_ptr, evLoad_dptr, loadO_vec, loadO_dvec1, stepK_load_map, idx_I, idx_U, idx_Rat, idx_Loc, idx_Act, idx_Step, idx_Stamp, stepK_idx_ref, evStore_ptr, storeO_vec, stepK_store_map1, loadDT_f, rowI, rowU, RatG.row, LocG.row, ActG.row, StepG.row, StampG.row, ActG.av, ActG.eta, RatG.eta, LocG.eta, beq_true, beq_false, loadDT_t, set_rowI, set_rowU, app_rowI, app_rowU, rep_rowI, rep_rowU, set_rowRat, app_rowRat, rep_rowRat, set_rowLoc, app_rowLoc, app_rowAct, app_rowStep, List.length_set, List.length_replicate, Int.toNat_natCast, Int.reduceToNat, evLen, evAppend, srcOf, Src.all, Src.len, Src.leaf, Src.leafN, evApart, aliveQ, joinV, drows_rep1, drows_rep2, drows_rep3, drows_rep4, drows_rep5, drows_rep6, drows_rep7, drows_rep8, mkVec, drows, evMk, List.length_map, take_mapF, drop_mapF, List.take_length, List.take_left, List.length_append, Nat.le_add_right, ite_self, List.take_of_length_le, evSlice, intOr, intOpd, Option.isSome_none, Option.isSome_some, Nat.sub_zero, loadQ, loadT, evBin, evUn, binT, binQ, chk, apartF, List.contains_cons, List.contains_nil, Bool.or_false, Bool.false_or, Bool.and_self, resQ, resV, resT, pickV, evCallT, evTake, evCall, fnOf, viewsT, isD, HO.drow, viewT, evInt2, evEq, eqV, eqK, eqC1, buildQ, buildT, buildRQ, buildRT, lens_I, lensA_I, lens_U, lensA_U, lens_Rat, lensA_Rat, lens_Loc, lensA_Loc, lens_Act, lensA_Act, lens_Step, lensA_Step, lens_Stamp, lensA_Stamp, List.mem_cons, List.not_mem_nil, or_false, forall_eq, putRow, dcells, get_nil, RetS, RetF, RetD, AV.frz, AV.frzL, AV.freshP, AV.freshL, DV.less, scal_int, scal_bool, scal_nil, scal_rowI, scal_rowU, scal_rowRat, scal_rowStep, Option.some.injEq, AV.tup.injEq, AV.agg.injEq, List.cons.injEq, DV.list.injEq, List.isEmpty_nil, Nat.le_refl, AV.d.injEq, DV.int.injEq, DV.bool.injEq, ↓reduceIte, Nat.reduceEqDiff, Nat.reduceAdd, Nat.reduceBEq, List.length_cons, List.length_nil, List.replicate_succ, List.replicate_zero, List.nil_append, List.cons_append, List.append_nil, List.foldl_cons, List.foldl_nil, List.map_cons, List.map_nil, List.all_cons, List.all_nil, List.set_cons_zero, List.set_cons_succ, List.getD_cons_zero, List.getD_cons_succ, List.drop_zero, List.drop_succ_cons, List.take_succ_cons, List.take_zero, List.flatten_cons, List.flatten_nil, Bool.true_and, Bool.and_true, Bool.not_true, Bool.not_false, true_and, and_true, true_or, or_true, Option.bind_some, Option.map_some, decide_true, decide_false, beq_self_eq_true, true_implies, false_implies, implies_true, not_true_eq_false, not_false_eq_true, and_self, Bool.and_false, Bool.false_and, Nat.reduceLT, Nat.reduceLeDiff, List.reverse_cons, List.reverse_nil, Nat.zero_add, Nat.add_zero, Bool.false_eq_true, List.getElem?_cons_zero, newSt, F1, G1, F2, G2, at_clone, at_begin, loadO_vec, storeO_vec, hat, Option.bind_none]
        refine ⟨fun c => ⟨⟨by omega, by omega⟩, roomy_of (by omega) (by omega), roomy_of (by omega) (by omega), roomy_of (by omega) (by omega), FamNext.ices [4] (FamNext.thaw 0 (FamNext.thaw 2 (FamNext.mk [0, 1, 2, 6, 8, 10] 1 (by simp) (by simp [State.thaw, ices_len]) ?_ (by show 1 ≤ l.length; omega) (by show l.length - 1 < l.length; omega))))⟩, fun c => absurd (by omega) c⟩
        simp only [State.can, AV.can, AV.canL, HO.can, canRows, idx, get_hit, get_next, Heap.at, Nat.reduceBEq, ↓reduceIte, Nat.reduceEqDiff, Option.getD_some, Option.map_some, List.map_cons, List.map_nil, List.getD_cons_zero, List.getD_cons_succ, newSt, etk, List.take_zero, List.nil_append, List.map_cons, List.map_nil, ep, ev, em, State.ices, State.ice, HO.data, iceEnv, iceHeap, HO.ice, AV.ice, AV.iceL, State.thaw, thaw_mkVec, iceRows_cons, iceRows_nil, List.set_cons_zero, List.set_cons_succ, List.drop_zero, List.take_succ_cons, List.take_zero, List.length_cons, List.length_nil, Bool.not_true, Nat.zero_add, Nat.le_refl, and_self]; rfl
      | succ i =>
        have hlt : (List.take (i + 1) l).length = i + 1 := by rw [List.length_take]; omega
        have ht : ∀ {β : Type} (g : LocG → β), List.take (i + 1) (List.map g (List.take (i + 1) l)) = List.map g (List.take (i + 1) l) := fun g => List.take_of_length_le (by rw [List.length_map, hlt]; omega)
        simp (maxSteps := 3000000) only [↓vck_skip, ↓vck_ret, ↓vck_exit, ↓vck_region, ↓vck_nilq, ↓nilTo_to, nilG_d, nilG_r, ↓vck_seq, ↓vck_cond, ↓vck_block, ↓vck_loop, ↓vckTo_to, ↓thenK_n, ↓thenK_x, ↓thenK_r, ↓blockK_n, ↓blockK_x, ↓blockK_o, ↓blockK_r, ↓regK_to, ↓retK_r, ↓retK_n, ↓loopV_n, ↓loopV_x, ↓loopV_r, ↓famK_n, ↓famK_x, ↓famK_r, ↓boolK_true, ↓boolK_false, ↓boolK_not, ↓boolK_dec, ↓boolK_and, nf_mk, RGk_end_f, RGk_end_t, RGk_op, RGk_guard, opK_to, evN, evCallN, grow_mk, feet_f, feet_t, foot_mk, stepK_mk, stepK_v, stepK_no, guardG_t, guardG_f, guardG_no, condG_b, evT, Opd.ev, get_hit, get_next, app_to, app_no, app_up, app_skip, app_skipn, know_mk, knowO_t, knowO_c, envFrom, reserve, keeps, LOp.isNew, State.prune, cellsQ, cellsT, AV.leaf, Heap.at, evLoad_ptr, evLoad_dptr, loadO_vec, loadO_dvec1, stepK_load_map, idx_I, idx_U, idx_Rat, idx_Loc, idx_Act, idx_Step, idx_Stamp, stepK_idx_ref, evStore_ptr, storeO_vec, stepK_store_map1, loadDT_f, rowI, rowU, RatG.row, LocG.row, ActG.row, StepG.row, StampG.row, ActG.av, ActG.eta, RatG.eta, LocG.eta, beq_true, beq_false, loadDT_t, set_rowI, set_rowU, app_rowI, app_rowU, rep_rowI, rep_rowU, set_rowRat, app_rowRat, rep_rowRat, set_rowLoc, app_rowLoc, app_rowAct, app_rowStep, List.length_set, List.length_replicate, Int.toNat_natCast, Int.reduceToNat, evLen, evAppend, srcOf, Src.all, Src.len, Src.leaf, Src.leafN, evApart, aliveQ, joinV, drows_rep1, drows_rep2, drows_rep3, drows_rep4, drows_rep5, drows_rep6, drows_rep7, drows_rep8, mkVec, drows, evMk, List.length_map, take_mapF, drop_mapF, List.take_length, List.take_left, List.length_append, Nat.le_add_right, ite_self, List.take_of_length_le, evSlice, intOr, intOpd, Option.isSome_none, Option.isSome_some, Nat.sub_zero, loadQ, loadT, evBin, evUn, binT, binQ, chk, apartF, List.contains_cons, List.contains_nil, Bool.or_false, Bool.false_or, Bool.and_self, resQ, resV, resT, pickV, evCallT, evTake, evCall, fnOf, viewsT, isD, HO.drow, viewT, evInt2, evEq, eqV, eqK, eqC1, buildQ, buildT, buildRQ, buildRT, lens_I, lensA_I, lens_U, lensA_U, lens_Rat, lensA_Rat, lens_Loc, lensA_Loc, lens_Act, lensA_Act, lens_Step, lensA_Step, lens_Stamp, lensA_Stamp, List.mem_cons, List.not_mem_nil, or_false, forall_eq, putRow, dcells, get_nil, RetS, RetF, RetD, AV.frz, AV.frzL, AV.freshP, AV.freshL, DV.less, scal_int, scal_bool, scal_nil, scal_rowI, scal_rowU, scal_rowRat, scal_rowStep, Option.some.injEq, AV.tup.injEq, AV.agg.injEq, List.cons.injEq, DV.list.injEq, List.isEmpty_nil, Nat.le_refl, AV.d.injEq, DV.int.injEq, DV.bool.injEq, ↓reduceIte, Nat.reduceEqDiff, Nat.reduceAdd, Nat.reduceBEq, List.length_cons, List.length_nil, List.replicate_succ, List.replicate_zero, List.nil_append, List.cons_append, List.append_nil, List.foldl_cons, List.foldl_nil, List.map_cons, List.map_nil, List.all_cons, List.all_nil, List.set_cons_zero, List.set_cons_succ, List.getD_cons_zero, List.getD_cons_succ, List.drop_zero, List.drop_succ_cons, List.take_succ_cons, List.take_zero, List.flatten_cons, List.flatten_nil, Bool.true_and, Bool.and_true, Bool.not_true, Bool.not_false, true_and, and_true, true_or, or_true, Option.bind_some, Option.map_some, decide_true, decide_false, beq_self_eq_true, true_implies, false_implies, implies_true, not_true_eq_false, not_false_eq_true, and_self, Bool.and_false, Bool.false_and, Nat.reduceLT, Nat.reduceLeDiff, List.reverse_cons, List.reverse_nil, Nat.zero_add, Nat.add_zero, Bool.false_eq_true, List.getElem?_cons_zero, newSt, F1, G1, F2, G2, at_clone, at_begin, loadO_vec, storeO_vec, hat, Option.bind_none, hlt, ht]
        refine ⟨fun c => ⟨⟨by omega, by omega⟩, roomy_of (by omega) (by omega), roomy_of (by omega) (by omega), roomy_of (by omega) (by omega), ?_⟩, fun c => absurd (by omega) c⟩
        rw [wrap_succ hin (by unfold maxLen; omega)]
        refine FamNext.ices [7] (FamNext.thaw 0 (FamNext.thaw 2 (FamNext.mk [0, 1, 2, 9, 11, 13] (i + 2) (by simp) (by simp [State.thaw, ices_len]) ?_ (by show i + 2 ≤ l.length; omega) (by show l.length - (i + 2) < l.length - (i + 1); omega))))
        simp only [State.can, AV.can, AV.canL, HO.can, canRows, idx, get_hit, get_next, Heap.at, Nat.reduceBEq, ↓reduceIte, Nat.reduceEqDiff, Option.getD_some, Option.map_some, List.map_cons, List.map_nil, List.getD_cons_zero, List.getD_cons_succ, newSt, etk, List.map_append, List.map_cons, List.map_nil, ep, ev, em, mkVec_appd, State.ices, State.ice, HO.data, iceEnv, iceHeap, HO.ice, AV.ice, AV.iceL, State.thaw, thaw_mkVec, iceRows_cons, iceRows_nil, iceRows_app, iceRows_d, List.set_cons_zero, List.set_cons_succ, List.drop_zero, List.take_succ_cons, List.take_zero, List.length_cons, List.length_nil, Bool.not_true, Nat.zero_add, Nat.le_refl, and_self]; rfl
  · have hil : i = l.length := by omega
    cases i with
    | zero =>
      have hl0 : l = [] := List.length_eq_zero_iff.1 hil.symm
      subst hl0
      simp (maxSteps := 3000000) only [↓vck_skip, ↓vck_ret, ↓vck_exit, ↓vck_region, ↓vck_nilq, ↓nilTo_to, nilG_d, nilG_r, ↓vck_seq, ↓vck_cond, ↓vck_block, ↓vck_loop, ↓vckTo_to, ↓thenK_n, ↓thenK_x, ↓thenK_r, ↓blockK_n, ↓blockK_x, ↓blockK_o, ↓blockK_r, ↓regK_to, ↓retK_r, ↓retK_n, ↓loopV_n, ↓loopV_x, ↓loopV_r, ↓famK_n, ↓famK_x, ↓famK_r, ↓boolK_true, ↓boolK_false, ↓boolK_not, ↓boolK_dec, ↓boolK_and, nf_mk, RGk_end_f, RGk_end_t, RGk_op, RGk_guard, opK_to, evN, evCallN, grow_mk, feet_f, feet_t, foot_mk, stepK_mk, stepK_v, stepK_no, guardG_t, guardG_f, guardG_no, condG_b, evT, Opd.ev, get_hit, get_next, app_to, app_no, app_up, app_skip, app_skipn, know_mk, knowO_t, knowO_c, envFrom, reserve, keeps, LOp.isNew, State.prune, cellsQ, cellsT, AV.leaf, Heap.at, evLoad_ptr, evLoad_dptr, loadO_vec, loadO_dvec1, stepK_load_map, idx_I, idx_U, idx_Rat, idx_Loc, idx_Act, idx_Step, idx_Stamp, stepK_idx_ref, evStore_ptr, storeO_vec, stepK_store_map1, loadDT_f, rowI, rowU, RatG.row, LocG.row, ActG.row, StepG.row, StampG.row, ActG.av, ActG.eta, RatG.eta, LocG.eta, beq_true, beq_false, loadDT_t, set_rowI, set_rowU, app_rowI, app_rowU, rep_rowI, rep_rowU, set_rowRat, app_rowRat, rep_rowRat, set_rowLoc, app_rowLoc, app_rowAct, app_rowStep, List.length_set, List.length_replicate, Int.toNat_natCast, Int.reduceToNat, evLen, evAppend, srcOf, Src.all, Src.len, Src.leaf, Src.leafN, evApart, aliveQ, joinV, drows_rep1, drows_rep2, drows_rep3, drows_rep4, drows_rep5, drows_rep6, drows_rep7, drows_rep8, mkVec, drows, evMk, List.length_map, take_mapF, drop_mapF, List.take_length, List.take_left, List.length_append, Nat.le_add_right, ite_self, List.take_of_length_le, evSlice, intOr, intOpd, Option.isSome_none, Option.isSome_some, Nat.sub_zero, loadQ, loadT, evBin, evUn, binT, binQ, chk, apartF, List.contains_cons, List.contains_nil, Bool.or_false, Bool.false_or, Bool.and_self, resQ, resV, resT, pickV, evCallT, evTake, evCall, fnOf, viewsT, isD, HO.drow, viewT, evInt2, evEq, eqV, eqK, eqC1, buildQ, buildT, buildRQ, buildRT, lens_I, lensA_I, lens_U, lensA_U, lens_Rat, lensA_Rat, lens_Loc, lensA_Loc, lens_Act, lensA_Act, lens_Step, lensA_Step, lens_Stamp, lensA_Stamp, List.mem_cons, List.not_mem_nil, or_false, forall_eq, putRow, dcells, get_nil, RetS, RetF, RetD, AV.frz, AV.frzL, AV.freshP, AV.freshL, DV.less, scal_int, scal_bool, scal_nil, scal_rowI, scal_rowU, scal_rowRat, scal_rowStep, Option.some.injEq, AV.tup.injEq, AV.agg.injEq, List.cons.injEq, DV.list.injEq, List.isEmpty_nil, Nat.le_refl, AV.d.injEq, DV.int.injEq, DV.bool.injEq, ↓reduceIte, Nat.reduceEqDiff, Nat.reduceAdd, Nat.reduceBEq, List.length_cons, List.length_nil, List.replicate_succ, List.replicate_zero, List.nil_append, List.cons_append, List.append_nil, List.foldl_cons, List.foldl_nil, List.map_cons, List.map_nil, List.all_cons, List.all_nil, List.set_cons_zero, List.set_cons_succ, List.getD_cons_zero, List.getD_cons_succ, List.drop_zero, List.drop_succ_cons, List.take_succ_cons, List.take_zero, List.flatten_cons, List.flatten_nil, Bool.true_and, Bool.and_true, Bool.not_true, Bool.not_false, true_and, and_true, true_or, or_true, Option.bind_some, Option.map_some, decide_true, decide_false, beq_self_eq_true, true_implies, false_implies, implies_true, not_true_eq_false, not_false_eq_true, and_self, Bool.and_false, Bool.false_and, Nat.reduceLT, Nat.reduceLeDiff, List.reverse_cons, List.reverse_nil, Nat.zero_add, Nat.add_zero, Bool.false_eq_true, List.getElem?_cons_zero, newSt, F1, G1, F2, G2, at_clone, at_begin, loadO_vec, storeO_vec, Option.bind_none]
      refine ⟨fun c => absurd c (by simp), fun _ => ?_⟩
      refine Loop.fam [0, 4, 6, 73, 74] (frSt0 f t) (fun j => (j : Int) ≤ t) (fun j => t.toNat - j) 0 [0, 1, 2] (by simp) (by simp) (by simp only [State.can, AV.can, AV.canL, HO.can, canRows, idx, get_hit, get_next, Heap.at, Nat.reduceBEq, ↓reduceIte, Nat.reduceEqDiff, Option.getD_some, Option.map_some, List.map_cons, List.map_nil, List.getD_cons_zero, List.getD_cons_succ, frSt0, nobj]) (by show (0 : Int) ≤ t; omega) ?_
      intro j hj
      have hj : (j : Int) ≤ t := hj
      cases j with
      | zero =>
        simp (maxSteps := 3000000) only [↓vck_skip, ↓vck_ret, ↓vck_exit, ↓vck_region, ↓vck_nilq, ↓nilTo_to, nilG_d, nilG_r, ↓vck_seq, ↓vck_cond, ↓vck_block, ↓vck_loop, ↓vckTo_to, ↓thenK_n, ↓thenK_x, ↓thenK_r, ↓blockK_n, ↓blockK_x, ↓blockK_o, ↓blockK_r, ↓regK_to, ↓retK_r, ↓retK_n, ↓loopV_n, ↓loopV_x, ↓loopV_r, ↓famK_n, ↓famK_x, ↓famK_r, ↓boolK_true, ↓boolK_false, ↓boolK_not, ↓boolK_dec, ↓boolK_and, nf_mk, RGk_end_f, RGk_end_t, RGk_op, RGk_guard, opK_to, evN, evCallN, grow_mk, feet_f, feet_t, foot_mk, stepK_mk, stepK_v, stepK_no, guardG_t, guardG_f, guardG_no, condG_b, evT, Opd.ev, get_hit, get_next, app_to, app_no, app_up, app_skip, app_skipn, know_mk, knowO_t, knowO_c, envFrom, reserve, keeps, LOp.isNew, State.prune, cellsQ, cellsT, AV.leaf, Heap.at, evLoad_ptr, evLoad_dptr, loadO_vec, loadO_dvec1, stepK_load_map, idx_I, idx_U, idx_Rat, idx_Loc, idx_Act, idx_Step, idx_Stamp, stepK_idx_ref, evStore_ptr, storeO_vec, stepK_store_map1, loadDT_f, rowI, rowU, RatG.row, LocG.row, ActG.row, StepG.row, StampG.row, ActG.av, ActG.eta, RatG.eta, LocG.eta, beq_true, beq_false, loadDT_t, set_rowI, set_rowU, app_rowI, app_rowU, rep_rowI, rep_rowU, set_rowRat, app_rowRat, rep_rowRat, set_rowLoc, app_rowLoc, app_rowAct, app_rowStep, List.length_set, List.length_replicate, Int.toNat_natCast, Int.reduceToNat, evLen, evAppend, srcOf, Src.all, Src.len, Src.leaf, Src.leafN, evApart, aliveQ, joinV, drows_rep1, drows_rep2, drows_rep3, drows_rep4, drows_rep5, drows_rep6, drows_rep7, drows_rep8, mkVec, drows, evMk, List.length_map, take_mapF, drop_mapF, List.take_length, List.take_left, List.length_append, Nat.le_add_right, ite_self, List.take_of_length_le, evSlice, intOr, intOpd, Option.isSome_none, Option.isSome_some, Nat.sub_zero, loadQ, loadT, evBin, evUn, binT, binQ, chk, apartF, List.contains_cons, List.contains_nil, Bool.or_false, Bool.false_or, Bool.and_self, resQ, resV, resT, pickV, evCallT, evTake, evCall, fnOf, viewsT, isD, HO.drow, viewT, evInt2, evEq, eqV, eqK, eqC1, buildQ, buildT, buildRQ, buildRT, lens_I, lensA_I, lens_U, lensA_U, lens_Rat, lensA_Rat, lens_Loc, lensA_Loc, lens_Act, lensA_Act, lens_Step, lensA_Step, lens_Stamp, lensA_Stamp, List.mem_cons, List.not_mem_nil, or_false, forall_eq, putRow, dcells, get_nil, RetS, RetF, RetD, AV.frz, AV.frzL, AV.freshP, AV.freshL, DV.less, scal_int, scal_bool, scal_nil, scal_rowI, scal_rowU, scal_rowRat, scal_rowStep, Option.some.injEq, AV.tup.injEq, AV.agg.injEq, List.cons.injEq, DV.list.injEq, List.isEmpty_nil, Nat.le_refl, AV.d.injEq, DV.int.injEq, DV.bool.injEq, ↓reduceIte, Nat.reduceEqDiff, Nat.reduceAdd, Nat.reduceBEq, List.length_cons, List.length_nil, List.replicate_succ, List.replicate_zero, List.nil_append, List.cons_append, List.append_nil, List.foldl_cons, List.foldl_nil, List.map_cons, List.map_nil, List.all_cons, List.all_nil, List.set_cons_zero, List.set_cons_succ, List.getD_cons_zero, List.getD_cons_succ, List.drop_zero, List.drop_succ_cons, List.take_succ_cons, List.take_zero, List.flatten_cons, List.flatten_nil, Bool.true_and, Bool.and_true, Bool.not_true, Bool.not_false, true_and, and_true, true_or, or_true, Option.bind_some, Option.map_some, decide_true, decide_false, beq_self_eq_true, true_implies, false_implies, implies_true, not_true_eq_false, not_false_eq_true, and_self, Bool.and_false, Bool.false_and, Nat.reduceLT, Nat.reduceLeDiff, List.reverse_cons, List.reverse_nil, Nat.zero_add, Nat.add_zero, Bool.false_eq_true, List.getElem?_cons_zero, frSt0, nobj, F1, G1, F2, G2, at_clone, at_begin, loadO_vec, storeO_vec, Option.bind_none, frontX_len, frontX_take]
        refine ⟨fun c => ⟨⟨by omega, by omega⟩, roomy_of (by omega) (by omega), FamNext.mk [0, 1, 2, 5] 1 (by simp) (by simp) (by simp only [State.can, AV.can, AV.canL, HO.can, canRows, idx, get_hit, get_next, Heap.at, Nat.reduceBEq, ↓reduceIte, Nat.reduceEqDiff, Option.getD_some, Option.map_some, List.map_cons, List.map_nil, List.getD_cons_zero, List.getD_cons_succ, frSt0, nobj]; rfl) (by show ((1 : Nat) : Int) ≤ t; omega) (by show t.toNat - 1 < t.toNat; omega)⟩, fun c => absurd (by omega) c⟩
      | succ j =>
        simp (maxSteps := 3000000) only [↓vck_skip, ↓vck_ret, ↓vck_exit, ↓vck_region, ↓vck_nilq, ↓nilTo_to, nilG_d, nilG_r, ↓vck_seq, ↓vck_cond, ↓vck_block, ↓vck_loop, ↓vckTo_to, ↓thenK_n, ↓thenK_x, ↓thenK_r, ↓blockK_n, ↓blockK_x, ↓blockK_o, ↓blockK_r, ↓regK_to, ↓retK_r, ↓retK_n, ↓loopV_n, ↓loopV_x, ↓loopV_r, ↓famK_n, ↓famK_x, ↓famK_r, ↓boolK_true, ↓boolK_false, ↓boolK_not, ↓boolK_dec, ↓boolK_and, nf_mk, RGk_end_f, RGk_end_t, RGk_op, RGk_guard, opK_to, evN, evCallN, grow_mk, feet_f, feet_t, foot_mk, stepK_mk, stepK_v, stepK_no, guardG_t, guardG_f, guardG_no, condG_b, evT, Opd.ev, get_hit, get_next, app_to, app_no, app_up, app_skip, app_skipn, know_mk, knowO_t, knowO_c, envFrom, reserve, keeps, LOp.isNew, State.prune, cellsQ, cellsT, AV.leaf, Heap.at, evLoad_ptr, evLoad_dptr, loadO_vec, loadO_dvec1, stepK_load_map, idx_I, idx_U, idx_Rat, idx_Loc, idx_Act, idx_Step, idx_Stamp, stepK_idx_ref, evStore_ptr, storeO_vec, stepK_store_map1, loadDT_f, rowI, rowU, RatG.row, LocG.row, ActG.row, StepG.row, StampG.row, ActG.av, ActG.eta, RatG.eta, LocG.eta, beq_true, beq_false, loadDT_t, set_rowI, set_rowU, app_rowI, app_rowU, rep_rowI, rep_rowU, set_rowRat, app_rowRat, rep_rowRat, set_rowLoc, app_rowLoc, app_rowAct, app_rowStep, List.length_set, List.length_replicate, Int.toNat_natCast, Int.reduceToNat, evLen, evAppend, srcOf, Src.all, Src.len, Src.leaf, Src.leafN, evApart, aliveQ, joinV, drows_rep1, drows_rep2, drows_rep3, drows_rep4, drows_rep5, drows_rep6, drows_rep7, drows_rep8, mkVec, drows, evMk, List.length_map, take_mapF, drop_mapF, List.take_length, List.take_left, List.length_append, Nat.le_add_right, ite_self, List.take_of_length_le, evSlice, intOr, intOpd, Option.isSome_none, Option.isSome_some, Nat.sub_zero, loadQ, loadT, evBin, evUn, binT, binQ, chk, apartF, List.contains_cons, List.contains_nil, Bool.or_false, Bool.false_or, Bool.and_self, resQ, resV, resT, pickV, evCallT, evTake, evCall, fnOf, viewsT, isD, HO.drow, viewT, evInt2, evEq, eqV, eqK, eqC1, buildQ, buildT, buildRQ, buildRT, lens_I, lensA_I, lens_U, lensA_U, lens_Rat, lensA_Rat, lens_Loc, lensA_Loc, lens_Act, lensA_Act, lens_Step, lensA_Step, lens_Stamp, lensA_Stamp, List.mem_cons, List.not_mem_nil, or_false, forall_eq, putRow, dcells, get_nil, RetS, RetF, RetD, AV.frz, AV.frzL, AV.freshP, AV.freshL, DV.less, scal_int, scal_bool, scal_nil, scal_rowI, scal_rowU, scal_rowRat, scal_rowStep, Option.some.injEq, AV.tup.injEq, AV.agg.injEq, List.cons.injEq, DV.list.injEq, List.isEmpty_nil, Nat.le_refl, AV.d.injEq, DV.int.injEq, DV.bool.injEq, ↓reduceIte, Nat.reduceEqDiff, Nat.reduceAdd, Nat.reduceBEq, List.length_cons, List.length_nil, List.replicate_succ, List.replicate_zero, List.nil_append, List.cons_append, List.append_nil, List.foldl_cons, List.foldl_nil, List.map_cons, List.map_nil, List.all_cons, List.all_nil, List.set_cons_zero, List.set_cons_succ, List.getD_cons_zero, List.getD_cons_succ, List.drop_zero, List.drop_succ_cons, List.take_succ_cons, List.take_zero, List.flatten_cons, List.flatten_nil, Bool.true_and, Bool.and_true, Bool.not_true, Bool.not_false, true_and, and_true, true_or, or_true, Option.bind_some, Option.map_some, decide_true, decide_false, beq_self_eq_true, true_implies, false_implies, implies_true, not_true_eq_false, not_false_eq_true, and_self, Bool.and_false, Bool.false_and, Nat.reduceLT, Nat.reduceLeDiff, List.reverse_cons, List.reverse_nil, Nat.zero_add, Nat.add_zero, Bool.false_eq_true, List.getElem?_cons_zero, frSt0, nobj, F1, G1, F2, G2, at_clone, at_begin, loadO_vec, storeO_vec, Option.bind_none, frontX_len, frontX_take]
        have ew : IntKind.i64.wrap (((j + 1 : Nat) : Int) + 1) = ((j + 2 : Nat) : Int) := by
          have := @wrap_succ (j + 1) 4 (by omega) (by unfold maxLen; omega)
          exact this
        refine ⟨fun c => ⟨⟨by omega, by omega⟩, roomy_of (by omega) (by omega), ?_⟩, fun c => ?_⟩
        · rw [ew]
          refine FamNext.mk [0, 1, 2, 6] (j + 2) (by simp) (by simp) ?_ (by show ((j + 2 : Nat) : Int) ≤ t; omega) (by show t.toNat - (j + 2) < t.toNat - (j + 1); omega)
          simp only [State.can, AV.can, AV.canL, HO.can, canRows, idx, get_hit, get_next, Heap.at, Nat.reduceBEq, ↓reduceIte, Nat.reduceEqDiff, Option.getD_some, Option.map_some, List.map_cons, List.map_nil, List.getD_cons_zero, List.getD_cons_succ, frSt0, nobj, frontX_succ 0 (j + 1)]
        · have et : t.toNat = j + 1 := by omega
          rw [← hX, ok1, ok2, et]
          simp only [RetD, AV.frz, AV.frzL, Heap.at, List.getD_cons_zero, List.getD_cons_succ, Nat.zero_add, Nat.le_refl, List.length_map, List.length_nil, frontX_len, and_self, if_true, List.drop_zero, take_mapF, List.take_length, Nat.le_zero_eq, frontX_take]
          rfl
    | succ i =>
      have hlt : List.take (i + 1) l = l := by rw [hil]; exact List.take_length
      have htk : ∀ {β : Type} (g : LocG → β), List.take l.length (List.map g l) = List.map g l := fun g => List.take_of_length_le (by rw [List.length_map]; omega)
      simp (maxSteps := 3000000) only [↓vck_skip, ↓vck_ret, ↓vck_exit, ↓vck_region, ↓vck_nilq, ↓nilTo_to, nilG_d, nilG_r, ↓vck_seq, ↓vck_cond, ↓vck_block, ↓vck_loop, ↓vckTo_to, ↓thenK_n, ↓thenK_x, ↓thenK_r, ↓blockK_n, ↓blockK_x, ↓blockK_o, ↓blockK_r, ↓regK_to, ↓retK_r, ↓retK_n, ↓loopV_n, ↓loopV_x, ↓loopV_r, ↓famK_n, ↓famK_x, ↓famK_r, ↓boolK_true, ↓boolK_false, ↓boolK_not, ↓boolK_dec, ↓boolK_and, nf_mk, RGk_end_f, RGk_end_t, RGk_op, RGk_guard, opK_to, evN, evCallN, grow_mk, feet_f, feet_t, foot_mk, stepK_mk, stepK_v, stepK_no, guardG_t, guardG_f, guardG_no, condG_b, evT, Opd.ev, get_hit, get_next, app_to, app_no, app_up, app_skip, app_skipn, know_mk, knowO_t, knowO_c, envFrom, reserve, keeps, LOp.isNew, State.prune, cellsQ, cellsT, AV.leaf, Heap.at, evLoad_ptr, evLoad_dptr, loadO_vec, loadO_dvec1, stepK_load_map, idx_I, idx_U, idx_Rat, idx_Loc, idx_Act, idx_Step, idx_Stamp, stepK_idx_ref, evStore_ptr, storeO_vec, stepK_store_map1, loadDT_f, rowI, rowU, RatG.row, LocG.row, ActG.row, StepG.row, StampG.row, ActG.av, ActG.eta, RatG.eta, LocG.eta, beq_true, beq_false, loadDT_t, set_rowI, set_rowU, app_rowI, app_rowU, rep_rowI, rep_rowU, set_rowRat, app_rowRat, rep_rowRat, set_rowLoc, app_rowLoc, app_rowAct, app_rowStep, List.length_set, List.length_replicate, Int.toNat_natCast, Int.reduceToNat, evLen, evAppend, srcOf, Src.all, Src.len, Src.leaf, Src.leafN, evApart, aliveQ, joinV, drows_rep1, drows_rep2, drows_rep3, drows_rep4, drows_rep5, drows_rep6, drows_rep7, drows_rep8, mkVec, drows, evMk, List.length_map, take_mapF, drop_mapF, List.take_length, List.take_left, List.length_append, Nat.le_add_right, ite_self, List.take_of_length_le, evSlice, intOr, intOpd, Option.isSome_none, Option.isSome_some, Nat.sub_zero, loadQ, loadT, evBin, evUn, binT, binQ, chk, apartF, List.contains_cons, List.contains_nil, Bool.or_false, Bool.false_or, Bool.and_self, resQ, resV, resT, pickV, evCallT, evTake, evCall, fnOf, viewsT, isD, HO.drow, viewT, evInt2, evEq, eqV, eqK, eqC1, buildQ, buildT, buildRQ, buildRT, lens_I, lensA_I, lens_U, lensA_U, lens_Rat, lensA_Rat, lens_Loc, lensA_Loc, lens_Act, lensA_Act, lens_Step, lensA_Step, lens_Stamp, lensA_Stamp, List.mem_cons, List.not_mem_nil, or_false, forall_eq, putRow, dcells, get_nil, RetS, RetF, RetD, AV.frz, AV.frzL, AV.freshP, AV.freshL, DV.less, scal_int, scal_bool, scal_nil, scal_rowI, scal_rowU, scal_rowRat, scal_rowStep, Option.some.injEq, AV.tup.injEq, AV.agg.injEq, List.cons.injEq, DV.list.injEq, List.isEmpty_nil, Nat.le_refl, AV.d.injEq, DV.int.injEq, DV.bool.injEq, ↓reduceIte, Nat.reduceEqDiff, Nat.reduceAdd, Nat.reduceBEq, List.length_cons, List.length_nil, List.replicate_succ, List.replicate_zero, List.nil_append, List.cons_append, List.append_nil, List.foldl_cons, List.foldl_nil, List.map_cons, List.map_nil, List.all_cons, List.all_nil, List.set_cons_zero, List.set_cons_succ, List.getD_cons_zero, List.getD_cons_succ, List.drop_zero, List.drop_succ_cons, List.take_succ_cons, List.take_zero, List.flatten_cons, List.flatten_nil, Bool.true_and, Bool.and_true, Bool.not_true, Bool.not_false, true_and, and_true, true_or, or_true, Option.bind_some, Option.map_some, decide_true, decide_false, beq_self_eq_true, true_implies, false_implies, implies_true, not_true_eq_false, not_false_eq_true, and_self, Bool.and_false, Bool.false_and, Nat.reduceLT, Nat.reduceLeDiff, List.reverse_cons, List.reverse_nil, Nat.zero_add, Nat.add_zero, Bool.false_eq_true, List.getElem?_cons_zero, newSt, F1, G1, F2, G2, at_clone, at_begin, loadO_vec, storeO_vec, Option.bind_none, hlt]
      refine ⟨fun c => absurd c (by omega), fun _ => ?_⟩
      refine Loop.fam [0, 4, 6, 73, 74] (frSt l f t) (fun j => (j : Int) ≤ t) (fun j => t.toNat - j) 0 [0, 1, 2, 3, 4, 5] (by simp) (by simp) (by simp only [State.can, AV.can, AV.canL, HO.can, canRows, idx, get_hit, get_next, Heap.at, Nat.reduceBEq, ↓reduceIte, Nat.reduceEqDiff, Option.getD_some, Option.map_some, List.map_cons, List.map_nil, List.getD_cons_zero, List.getD_cons_succ, frSt, nobj, hil]) (by show (0 : Int) ≤ t; omega) ?_
      intro j hj
      have hj : (j : Int) ≤ t := hj
      cases j with
      | zero =>
        simp (maxSteps := 3000000) only [↓vck_skip, ↓vck_ret, ↓vck_exit, ↓vck_region, ↓vck_nilq, ↓nilTo_to, nilG_d, nilG_r, ↓vck_seq, ↓vck_cond, ↓vck_block, ↓vck_loop, ↓vckTo_to, ↓thenK_n, ↓thenK_x, ↓thenK_r, ↓blockK_n, ↓blockK_x, ↓blockK_o, ↓blockK_r, ↓regK_to, ↓retK_r, ↓retK_n, ↓loopV_n, ↓loopV_x, ↓loopV_r, ↓famK_n, ↓famK_x, ↓famK_r, ↓boolK_true, ↓boolK_false, ↓boolK_not, ↓boolK_dec, ↓boolK_and, nf_mk, RGk_end_f, RGk_end_t, RGk_op, RGk_guard, opK_to, evN, evCallN, grow_mk, feet_f, feet_t, foot_mk, stepK_mk, stepK_v, stepK_no, guardG_t, guardG_f, guardG_no, condG_b, evT, Opd.ev, get_hit, get_next, app_to, app_no, app_up, app_skip, app_skipn, know_mk, knowO_t, knowO_c, envFrom, reserve, keeps, LOp.isNew, State.prune, cellsQ, cellsT, AV.leaf, Heap.at, evLoad_ptr, evLoad_dptr, loadO_vec, loadO_dvec1, stepK_load_map, idx_I, idx_U, idx_Rat, idx_Loc, idx_Act, idx_Step, idx_Stamp, stepK_idx_ref, evStore_ptr, storeO_vec, stepK_store_map1, loadDT_f, rowI, rowU, RatG.row, LocG.row, ActG.row, StepG.row, StampG.row, ActG.av, ActG.eta, RatG.eta, LocG.eta, beq_true, beq_false, loadDT_t, set_rowI, set_rowU, app_rowI, app_rowU, rep_rowI, rep_rowU, set_rowRat, app_rowRat, rep_rowRat, set_rowLoc, app_rowLoc, app_rowAct, app_rowStep, List.length_set, List.length_replicate, Int.toNat_natCast, Int.reduceToNat, evLen, evAppend, srcOf, Src.all, Src.len, Src.leaf, Src.leafN, evApart, aliveQ, joinV, drows_rep1, drows_rep2, drows_rep3, drows_rep4, drows_rep5, drows_rep6, drows_rep7, drows_rep8, mkVec, drows, evMk, List.length_map, take_mapF, drop_mapF, List.take_length, List.take_left, List.length_append, Nat.le_add_right, ite_self, List.take_of_length_le, evSlice, intOr, intOpd, Option.isSome_none, Option.isSome_some, Nat.sub_zero, loadQ, loadT, evBin, evUn, binT, binQ, chk, apartF, List.contains_cons, List.contains_nil, Bool.or_false, Bool.false_or, Bool.and_self, resQ, resV, resT, pickV, evCallT, evTake, evCall, fnOf, viewsT, isD, HO.drow, viewT, evInt2, evEq, eqV, eqK, eqC1, buildQ, buildT, buildRQ, buildRT, lens_I, lensA_I, lens_U, lensA_U, lens_Rat, lensA_Rat, lens_Loc, lensA_Loc, lens_Act, lensA_Act, lens_Step, lensA_Step, lens_Stamp, lensA_Stamp, List.mem_cons, List.not_mem_nil, or_false, forall_eq, putRow, dcells, get_nil, RetS, RetF, RetD, AV.frz, AV.frzL, AV.freshP, AV.freshL, DV.less, scal_int, scal_bool, scal_nil, scal_rowI, scal_rowU, scal_rowRat, scal_rowStep, Option.some.injEq, AV.tup.injEq, AV.agg.injEq, List.cons.injEq, DV.list.injEq, List.isEmpty_nil, Nat.le_refl, AV.d.injEq, DV.int.injEq, DV.bool.injEq, ↓reduceIte, Nat.reduceEqDiff, Nat.reduceAdd, Nat.reduceBEq, List.length_cons, List.length_nil, List.replicate_succ, List.replicate_zero, List.nil_append, List.cons_append, List.append_nil, List.foldl_cons, List.foldl_nil, List.map_cons, List.map_nil, List.all_cons, List.all_nil, List.set_cons_zero, List.set_cons_succ, List.getD_cons_zero, List.getD_cons_succ, List.drop_zero, List.drop_succ_cons, List.take_succ_cons, List.take_zero, List.flatten_cons, List.flatten_nil, Bool.true_and, Bool.and_true, Bool.not_true, Bool.not_false, true_and, and_true, true_or, or_true, Option.bind_some, Option.map_some, decide_true, decide_false, beq_self_eq_true, true_implies, false_implies, implies_true, not_true_eq_false, not_false_eq_true, and_self, Bool.and_false, Bool.false_and, Nat.reduceLT, Nat.reduceLeDiff, List.reverse_cons, List.reverse_nil, Nat.zero_add, Nat.add_zero, Bool.false_eq_true, List.getElem?_cons_zero, frSt, nobj, F1, G1, F2, G2, at_clone, at_begin, loadO_vec, storeO_vec, Option.bind_none, frontX_len, frontX_take]
        refine ⟨fun c => ⟨⟨by omega, by omega⟩, roomy_of (by omega) (by omega), FamNext.mk [0, 1, 2, 3, 4, 5, 8] 1 (by simp) (by simp) (by simp only [State.can, AV.can, AV.canL, HO.can, canRows, idx, get_hit, get_next, Heap.at, Nat.reduceBEq, ↓reduceIte, Nat.reduceEqDiff, Option.getD_some, Option.map_some, List.map_cons, List.map_nil, List.getD_cons_zero, List.getD_cons_succ, frSt, nobj]; rfl) (by show ((1 : Nat) : Int) ≤ t; omega) (by show t.toNat - 1 < t.toNat; omega)⟩, fun c => absurd (by omega) c⟩
      | succ j =>
        simp (maxSteps := 3000000) only [↓vck_skip, ↓vck_ret, ↓vck_exit, ↓vck_region, ↓vck_nilq, ↓nilTo_to, nilG_d, nilG_r, ↓vck_seq, ↓vck_cond, ↓vck_block, ↓vck_loop, ↓vckTo_to, ↓thenK_n, ↓thenK_x, ↓thenK_r, ↓blockK_n, ↓blockK_x, ↓blockK_o, ↓blockK_r, ↓regK_to, ↓retK_r, ↓retK_n, ↓loopV_n, ↓loopV_x, ↓loopV_r, ↓famK_n, ↓famK_x, ↓famK_r, ↓boolK_true, ↓boolK_false, ↓boolK_not, ↓boolK_dec, ↓boolK_and, nf_mk, RGk_end_f, RGk_end_t, RGk_op, RGk_guard, opK_to, evN, evCallN, grow_mk, feet_f, feet_t, foot_mk, stepK_mk, stepK_v, stepK_no, guardG_t, guardG_f, guardG_no, condG_b, evT, Opd.ev, get_hit, get_next, app_to, app_no, app_up, app_skip, app_skipn, know_mk, knowO_t, knowO_c, envFrom, reserve, keeps, LOp.isNew, State.prune, cellsQ, cellsT, AV.leaf, Heap.at, evLoad_ptr, evLoad_dptr, loadO_vec, loadO_dvec1, stepK_load_map, idx_I, idx_U, idx_Rat, idx_Loc, idx_Act, idx_Step, idx_Stamp, stepK_idx_ref, evStore_ptr, storeO_vec, stepK_store_map1, loadDT_f, rowI, rowU, RatG.row, LocG.row, ActG.row, StepG.row, StampG.row, ActG.av, ActG.eta, RatG.eta, LocG.eta, beq_true, beq_false, loadDT_t, set_rowI, set_rowU, app_rowI, app_rowU, rep_rowI, rep_rowU, set_rowRat, app_rowRat, rep_rowRat, set_rowLoc, app_rowLoc, app_rowAct, app_rowStep, List.length_set, List.length_replicate, Int.toNat_natCast, Int.reduceToNat, evLen, evAppend, srcOf, Src.all, Src.len, Src.leaf, Src.leafN, evApart, aliveQ, joinV, drows_rep1, drows_rep2, drows_rep3, drows_rep4, drows_rep5, drows_rep6, drows_rep7, drows_rep8, mkVec, drows, evMk, List.length_map, take_mapF, drop_mapF, List.take_length, List.take_left, List.length_append, Nat.le_add_right, ite_self, List.take_of_length_le, evSlice, intOr, intOpd, Option.isSome_none, Option.isSome_some, Nat.sub_zero, loadQ, loadT, evBin, evUn, binT, binQ, chk, apartF, List.contains_cons, List.contains_nil, Bool.or_false, Bool.false_or, Bool.and_self, resQ, resV, resT, pickV, evCallT, evTake, evCall, fnOf, viewsT, isD, HO.drow, viewT, evInt2, evEq, eqV, eqK, eqC1, buildQ, buildT, buildRQ, buildRT, lens_I, lensA_I, lens_U, lensA_U, lens_Rat, lensA_Rat, lens_Loc, lensA_Loc, lens_Act, lensA_Act, lens_Step, lensA_Step, lens_Stamp, lensA_Stamp, List.mem_cons, List.not_mem_nil, or_false, forall_eq, putRow, dcells, get_nil, RetS, RetF, RetD, AV.frz, AV.frzL, AV.freshP, AV.freshL, DV.less, scal_int, scal_bool, scal_nil, scal_rowI, scal_rowU, scal_rowRat, scal_rowStep, Option.some.injEq, AV.tup.injEq, AV.agg.injEq, List.cons.injEq, DV.list.injEq, List.isEmpty_nil, Nat.le_refl, AV.d.injEq, DV.int.injEq, DV.bool.injEq, ↓reduceIte, Nat.reduceEqDiff, Nat.reduceAdd, Nat.reduceBEq, List.length_cons, List.length_nil, List.replicate_succ, List.replicate_zero, List.nil_append, List.cons_append, List.append_nil, List.foldl_cons, List.foldl_nil, List.map_cons, List.map_nil, List.all_cons, List.all_nil, List.set_cons_zero, List.set_cons_succ, List.getD_cons_zero, List.getD_cons_succ, List.drop_zero, List.drop_succ_cons, List.take_succ_cons, List.take_zero, List.flatten_cons, List.flatten_nil, Bool.true_and, Bool.and_true, Bool.not_true, Bool.not_false, true_and, and_true, true_or, or_true, Option.bind_some, Option.map_some, decide_true, decide_false, beq_self_eq_true, true_implies, false_implies, implies_true, not_true_eq_false, not_false_eq_true, and_self, Bool.and_false, Bool.false_and, Nat.reduceLT, Nat.reduceLeDiff, List.reverse_cons, List.reverse_nil, Nat.zero_add, Nat.add_zero, Bool.false_eq_true, List.getElem?_cons_zero, frSt, nobj, F1, G1, F2, G2, at_clone, at_begin, loadO_vec, storeO_vec, Option.bind_none, frontX_len, frontX_take]
        have ew : IntKind.i64.wrap (((j + 1 : Nat) : Int) + 1) = ((j + 2 : Nat) : Int) := by
          have := @wrap_succ (j + 1) 4 (by omega) (by unfold maxLen; omega)
          exact this
        refine ⟨fun c => ⟨⟨by omega, by omega⟩, roomy_of (by omega) (by omega), ?_⟩, fun c => ?_⟩
        · rw [ew]
          refine FamNext.mk [0, 1, 2, 3, 4, 5, 9] (j + 2) (by simp) (by simp) ?_ (by show ((j + 2 : Nat) : Int) ≤ t; omega) (by show t.toNat - (j + 2) < t.toNat - (j + 1); omega)
          simp only [State.can, AV.can, AV.canL, HO.can, canRows, idx, get_hit, get_next, Heap.at, Nat.reduceBEq, ↓reduceIte, Nat.reduceEqDiff, Option.getD_some, Option.map_some, List.map_cons, List.map_nil, List.getD_cons_zero, List.getD_cons_succ, frSt, nobj, frontX_succ l.length (j + 1)]
        · have et : t.toNat = j + 1 := by omega
          rw [← hX, ok1, ok2, et]
          simp only [RetD, AV.frz, AV.frzL, Heap.at, List.getD_cons_zero, List.getD_cons_succ, Nat.zero_add, Nat.le_refl, List.length_map, List.length_nil, frontX_len, and_self, if_true, List.drop_zero, take_mapF, List.take_length, Nat.le_zero_eq, frontX_take, htk]
          rfl
end Go.Ago

/- The laws of layer 1, as bodies that answer true. Conditions: none. -/
set_option maxRecDepth 100000
set_option linter.unusedSimpArgs false
set_option linter.unusedVariables false
namespace Go.Ago


/-! ### The plain laws -/
theorem cmp_eq {a b c d : Int} (h1 : rat_right a b = true) (h2 : rat_right c d = true) : rat_cmp a b c d = sgn (a * d - c * b) := by simp [rat_cmp, h1, h2]

theorem sgn_mul {d x : Int} (h : 0 < d) : sgn (d * x) = sgn x := by
  unfold sgn
  rcases Int.lt_trichotomy x 0 with hx | hx | hx
  · have := Int.mul_neg_of_pos_of_neg h hx
    rw [if_pos this, if_pos hx]
  · subst hx; simp
  · have := Int.mul_pos h hx
    rw [if_neg (by omega), if_pos this, if_neg (by omega), if_pos hx]

theorem sgn_nonpos {x : Int} : sgn x ≤ 0 ↔ x ≤ 0 := by unfold sgn; split <;> (try split) <;> omega
theorem sgn_zero {x : Int} : sgn x = 0 ↔ x = 0 := by unfold sgn; split <;> (try split) <;> omega
/-- From a first to a second to a third. -/
theorem cross {a b c d e f : Int} (hb : 0 < b) (hd : 0 < d) (hf : 0 < f) (h1 : a * d ≤ c * b) (h2 : c * f ≤ e * d) : a * f ≤ e * b := by
  have e1 : a * d * f ≤ c * b * f := Int.mul_le_mul_of_nonneg_right h1 (by omega)
  have e2 : c * f * b ≤ e * d * b := Int.mul_le_mul_of_nonneg_right h2 (by omega)
  have e3 : c * b * f = c * f * b := by rw [Int.mul_assoc, Int.mul_comm b f, ← Int.mul_assoc]
  have e4 : a * d * f = d * (a * f) := by rw [Int.mul_comm a d, Int.mul_assoc]
  have e5 : e * d * b = d * (e * b) := by rw [Int.mul_comm e d, Int.mul_assoc]
  exact Int.le_of_mul_le_mul_left (by omega : d * (a * f) ≤ d * (e * b)) hd

theorem cmp_alike {a b c d e f : Int} (h1 : rat_right a b = true) (h2 : rat_right c d = true) (h3 : rat_right e f = true) (h : rat_cmp a b c d = 0) : rat_cmp a b e f = rat_cmp c d e f := by
  obtain ⟨r1, r2, r3, r4⟩ := right_iff.1 h1
  obtain ⟨s1, s2, s3, s4⟩ := right_iff.1 h2
  rw [cmp_eq h1 h2, sgn_zero] at h
  rw [cmp_eq h1 h3, cmp_eq h2 h3, ← sgn_mul (d := d) (x := a * f - e * b) (by omega), ← sgn_mul (d := b) (x := c * f - e * d) (by omega)]
  congr 1
  have e1 : d * (a * f) = f * (a * d) := by rw [← Int.mul_assoc, Int.mul_comm d a, Int.mul_comm]
  have e2 : b * (c * f) = f * (c * b) := by rw [← Int.mul_assoc, Int.mul_comm b c, Int.mul_comm]
  have e3 : d * (e * b) = b * (e * d) := by rw [Int.mul_comm d, Int.mul_comm b, Int.mul_assoc, Int.mul_assoc, Int.mul_comm b]
  have e4 : a * d = c * b := by omega
  rw [Int.mul_sub, Int.mul_sub, e1, e2, e3, e4]

/-- A moment and what it is lessened to. -/
theorem least_spec {a b : Int} (h : rat_right a b = true) : ∃ g A B, 0 < g ∧ 0 < B ∧ rat_least a b = (A, B) ∧ a = g * A ∧ b = g * B ∧ Nat.gcd A.natAbs B.natAbs = 1 := by
  obtain ⟨r1, r2, r3, r4⟩ := right_iff.1 h
  have g0 := gcdI_pos (a := a) (b := b) (by omega)
  have ha : gcdI a b ∣ a := Int.ofNat_dvd_left.2 (Nat.gcd_dvd_left _ _)
  have hbd : gcdI a b ∣ b := Int.ofNat_dvd_left.2 (Nat.gcd_dvd_right _ _)
  have hl : rat_least a b = (a.tdiv (gcdI a b), b.tdiv (gcdI a b)) := by simp [rat_least, h]
  have hg : gcdI a b = (Nat.gcd a.natAbs b.natAbs : Nat) := rfl
  rw [hl]
  generalize gcdI a b = g at *
  obtain ⟨A, rfl⟩ := ha
  obtain ⟨B, rfl⟩ := hbd
  refine ⟨g, A, B, g0, ?_, by rw [Int.mul_tdiv_cancel_left _ (by omega), Int.mul_tdiv_cancel_left _ (by omega)], rfl, rfl, ?_⟩
  · by_cases h : 0 < B
    · exact h
    · have := Int.mul_nonpos_of_nonneg_of_nonpos (Int.le_of_lt g0) (show B ≤ 0 by omega); omega
  · rw [Int.natAbs_mul, Int.natAbs_mul, Nat.gcd_mul_left] at hg
    have : g.natAbs * Nat.gcd A.natAbs B.natAbs = g.natAbs * 1 := by
      have : ((g.natAbs * Nat.gcd A.natAbs B.natAbs : Nat) : Int) = (g.natAbs : Nat) := by rw [← hg]; omega
      omega
    exact Nat.eq_of_mul_eq_mul_left (by omega) this

theorem least_right {a b : Int} (h : rat_right a b = true) : rat_right (rat_least a b).1 (rat_least a b).2 = true := by
  obtain ⟨r1, r2, r3, r4⟩ := right_iff.1 h
  obtain ⟨l1, l2, l3⟩ := least_bd h
  exact right_iff.2 ⟨by omega, by omega, by omega, by omega⟩

theorem least_cmp {a b : Int} (h : rat_right a b = true) : rat_cmp (rat_least a b).1 (rat_least a b).2 a b = 0 := by
  rw [cmp_eq (least_right h) h, sgn_zero]
  obtain ⟨g, A, B, hg, hB, hl, ha, hb, _⟩ := least_spec h
  rw [hl]
  show A * b - a * B = 0
  rw [ha, hb, Int.mul_comm g A, Int.mul_assoc]; omega

end Go.Ago

/- Memories in plain words: what a step keeps. Conditions: none. -/
set_option maxRecDepth 100000
set_option linter.unusedSimpArgs false
set_option linter.unusedVariables false
namespace Go.Ago
/-! ### Moments -/
theorem rightQ_iff {a : RatG} : rightQ a = true ↔ 1 ≤ a.den ∧ a.den ≤ 1024 ∧ -1048576 ≤ a.num ∧ a.num ≤ 1048576 := right_iff
theorem cmpQ_eq {a b : RatG} (h1 : rightQ a = true) (h2 : rightQ b = true) : cmpQ' a b = sgn (a.num * b.den - b.num * a.den) := cmp_eq h1 h2
theorem cmpQ_anti (a b : RatG) : cmpQ' b a = - cmpQ' a b := cmp_swap _ _ _ _
theorem cmpQ_le {a b : RatG} (h1 : rightQ a = true) (h2 : rightQ b = true) : cmpQ' a b ≤ 0 ↔ a.num * b.den ≤ b.num * a.den := by
  rw [cmpQ_eq h1 h2, sgn_nonpos]; omega
theorem cmpQ_trans {a b c : RatG} (h1 : rightQ a = true) (h2 : rightQ b = true) (h3 : rightQ c = true) (h : cmpQ' a b ≤ 0) (h' : cmpQ' b c ≤ 0) : cmpQ' a c ≤ 0 := by
  rw [cmpQ_le h1 h2] at h; rw [cmpQ_le h2 h3] at h'; rw [cmpQ_le h1 h3]
  have r1 := rightQ_iff.1 h1; have r2 := rightQ_iff.1 h2; have r3 := rightQ_iff.1 h3
  exact cross (by omega) (by omega) (by omega) h h'
theorem cmpQ_lt_le {a b c : RatG} (h1 : rightQ a = true) (h2 : rightQ b = true) (h3 : rightQ c = true) (h : cmpQ' a b < 0) (h' : cmpQ' b c ≤ 0) : cmpQ' a c < 0 := by
  by_cases hc : cmpQ' a c < 0
  · exact hc
  · have := cmpQ_trans h2 h3 h1 h' (by rw [cmpQ_anti]; omega)
    rw [cmpQ_anti] at this; omega
theorem leastQ_right {a : RatG} (h : rightQ a = true) : rightQ (leastQ a) = true := least_right h
theorem leastQ_cmp {a : RatG} (h : rightQ a = true) : cmpQ' (leastQ a) a = 0 := least_cmp h
theorem cmpQ_alike {a b c : RatG} (h1 : rightQ a = true) (h2 : rightQ b = true) (h3 : rightQ c = true) (h : cmpQ' a b = 0) : cmpQ' a c = cmpQ' b c := cmp_alike h1 h2 h3 h
theorem cmpQ_alike' {a b c : RatG} (h1 : rightQ a = true) (h2 : rightQ b = true) (h3 : rightQ c = true) (h : cmpQ' a b = 0) : cmpQ' c a = cmpQ' c b := by
  rw [cmpQ_anti, cmpQ_anti b c, cmpQ_alike h1 h2 h3 h]
theorem ratMaxG_eq (x y : RatG) : ratMaxG x y = if cmpQ' x y < 0 then y else x := by
  unfold ratMaxG rat_max cmpQ'; split <;> rfl
theorem ratMaxG_right {x y : RatG} (h1 : rightQ x = true) (h2 : rightQ y = true) : rightQ (ratMaxG x y) = true := by rw [ratMaxG_eq]; split <;> assumption
/-! ### Stamps by rising moments -/
structure Rising (l : List StampG) : Prop where
  right : ∀ s ∈ l, rightQ s.when = true
  rise : l.Pairwise fun s t => cmpQ' s.when t.when < 0
theorem bsGo_split {p : Nat → Bool} {n : Nat} (hp : ∀ i j, i ≤ j → j < n → p j = true → p i = true) : ∀ (f i j : Nat), i ≤ j → j ≤ n → j - i ≤ f → (∀ k, k < i → p k = true) → (∀ k, j ≤ k → k < n → p k = false) →
    (∀ k, k < bsGo p f i j → p k = true) ∧ (∀ k, bsGo p f i j ≤ k → k < n → p k = false) := by
  intro f
  induction f with
  | zero =>
    intro i j hij hjn hf h1 h2
    have : i = j := by omega
    subst this
    exact ⟨h1, h2⟩
  | succ f ih =>
    intro i j hij hjn hf h1 h2
    simp only [bsGo]
    split
    · rename_i hlt
      split
      · rename_i hm
        refine ih _ _ (by omega) hjn (by omega) (fun k hk => ?_) h2
        exact hp k _ (by omega) (by omega) hm
      · rename_i hm
        refine ih _ _ (by omega) (by omega) (by omega) h1 (fun k hk hn => ?_)
        by_cases hk2 : p k = true
        · exact absurd (hp _ _ hk hn hk2) hm
        · simpa using hk2
    · have : i = j := by omega
      subst this
      exact ⟨h1, h2⟩
theorem Rising.get {l : List StampG} (h : Rising l) {i : Nat} (hi : i < l.length) : rightQ (l.getD i default).when = true := by
  rw [getD_lt hi]; exact h.right _ (List.getElem_mem _)
theorem Rising.lt {l : List StampG} (h : Rising l) {i j : Nat} (hij : i < j) (hj : j < l.length) : cmpQ' (l.getD i default).when (l.getD j default).when < 0 := by
  rw [getD_lt hj, getD_lt (by omega : i < l.length)]
  exact List.pairwise_iff_getElem.1 h.rise i j (by omega) hj hij
theorem bs_split {l : List StampG} {w : RatG} (h : Rising l) (hw : rightQ w = true) : (∀ k, k < bsAt l w → cmpQ' (l.getD k default).when w < 0) ∧ (∀ k, bsAt l w ≤ k → k < l.length → 0 ≤ cmpQ' (l.getD k default).when w) := by
  have hs : ∀ k, stampLess l w k = decide (cmpQ' (l.getD k default).when w < 0) := fun _ => rfl
  have := bsGo_split (p := stampLess l w) (n := l.length) (fun i j hij hj hp => by
    rw [hs] at hp ⊢
    simp only [decide_eq_true_eq] at hp ⊢
    rcases Nat.lt_or_eq_of_le hij with h' | h'
    · exact cmpQ_lt_le (h.get (by omega)) (h.get hj) hw (h.lt h' hj) (by omega)
    · rw [h']; exact hp) l.length 0 l.length (by omega) (by omega) (by omega) (by omega) (by omega)
  refine ⟨fun k hk => ?_, fun k hk hk2 => ?_⟩
  · have := this.1 k hk
    rw [hs] at this; simpa using this
  · have := this.2 k hk hk2
    rw [hs] at this; simpa using this
theorem bsHas_of {l : List StampG} {w : RatG} (h : Rising l) (hw : rightQ w = true) {k : Nat} (hk : k < l.length) (hc : cmpQ' (l.getD k default).when w = 0) : bsHas l w = true ∧ bsAt l w = k := by
  obtain ⟨h1, h2⟩ := bs_split h hw
  have hle : bsAt l w ≤ k := by
    by_cases hlt : k < bsAt l w
    · have := h1 k hlt; omega
    · omega
  have he : bsAt l w = k := by
    rcases Nat.lt_or_eq_of_le hle with hlt | he
    · have g1 := h2 _ (Nat.le_refl _) (by omega)
      have g2 := cmpQ_lt_le (h.get (by omega)) (h.get hk) hw (h.lt hlt hk) (by omega)
      omega
    · exact he
  refine ⟨?_, he⟩
  unfold bsHas
  rw [he]
  simp only [Bool.and_eq_true, decide_eq_true_eq]
  exact ⟨hk, hc⟩
theorem bsHas_false {l : List StampG} {w : RatG} (h : Rising l) (hw : rightQ w = true) (hb : bsHas l w = false) {k : Nat} (hk : k < l.length) : cmpQ' (l.getD k default).when w ≠ 0 := fun hc => by
  rw [(bsHas_of h hw hk hc).1] at hb; cases hb
theorem mem_getD {α : Type} [Inhabited α] {l : List α} {x : α} (h : x ∈ l) : ∃ k, k < l.length ∧ l.getD k default = x := by
  obtain ⟨k, hk, rfl⟩ := List.getElem_of_mem h
  exact ⟨k, hk, getD_lt hk⟩
theorem ins_rising {l : List StampG} {w : RatG} {v : Int} (h : Rising l) (hw : rightQ w = true) (hb : bsHas l w = false) : Rising (insG l (bsAt l w) ⟨leastQ w, v⟩) := by
  obtain ⟨h1, h2⟩ := bs_split h hw
  have hl := leastQ_right hw
  have hc := leastQ_cmp hw
  have hle := bsAt_le l w
  have pre : ∀ s ∈ l.take (bsAt l w), rightQ s.when = true ∧ cmpQ' s.when (leastQ w) < 0 := fun s hs => by
    obtain ⟨k, hk, rfl⟩ := mem_getD hs
    rw [List.length_take] at hk
    have e : (List.take (bsAt l w) l).getD k default = l.getD k default := by
      rw [getD_lt (by rw [List.length_take]; exact hk), getD_lt (by omega : k < l.length), List.getElem_take]
    rw [e]
    have r := h.get (show k < l.length by omega)
    exact ⟨r, by rw [cmpQ_alike' hl hw r hc]; exact h1 k (by omega)⟩
  have post : ∀ s ∈ l.drop (bsAt l w), rightQ s.when = true ∧ cmpQ' (leastQ w) s.when < 0 := fun s hs => by
    obtain ⟨k, hk, rfl⟩ := mem_getD hs
    rw [List.length_drop] at hk
    have e : (List.drop (bsAt l w) l).getD k default = l.getD (bsAt l w + k) default := by
      rw [getD_lt (by rw [List.length_drop]; exact hk), getD_lt (by omega : bsAt l w + k < l.length), List.getElem_drop]
    rw [e]
    have hk' : bsAt l w + k < l.length := by omega
    have r := h.get hk'
    have g1 := h2 _ (Nat.le_add_right _ k) hk'
    have g2 := bsHas_false h hw hb hk'
    exact ⟨r, by rw [cmpQ_alike hl hw r hc, cmpQ_anti]; omega⟩
  refine ⟨fun s hs => ?_, ?_⟩
  · unfold insG at hs
    rcases List.mem_append.1 hs with hs | hs
    · exact (pre s hs).1
    · rcases List.mem_cons.1 hs with rfl | hs
      · exact hl
      · exact (post s hs).1
  · unfold insG
    rw [List.pairwise_append]
    refine ⟨h.rise.sublist (List.take_sublist _ _), List.pairwise_cons.2 ⟨fun s hs => (post s hs).2, h.rise.sublist (List.drop_sublist _ _)⟩, fun a ha b hb' => ?_⟩
    rcases List.mem_cons.1 hb' with rfl | hb'
    · exact (pre a ha).2
    · exact cmpQ_lt_le (pre a ha).1 hl (post b hb').1 (pre a ha).2 (Int.le_of_lt (post b hb').2)
/-! ### Memories in order -/
structure Mem.Good (b : Nat) (m : Mem) : Prop where
  wf : m.Wf b
  rising : ∀ r ∈ m.past, Rising r
  frontsR : ∀ r ∈ m.fronts, ∀ q ∈ r, rightQ q = true
  marksR : ∀ r ∈ m.marks, ∀ q ∈ r, rightQ q = true
theorem Mem.Wf.mono {b b' : Nat} {m : Mem} (h : m.Wf b) (hb : b ≤ b') : m.Wf b' := ⟨h.locs, h.past, h.vals, h.marks, h.fronts, fun r hr => Nat.le_trans (h.pasts r hr) hb, h.marksL, h.marksA, h.frontsL⟩
theorem Mem.Good.mono {b b' : Nat} {m : Mem} (h : m.Good b) (hb : b ≤ b') : m.Good b' := ⟨h.wf.mono hb, h.rising, h.frontsR, h.marksR⟩
theorem good_iff {m : Mem} {s : StepG} : goodQ m s = true ↔ 0 ≤ s.thread ∧ s.thread < m.fronts.length ∧ s.act.right m.locs = true ∧ (isPl s.act.kind = true → rightQ s.when = true) ∧ (isPl s.act.kind = false → s.when = ⟨0, 0⟩) := by
  unfold goodQ
  cases h : isPl s.act.kind <;> simp [and_assoc]
theorem doErr_good {m : Mem} {s : StepG} (h : doErr m s = 0) : goodQ m s = true := by
  unfold doErr at h
  split at h
  · cases h
  · rename_i hg; simpa using hg
theorem joinG_get {a b : List RatG} {k : Nat} (h : k < a.length) : (joinG a b).getD k default = ratMaxG (a.getD k default) (b.getD k default) := by
  rw [getD_lt (by rw [joinG_len]; exact h)]; unfold joinG; simp
theorem joinG_right {a b : List RatG} (hl : a.length ≤ b.length) (ha : ∀ q ∈ a, rightQ q = true) (hb : ∀ q ∈ b, rightQ q = true) : ∀ q ∈ joinG a b, rightQ q = true := by
  intro q hq
  obtain ⟨k, hk, rfl⟩ := mem_getD hq
  rw [joinG_len] at hk
  rw [joinG_get hk, getD_lt hk, getD_lt (by omega : k < b.length)]
  exact ratMaxG_right (ha _ (List.getElem_mem _)) (hb _ (List.getElem_mem _))
theorem right_loc {k o q v : Int} {l : List LocG} (hk : isPl k = true ∨ isAt k = true) (h : ActG.right ⟨k, o, q, v⟩ l = true) : 0 ≤ o ∧ o < l.length :=
  right_bounds (by rintro rfl; rcases hk with hk | hk <;> revert hk <;> decide) h
theorem mem_set {α : Type} {l : List α} {i : Nat} {x y : α} (h : y ∈ l.set i x) : y ∈ l ∨ (y = x ∧ i < l.length) := by
  rcases List.mem_or_eq_of_mem_set h with h' | rfl
  · exact .inl h'
  · by_cases hi : i < l.length
    · exact .inr ⟨rfl, hi⟩
    · rw [List.set_eq_of_length_le (by omega)] at h; exact .inl h
theorem getD_mem {α : Type} {l : List α} {i : Nat} {d : α} (h : i < l.length) : l.getD i d ∈ l := by
  rw [List.getD_eq_getElem?_getD, List.getElem?_eq_getElem h]; exact List.getElem_mem _
theorem getD_set {α : Type} {l : List α} {i j : Nat} {d x : α} : (l.set i x).getD j d = if i = j ∧ j < l.length then x else l.getD j d := by
  rw [List.getD_eq_getElem?_getD, List.getElem?_set, List.getD_eq_getElem?_getD]
  by_cases h : i = j
  · subst h
    by_cases hl : i < l.length
    · simp [hl]
    · simp [hl]
  · simp [h]
theorem isPl_iff {k : Int} : isPl k = true ↔ k = 1 ∨ k = 2 := by unfold isPl; simp
/-- What is known of a step that is taken. -/
structure Taken (m : Mem) (s : StepG) : Prop where
  t0 : 0 ≤ s.thread
  t1 : s.thread < m.fronts.length
  right : s.act.right m.locs = true
  loc : isPl s.act.kind = true ∨ isAt s.act.kind = true → 0 ≤ s.act.loc ∧ s.act.loc < m.locs.length
  when : isPl s.act.kind = true → rightQ s.when = true
  write : s.act.kind = 2 → bsHas (pastOf m s) s.when = false ∧ 0 < cmpQ' s.when ((frontOf m s).getD s.act.loc.toNat default)
  read : s.act.kind = 1 → bsHas (pastOf m s) s.when = true ∧ 0 ≤ cmpQ' s.when ((frontOf m s).getD s.act.loc.toNat default) ∧ ((pastOf m s).getD (bsAt (pastOf m s) s.when) default).val = s.act.old
theorem taken {m : Mem} {s : StepG} (h : doErr m s = 0) : Taken m s := by
  have hg := good_iff.1 (doErr_good h)
  refine ⟨hg.1, hg.2.1, hg.2.2.1, fun hk => ?_, hg.2.2.2.1, fun hk => ?_, fun hk => ?_⟩
  · obtain ⟨t, ⟨k, o, q, v⟩, w⟩ := s
    exact right_loc hk hg.2.2.1
  · unfold doErr at h
    rw [if_neg (by rw [doErr_good (by unfold doErr; exact h)]; simp), if_neg (by omega), if_pos hk] at h
    split at h
    · cases h
    · split at h
      · cases h
      · rename_i g1 g2; exact ⟨by simpa using g1, by omega⟩
  · unfold doErr at h
    rw [if_neg (by rw [doErr_good (by unfold doErr; exact h)]; simp), if_pos hk] at h
    split at h
    · cases h
    · split at h
      · cases h
      · split at h
        · cases h
        · rename_i g1 g2 g3; exact ⟨by simpa using g1, by omega, by simpa using g3⟩
theorem doMem_good {m : Mem} {s : StepG} {b : Nat} (h : m.Good b) (he : doErr m s = 0) : (doMem m s).Good (b + 1) := by
  have ht := taken he
  have t0 := ht.t0
  have t1 := ht.t1
  have hfm : frontOf m s ∈ m.fronts := getD_mem (by omega)
  have hfl : (frontOf m s).length = m.locs.length := h.wf.frontsL _ hfm
  have hfr := h.frontsR _ hfm
  unfold doMem
  split
  · rename_i hk
    have hl := ht.loc (.inl (by rw [hk]; rfl))
    have hw := ht.when (by rw [hk]; rfl)
    obtain ⟨hb, hf⟩ := ht.write hk
    have hpm : pastOf m s ∈ m.past := getD_mem (by rw [h.wf.past]; omega)
    have hpr := h.rising _ hpm
    refine ⟨⟨h.wf.locs, by simpa using h.wf.past, h.wf.vals, h.wf.marks, by simpa using h.wf.fronts, fun r hr => ?_, h.wf.marksL, h.wf.marksA, fun r hr => ?_⟩, fun r hr => ?_, fun r hr => ?_, h.marksR⟩
    · rcases mem_set hr with hr | ⟨rfl, -⟩
      · exact Nat.le_succ_of_le (h.wf.pasts r hr)
      · rw [insG_len (bsAt_le _ _)]; exact Nat.succ_le_succ (h.wf.pasts _ hpm)
    · rcases mem_set hr with hr | ⟨rfl, -⟩
      · exact h.wf.frontsL r hr
      · rw [List.length_set]; exact hfl
    · rcases mem_set hr with hr | ⟨rfl, -⟩
      · exact h.rising r hr
      · exact ins_rising hpr hw hb
    · rcases mem_set hr with hr | ⟨rfl, -⟩
      · exact h.frontsR r hr
      · intro q hq
        rcases mem_set hq with hq | ⟨rfl, -⟩
        · exact hfr q hq
        · exact leastQ_right hw
  · split
    · rename_i hk2 hk
      have hl := ht.loc (.inr hk)
      have hmm : markOf m s ∈ m.marks := getD_mem (by rw [h.wf.marks]; omega)
      have hml : (markOf m s).length = m.locs.length := h.wf.marksA _ (by omega) (by
        have := ht.right
        obtain ⟨t, ⟨k, o, q, v⟩, w⟩ := s
        exact right_atom hk this)
      have hbl : (joinG (frontOf m s) (markOf m s)).length = m.locs.length := by rw [joinG_len]; exact hfl
      have hbr := joinG_right (show (frontOf m s).length ≤ (markOf m s).length by omega) hfr (h.marksR _ hmm)
      have F1 : ∀ r ∈ m.fronts.set s.thread.toNat (joinG (frontOf m s) (markOf m s)), r.length = m.locs.length := fun r hr => by
        rcases mem_set hr with hr | ⟨rfl, -⟩
        · exact h.wf.frontsL r hr
        · exact hbl
      have F2 : ∀ r ∈ m.fronts.set s.thread.toNat (joinG (frontOf m s) (markOf m s)), ∀ q ∈ r, rightQ q = true := fun r hr => by
        rcases mem_set hr with hr | ⟨rfl, -⟩
        · exact h.frontsR r hr
        · exact hbr
      split
      · exact ⟨⟨h.wf.locs, h.wf.past, h.wf.vals, h.wf.marks, by simpa using h.wf.fronts, fun r hr => Nat.le_succ_of_le (h.wf.pasts r hr), h.wf.marksL, h.wf.marksA, F1⟩, h.rising, F2, h.marksR⟩
      · refine ⟨⟨h.wf.locs, h.wf.past, by simpa using h.wf.vals, by simpa using h.wf.marks, by simpa using h.wf.fronts, fun r hr => Nat.le_succ_of_le (h.wf.pasts r hr), fun r hr => ?_, fun i hi ha => ?_, F1⟩, h.rising, F2, fun r hr => ?_⟩
        · rcases mem_set hr with hr | ⟨rfl, -⟩
          · exact h.wf.marksL r hr
          · exact Nat.le_of_eq hbl
        · show ((m.marks.set _ _).getD i []).length = _
          rw [getD_set]
          split
          · exact hbl
          · exact h.wf.marksA i hi ha
        · rcases mem_set hr with hr | ⟨rfl, -⟩
          · exact h.marksR r hr
          · exact hbr
    · exact h.mono (Nat.le_succ b)
theorem inn_map {α β : Type} (f : β → List α × Bool) (l : List β) : inn (l.map f) = l.map fun x => (f x).1 := by unfold inn; rw [List.map_map]; rfl
theorem newM_good {l : List LocG} {t : Int} (h : newErr l t = 0) : (newM l t).plain.Good 1 := by
  have hb : l.length ≤ 16 ∧ 1 ≤ t ∧ t ≤ 3 := by unfold newErr at h; split at h; cases h; omega
  have z : rightQ ⟨0, 1⟩ = true := by decide
  unfold newM
  rw [if_pos h]
  have s0 : ∀ q ∈ startG l.length, rightQ q = true := fun q hq => by rw [(List.mem_replicate.1 hq).2]; exact z
  have sl : (startG l.length).length = l.length := List.length_replicate
  refine ⟨⟨hb.1, by simp [MemG.plain, inn_len], by simp [MemG.plain], by simp [MemG.plain, inn_len], ?_, fun r hr => ?_, fun r hr => ?_, fun i hi ha => ?_, fun r hr => ?_⟩, fun r hr => ?_, fun r hr => ?_, fun r hr => ?_⟩
  · show (inn (frontX l.length t.toNat)).length ≤ 3
    rw [inn_len, frontX_len]; omega
  · have hr : r ∈ inn (l.map pastX) := hr
    rw [inn_map] at hr
    obtain ⟨x, -, rfl⟩ := List.mem_map.1 hr
    unfold pastX; split <;> simp
  · have hr : r ∈ inn (l.map (markX l.length)) := hr
    rw [inn_map] at hr
    obtain ⟨x, -, rfl⟩ := List.mem_map.1 hr
    show _ ≤ l.length
    unfold markX; split <;> simp [sl]
  · have hi : i < l.length := hi
    have ha : (l.getD i default).atom = true := ha
    show ((inn (l.map (markX l.length))).getD i []).length = l.length
    rw [inn_map, List.getD_eq_getElem?_getD, List.getElem?_map, List.getElem?_eq_getElem hi]
    rw [getD_lt hi] at ha
    show (markX l.length l[i]).1.length = _
    unfold markX; rw [if_pos ha]; exact sl
  · have hr : r ∈ inn (frontX l.length t.toNat) := hr
    unfold frontX inn at hr
    rw [List.map_replicate] at hr
    rw [(List.mem_replicate.1 hr).2]; exact sl
  · have hr : r ∈ inn (l.map pastX) := hr
    rw [inn_map] at hr
    obtain ⟨x, -, rfl⟩ := List.mem_map.1 hr
    unfold pastX; split
    · exact ⟨by simp, List.Pairwise.nil⟩
    · exact ⟨fun s hs => by rw [List.mem_singleton.1 hs]; exact z, List.pairwise_singleton _ _⟩
  · have hr : r ∈ inn (frontX l.length t.toNat) := hr
    unfold frontX inn at hr
    rw [List.map_replicate] at hr
    rw [(List.mem_replicate.1 hr).2]; exact s0
  · have hr : r ∈ inn (l.map (markX l.length)) := hr
    rw [inn_map] at hr
    obtain ⟨x, -, rfl⟩ := List.mem_map.1 hr
    unfold markX; split
    · exact s0
    · simp
end Go.Ago

/- Law 20: awake, done, onward. Conditions: none. -/
set_option maxRecDepth 100000
set_option linter.unusedSimpArgs false
set_option linter.unusedVariables false
namespace Go.Ago
theorem plain_av (m : Mem) : m.av.plain = m := by
  have h : ∀ {α : Type} (L : List (List α)), inn (L.map (·, false)) = L := fun L => by rw [inn_map]; exact List.map_id _
  unfold Mem.av MemG.plain
  simp only [h]
theorem at_DoM (m : MemG) (s : StepG) :
    sp_Do.at [.agg [.d (.list (m.locs.map LocG.row) m.lf), .d (.list (m.past.map rowStamps) m.pf), .d (.list (m.vals.map rowI) m.vf), .d (.list (m.marks.map rowRats) m.mf), .d (.list (m.fronts.map rowRats) m.ff)], .agg [.d (.int .i64 s.thread), .d (.int .i64 s.act.kind), .d (.int .i64 s.act.loc), .d (.int .i64 s.act.old), .d (.int .i64 s.act.new), .d (.int .i64 s.when.num), .d (.int .i64 s.when.den)]] =
      .data (m.plain.Wf 1000000) (.tup [(resM m.plain s).av, .d (.int .i64 (doErr m.plain s))]) false := at_Do _ _ _ _ _ _ _ _ _ _ _ _ _ _ _ _ _
theorem at_SeesM (m : MemG) (t l : Int) :
    sp_Sees.at [.agg [.d (.list (m.locs.map LocG.row) m.lf), .d (.list (m.past.map rowStamps) m.pf), .d (.list (m.vals.map rowI) m.vf), .d (.list (m.marks.map rowRats) m.mf), .d (.list (m.fronts.map rowRats) m.ff)], .d (.int .i64 t), .d (.int .i64 l)] =
      .data (m.plain.Wf 1000000) (.d (.list ((seesG m.plain t l).map StampG.row) false)) false := at_Sees _ _ _ _ _ _ _ _ _ _ _ _
theorem wfM {m : MemG} {b : Nat} (h : m.plain.Good b) (hb : b ≤ 1000000) : m.plain.Wf 1000000 := h.wf.mono hb
def stepM (m : MemG) (s : StepG) : MemG := if doErr m.plain s = 0 then (doMem m.plain s).av else m
theorem stepM_good {m : MemG} {s : StepG} {b : Nat} (h : m.plain.Good b) : (stepM m s).plain.Good (b + 1) := by
  unfold stepM
  split
  · rename_i he; rw [plain_av]; exact doMem_good h he
  · exact h.mono (Nat.le_succ b)
def goM (m : MemG) (ss : List StepG) (n : Nat) : MemG := (ss.take n).foldl stepM m
theorem goM_succ (m : MemG) {ss : List StepG} {n : Nat} (h : n < ss.length) : goM m ss (n + 1) = stepM (goM m ss n) (ss.getD n default) := by
  unfold goM; rw [List.take_add_one, List.getElem?_eq_getElem h, List.foldl_append, getD_lt h]; rfl
theorem goM_good {m : MemG} {b : Nat} (h : m.plain.Good b) (ss : List StepG) : ∀ n, (goM m ss n).plain.Good (b + n) := by
  intro n
  induction n with
  | zero => exact h
  | succ n ih =>
    by_cases hn : n < ss.length
    · rw [goM_succ m hn]; exact stepM_good ih
    · have : goM m ss (n + 1) = goM m ss n := by unfold goM; rw [List.take_of_length_le (by omega), List.take_of_length_le (by omega)]
      rw [this]; exact ih.mono (Nat.le_succ _)
def doneQ (l : List LocG) (t : Int) : Bool := decide (l.length ≤ 10) && decide (newErr l t = 0)
def doneM (l : List LocG) (t : Int) (ss : List StepG) : MemG := if doneQ l t = true then goM (newM l t) ss 40 else .nil
theorem doneM_good {l : List LocG} {t : Int} {ss : List StepG} (h : doneQ l t = true) : (doneM l t ss).plain.Good 41 := by
  unfold doneM
  rw [if_pos h]
  unfold doneQ at h
  simp only [Bool.and_eq_true, decide_eq_true_eq] at h
  exact (goM_good (newM_good h.2) ss 40).mono (by omega)
structure MemG.Flat (m : MemG) : Prop where
  lf : m.lf = false
  pf : m.pf = false
  vf : m.vf = false
  mf : m.mf = false
  ff : m.ff = false
theorem stepM_flat {m : MemG} {s : StepG} (h : m.Flat) : (stepM m s).Flat := by
  unfold stepM; split
  · exact ⟨rfl, rfl, rfl, rfl, rfl⟩
  · exact h
theorem newM_flat (l : List LocG) (t : Int) : (newM l t).Flat := by unfold newM; split <;> exact ⟨rfl, rfl, rfl, rfl, rfl⟩
theorem goM_flat {m : MemG} (h : m.Flat) (ss : List StepG) : ∀ n, (goM m ss n).Flat := by
  intro n
  unfold goM
  generalize ss.take n = l
  induction l generalizing m with
  | nil => exact h
  | cons s l ih => exact ih (stepM_flat h)
def MemG.row (m : MemG) : List AV := [.d (.list (m.locs.map LocG.row) m.lf), .d (.list (m.past.map rowStamps) m.pf), .d (.list (m.vals.map rowI) m.vf), .d (.list (m.marks.map rowRats) m.mf), .d (.list (m.fronts.map rowRats) m.ff)]
def doneSt (l : List LocG) (f : Bool) (t : Int) (ss : List StepG) (g : Bool) (x : Nat × MemG) : State :=
  ⟨[(6, .ptr 0 5 0 0), (8, .ptr 1 5 0 0), (10, .d (.int .i64 x.1)), (2, .d (.list (ss.map StepG.row) g))],
    [nobj, .vec 5 [x.2.row]]⟩
def sp_done : Sp := ⟨List LocG × Bool × Int × List StepG × Bool, fun x => [.d (.list (x.1.map LocG.row) x.2.1), .d (.int .i64 x.2.2.1), .d (.list (x.2.2.2.1.map StepG.row) x.2.2.2.2)],
  fun x => .data (x.1.length ≤ maxLen ∧ x.2.2.2.1.length ≤ maxLen) (.tup [(doneM x.1 x.2.2.1 x.2.2.2.1).av, .d (.bool (doneQ x.1 x.2.2.1))]) false⟩
theorem at_done (l : List LocG) (f : Bool) (t : Int) (ss : List StepG) (g : Bool) : sp_done.at [.d (.list (l.map LocG.row) f), .d (.int .i64 t), .d (.list (ss.map StepG.row) g)] =
    .data (l.length ≤ maxLen ∧ ss.length ≤ maxLen) (.tup [(doneM l t ss).av, .d (.bool (doneQ l t))]) false :=
  Sp.at_enc (s := sp_done) (fun x y h => by
    obtain ⟨l, f, t, ss, g⟩ := x; obtain ⟨l', f', t', ss', g'⟩ := y
    simp only [sp_done, List.cons.injEq, AV.d.injEq, DV.list.injEq, DV.int.injEq, and_true, true_and] at h
    obtain ⟨⟨h1, h2⟩, h3, h4, h5⟩ := h
    rw [rows_inj LocG.row_inj h1, h2, h3, rows_inj StepG.row_inj h4, h5]) (l, f, t, ss, g)
set_option maxHeartbeats 4000000 in
theorem body_law20_done {T : Tab} {n1 n2 : Nat} (k1 : Knows T n1 sp_New) (k2 : Knows T n2 sp_Do) : sp_done.Body T V_law20_done (L_law20_done n1 n2) R_law20_done := by
  have F1 := k1.F; have G1 := k1.G; have F2 := k2.F; have G2 := k2.G
  rintro ⟨l, f, t, ss, g⟩ ⟨hl, hs⟩
  have hl : l.length ≤ maxLen := hl
  have hs : ss.length ≤ maxLen := hs
  refine ⟨rfl, ?_⟩
  unfold V_law20_done L_law20_done R_law20_done
  simp (maxSteps := 3000000) only [↓vck_skip, ↓vck_ret, ↓vck_exit, ↓vck_region, ↓vck_nilq, ↓nilTo_to, nilG_d, nilG_r, ↓vck_seq, ↓vck_cond, ↓vck_block, ↓vck_loop, ↓vckTo_to, ↓thenK_n, ↓thenK_x, ↓thenK_r, ↓blockK_n, ↓blockK_x, ↓blockK_o, ↓blockK_r, ↓regK_to, ↓retK_r, ↓retK_n, ↓loopV_n, ↓loopV_x, ↓loopV_r, ↓famK_n, ↓famK_x, ↓famK_r, ↓boolK_true, ↓boolK_false, ↓boolK_not, ↓boolK_dec, ↓boolK_and, nf_mk, RGk_end_f, RGk_end_t, RGk_op, RGk_guard, opK_to, evN, evCallN, grow_mk, feet_f, feet_t, foot_mk, stepK_mk, stepK_v, stepK_no, guardG_t, guardG_f, guardG_no, condG_b, evT, Opd.ev, get_hit, get_next, app_to, app_no, app_up, app_skip, app_skipn, know_mk, knowO_t, knowO_c, envFrom, reserve, keeps, LOp.isNew, State.prune, cellsQ, cellsT, AV.leaf, Heap.at, evLoad_ptr, evLoad_dptr, loadO_vec, loadO_dvec1, stepK_load_map, idx_I, idx_U, idx_Rat, idx_Loc, idx_Act, idx_Step, idx_Stamp, stepK_idx_ref, evStore_ptr, storeO_vec, stepK_store_map1, loadDT_f, rowI, rowU, RatG.row, LocG.row, ActG.row, StepG.row, StampG.row, ActG.av, ActG.eta, RatG.eta, LocG.eta, beq_true, beq_false, loadDT_t, set_rowI, set_rowU, app_rowI, app_rowU, rep_rowI, rep_rowU, set_rowRat, app_rowRat, rep_rowRat, set_rowLoc, app_rowLoc, app_rowAct, app_rowStep, List.length_set, List.length_replicate, Int.toNat_natCast, Int.reduceToNat, evLen, evAppend, srcOf, Src.all, Src.len, Src.leaf, Src.leafN, evApart, aliveQ, joinV, drows_rep1, drows_rep2, drows_rep3, drows_rep4, drows_rep5, drows_rep6, drows_rep7, drows_rep8, mkVec, drows, evMk, List.length_map, take_mapF, drop_mapF, List.take_length, List.take_left, List.length_append, Nat.le_add_right, ite_self, List.take_of_length_le, evSlice, intOr, intOpd, Option.isSome_none, Option.isSome_some, Nat.sub_zero, loadQ, loadT, evBin, evUn, binT, binQ, chk, apartF, List.contains_cons, List.contains_nil, Bool.or_false, Bool.false_or, Bool.and_self, resQ, resV, resT, pickV, evCallT, evTake, evCall, fnOf, viewsT, isD, HO.drow, viewT, evInt2, evEq, eqV, eqK, eqC1, buildQ, buildT, buildRQ, buildRT, lens_I, lensA_I, lens_U, lensA_U, lens_Rat, lensA_Rat, lens_Loc, lensA_Loc, lens_Act, lensA_Act, lens_Step, lensA_Step, lens_Stamp, lensA_Stamp, List.mem_cons, List.not_mem_nil, or_false, forall_eq, putRow, dcells, get_nil, RetS, RetF, RetD, AV.frz, AV.frzL, AV.freshP, AV.freshL, DV.less, scal_int, scal_bool, scal_nil, scal_rowI, scal_rowU, scal_rowRat, scal_rowStep, Option.some.injEq, AV.tup.injEq, AV.agg.injEq, List.cons.injEq, DV.list.injEq, List.isEmpty_nil, Nat.le_refl, AV.d.injEq, DV.int.injEq, DV.bool.injEq, ↓reduceIte, Nat.reduceEqDiff, Nat.reduceAdd, Nat.reduceBEq, List.length_cons, List.length_nil, List.replicate_succ, List.replicate_zero, List.nil_append, List.cons_append, List.append_nil, List.foldl_cons, List.foldl_nil, List.map_cons, List.map_nil, List.all_cons, List.all_nil, List.set_cons_zero, List.set_cons_succ, List.getD_cons_zero, List.getD_cons_succ, List.drop_zero, List.drop_succ_cons, List.take_succ_cons, List.take_zero, List.flatten_cons, List.flatten_nil, Bool.true_and, Bool.and_true, Bool.not_true, Bool.not_false, true_and, and_true, true_or, or_true, Option.bind_some, Option.map_some, decide_true, decide_false, beq_self_eq_true, true_implies, false_implies, implies_true, not_true_eq_false, not_false_eq_true, and_self, Bool.and_false, Bool.false_and, Nat.reduceLT, Nat.reduceLeDiff, List.reverse_cons, List.reverse_nil, Nat.zero_add, Nat.add_zero, Bool.false_eq_true, List.getElem?_cons_zero, sp_done, F1, G1, F2, G2, at_New, at_DoM, MemG.av, loadO_vec, storeO_vec]
  have eM : ∀ {m : MemG}, m.Flat → ∀ {m' : MemG}, m = m' → ((m.locs.map LocG.row = m'.locs.map LocG.row ∧ false = m'.lf) ∧ (m.past.map rowStamps = m'.past.map rowStamps ∧ false = m'.pf) ∧ (m.vals.map rowI = m'.vals.map rowI ∧ false = m'.vf) ∧ (m.marks.map rowRats = m'.marks.map rowRats ∧ false = m'.mf) ∧ m.fronts.map rowRats = m'.fronts.map rowRats ∧ false = m'.ff) := by
    rintro m h m' rfl
    exact ⟨⟨rfl, h.lf.symm⟩, ⟨rfl, h.pf.symm⟩, ⟨rfl, h.vf.symm⟩, ⟨rfl, h.mf.symm⟩, rfl, h.ff.symm⟩
  have fn : MemG.nil.Flat := ⟨rfl, rfl, rfl, rfl, rfl⟩
  have bad : doneQ l t = false → doneM l t ss = .nil := fun h => by unfold doneM; rw [h]; rfl
  refine ⟨fun c => ?_, fun c => ⟨hl, fun c2 => ?_, fun c2 => ?_⟩⟩
  · have hq : doneQ l t = false := by unfold doneQ; rw [decide_eq_false (by omega)]; rfl
    exact ⟨eM fn (bad hq).symm, hq.symm⟩
  · have hq : doneQ l t = true := by unfold doneQ; rw [decide_eq_true (by omega), decide_eq_true c2]; rfl
    have hd : doneM l t ss = goM (newM l t) ss 40 := by unfold doneM; rw [if_pos hq]
    refine Loop.fam [6, 8, 10, 2] (doneSt l f t ss g) (fun x => x.1 ≤ ss.length ∧ x.1 ≤ 40 ∧ x.2 = goM (newM l t) ss x.1) (fun x => 40 - x.1) (0, newM l t) [0, 1] (by simp) (by simp) (by simp only [State.can, AV.can, AV.canL, HO.can, canRows, idx, get_hit, get_next, Heap.at, Nat.reduceBEq, ↓reduceIte, Nat.reduceEqDiff, Option.getD_some, Option.map_some, List.map_cons, List.map_nil, List.getD_cons_zero, List.getD_cons_succ, doneSt, nobj, MemG.row]; rfl) ⟨Nat.zero_le _, Nat.zero_le _, rfl⟩ ?_
    rintro ⟨i, m⟩ ⟨i1, i2, hm⟩
    have i1 : i ≤ ss.length := i1
    have i2 : i ≤ 40 := i2
    have hm : m = goM (newM l t) ss i := hm
    have hgood : m.plain.Good (1 + i) := by rw [hm]; exact goM_good (newM_good c2) ss i
    have hflat : m.Flat := by rw [hm]; exact goM_flat (newM_flat l t) ss i
    simp (maxSteps := 3000000) only [↓vck_skip, ↓vck_ret, ↓vck_exit, ↓vck_region, ↓vck_nilq, ↓nilTo_to, nilG_d, nilG_r, ↓vck_seq, ↓vck_cond, ↓vck_block, ↓vck_loop, ↓vckTo_to, ↓thenK_n, ↓thenK_x, ↓thenK_r, ↓blockK_n, ↓blockK_x, ↓blockK_o, ↓blockK_r, ↓regK_to, ↓retK_r, ↓retK_n, ↓loopV_n, ↓loopV_x, ↓loopV_r, ↓famK_n, ↓famK_x, ↓famK_r, ↓boolK_true, ↓boolK_false, ↓boolK_not, ↓boolK_dec, ↓boolK_and, nf_mk, RGk_end_f, RGk_end_t, RGk_op, RGk_guard, opK_to, evN, evCallN, grow_mk, feet_f, feet_t, foot_mk, stepK_mk, stepK_v, stepK_no, guardG_t, guardG_f, guardG_no, condG_b, evT, Opd.ev, get_hit, get_next, app_to, app_no, app_up, app_skip, app_skipn, know_mk, knowO_t, knowO_c, envFrom, reserve, keeps, LOp.isNew, State.prune, cellsQ, cellsT, AV.leaf, Heap.at, evLoad_ptr, evLoad_dptr, loadO_vec, loadO_dvec1, stepK_load_map, idx_I, idx_U, idx_Rat, idx_Loc, idx_Act, idx_Step, idx_Stamp, stepK_idx_ref, evStore_ptr, storeO_vec, stepK_store_map1, loadDT_f, rowI, rowU, RatG.row, LocG.row, ActG.row, StepG.row, StampG.row, ActG.av, ActG.eta, RatG.eta, LocG.eta, beq_true, beq_false, loadDT_t, set_rowI, set_rowU, app_rowI, app_rowU, rep_rowI, rep_rowU, set_rowRat, app_rowRat, rep_rowRat, set_rowLoc, app_rowLoc, app_rowAct, app_rowStep, List.length_set, List.length_replicate, Int.toNat_natCast, Int.reduceToNat, evLen, evAppend, srcOf, Src.all, Src.len, Src.leaf, Src.leafN, evApart, aliveQ, joinV, drows_rep1, drows_rep2, drows_rep3, drows_rep4, drows_rep5, drows_rep6, drows_rep7, drows_rep8, mkVec, drows, evMk, List.length_map, take_mapF, drop_mapF, List.take_length, List.take_left, List.length_append, Nat.le_add_right, ite_self, List.take_of_length_le, evSlice, intOr, intOpd, Option.isSome_none, Option.isSome_some, Nat.sub_zero, loadQ, loadT, evBin, evUn, binT, binQ, chk, apartF, List.contains_cons, List.contains_nil, Bool.or_false, Bool.false_or, Bool.and_self, resQ, resV, resT, pickV, evCallT, evTake, evCall, fnOf, viewsT, isD, HO.drow, viewT, evInt2, evEq, eqV, eqK, eqC1, buildQ, buildT, buildRQ, buildRT, lens_I, lensA_I, lens_U, lensA_U, lens_Rat, lensA_Rat, lens_Loc, lensA_Loc, lens_Act, lensA_Act, lens_Step, lensA_Step, lens_Stamp, lensA_Stamp, List.mem_cons, List.not_mem_nil, or_false, forall_eq, putRow, dcells, get_nil, RetS, RetF, RetD, AV.frz, AV.frzL, AV.freshP, AV.freshL, DV.less, scal_int, scal_bool, scal_nil, scal_rowI, scal_rowU, scal_rowRat, scal_rowStep, Option.some.injEq, AV.tup.injEq, AV.agg.injEq, List.cons.injEq, DV.list.injEq, List.isEmpty_nil, Nat.le_refl, AV.d.injEq, DV.int.injEq, DV.bool.injEq, ↓reduceIte, Nat.reduceEqDiff, Nat.reduceAdd, Nat.reduceBEq, List.length_cons, List.length_nil, List.replicate_succ, List.replicate_zero, List.nil_append, List.cons_append, List.append_nil, List.foldl_cons, List.foldl_nil, List.map_cons, List.map_nil, List.all_cons, List.all_nil, List.set_cons_zero, List.set_cons_succ, List.getD_cons_zero, List.getD_cons_succ, List.drop_zero, List.drop_succ_cons, List.take_succ_cons, List.take_zero, List.flatten_cons, List.flatten_nil, Bool.true_and, Bool.and_true, Bool.not_true, Bool.not_false, true_and, and_true, true_or, or_true, Option.bind_some, Option.map_some, decide_true, decide_false, beq_self_eq_true, true_implies, false_implies, implies_true, not_true_eq_false, not_false_eq_true, and_self, Bool.and_false, Bool.false_and, Nat.reduceLT, Nat.reduceLeDiff, List.reverse_cons, List.reverse_nil, Nat.zero_add, Nat.add_zero, Bool.false_eq_true, List.getElem?_cons_zero, doneSt, nobj, MemG.row, sp_done, F1, G1, F2, G2, at_New, at_DoM, MemG.av, loadO_vec, storeO_vec]
    refine ⟨fun c3 => ⟨fun c4 => ⟨⟨by omega, by omega⟩, wfM hgood (by omega), fun e => ?_, fun e => ?_⟩, fun c4 => ?_⟩, fun c3 => ?_⟩
    · have hi : i < ss.length := by omega
      have es : goM (newM l t) ss (i + 1) = resM m.plain (ss.getD i default) := by
        rw [goM_succ _ hi, ← hm]; unfold stepM resM; rw [if_pos e, if_pos e]
      rw [wrap_succ hi hs]
      refine FamNext.mk [0, 1] (i + 1, resM m.plain (ss.getD i default)) (by simp) (by simp) (by simp only [State.can, AV.can, AV.canL, HO.can, canRows, idx, get_hit, get_next, Heap.at, Nat.reduceBEq, ↓reduceIte, Nat.reduceEqDiff, Option.getD_some, Option.map_some, List.map_cons, List.map_nil, List.getD_cons_zero, List.getD_cons_succ, doneSt, nobj, MemG.row]) ⟨by show i + 1 ≤ _; omega, by show i + 1 ≤ 40; omega, es.symm⟩ (by show 40 - (i + 1) < 40 - i; omega)
    · have hi : i < ss.length := by omega
      have es : goM (newM l t) ss (i + 1) = m := by
        rw [goM_succ _ hi, ← hm]; unfold stepM; rw [if_neg e]
      rw [wrap_succ hi hs]
      refine FamNext.mk [0, 1] (i + 1, m) (by simp) (by simp) (by simp only [State.can, AV.can, AV.canL, HO.can, canRows, idx, get_hit, get_next, Heap.at, Nat.reduceBEq, ↓reduceIte, Nat.reduceEqDiff, Option.getD_some, Option.map_some, List.map_cons, List.map_nil, List.getD_cons_zero, List.getD_cons_succ, doneSt, nobj, MemG.row]) ⟨by show i + 1 ≤ _; omega, by show i + 1 ≤ 40; omega, es.symm⟩ (by show 40 - (i + 1) < 40 - i; omega)
    · have : i = 40 := by omega
      subst this
      exact ⟨eM hflat (by rw [hd, hm]), hq.symm⟩
    · have e : goM (newM l t) ss 40 = m := by
        rw [hm]; unfold goM
        rw [List.take_of_length_le (by omega), List.take_of_length_le (by omega)]
      exact ⟨eM hflat (by rw [hd, e]), hq.symm⟩
  · have hq : doneQ l t = false := by unfold doneQ; rw [decide_eq_false c2, Bool.and_false]
    have e : newM l t = .nil := by unfold newM; rw [if_neg c2]
    exact ⟨eM (newM_flat l t) (by rw [bad hq, e]), hq.symm⟩
/-! ### onward -/
/-! ### awake -/
set_option maxHeartbeats 4000000 in
theorem body_law20_awake {T : Tab} {n1 n2 n3 : Nat} (k1 : Knows T n1 sp_New) (k2 : Knows T n2 sp_Do) (k3 : Knows T n3 sp_Sees) : sp_true.Body T V_law20_awake (L_law20_awake n1 n2 n3) R_law20_awake := by
  have F1 := k1.F; have G1 := k1.G; have F2 := k2.F; have G2 := k2.G; have F3 := k3.F; have G3 := k3.G
  rintro ⟨⟩ -
  refine .inl ⟨rfl, ?_⟩
  unfold V_law20_awake L_law20_awake R_law20_awake
  have hN : sp_New.at [.d (.list [[.bool false, .int .i64 0]] false), .d (.int .i64 2)] = .data (1 ≤ maxLen) (.tup [(newM [⟨false, 0⟩] 2).av, .d (.int .i64 0)]) false := at_New [⟨false, 0⟩] false 2
  have hW : (newM [⟨false, 0⟩] 2).plain.Good 1 := newM_good (by decide)
  have eD : doErr (newM [⟨false, 0⟩] 2).plain ⟨0, ⟨2, 0, 0, 1⟩, ⟨1, 1⟩⟩ = 0 := by decide +kernel
  have eS0 : (seesG (resM (newM [⟨false, 0⟩] 2).plain ⟨0, ⟨2, 0, 0, 1⟩, ⟨1, 1⟩⟩).plain 0 0).length = 1 := by decide +kernel
  have eS1 : (seesG (resM (newM [⟨false, 0⟩] 2).plain ⟨0, ⟨2, 0, 0, 1⟩, ⟨1, 1⟩⟩).plain 1 0).length = 2 := by decide +kernel
  have hR : (resM (newM [⟨false, 0⟩] 2).plain ⟨0, ⟨2, 0, 0, 1⟩, ⟨1, 1⟩⟩).plain.Good 2 := by unfold resM; rw [if_pos eD, plain_av]; exact doMem_good hW eD
  generalize newM [⟨false, 0⟩] 2 = m1 at *
  have hD : sp_Do.at [.agg [.d (.list (m1.locs.map LocG.row) m1.lf), .d (.list (m1.past.map rowStamps) m1.pf), .d (.list (m1.vals.map rowI) m1.vf), .d (.list (m1.marks.map rowRats) m1.mf), .d (.list (m1.fronts.map rowRats) m1.ff)], .agg [.d (.int .i64 0), .d (.int .i64 2), .d (.int .i64 0), .d (.int .i64 0), .d (.int .i64 1), .d (.int .i64 1), .d (.int .i64 1)]] =
      .data (m1.plain.Wf 1000000) (.tup [(resM m1.plain ⟨0, ⟨2, 0, 0, 1⟩, ⟨1, 1⟩⟩).av, .d (.int .i64 0)]) false := by
    have := at_DoM m1 ⟨0, ⟨2, 0, 0, 1⟩, ⟨1, 1⟩⟩
    rw [eD] at this; exact this
  generalize resM m1.plain ⟨0, ⟨2, 0, 0, 1⟩, ⟨1, 1⟩⟩ = m2 at *
  simp (maxSteps := 3000000) only [↓vck_skip, ↓vck_ret, ↓vck_exit, ↓vck_region, ↓vck_nilq, ↓nilTo_to, nilG_d, nilG_r, ↓vck_seq, ↓vck_cond, ↓vck_block, ↓vck_loop, ↓vckTo_to, ↓thenK_n, ↓thenK_x, ↓thenK_r, ↓blockK_n, ↓blockK_x, ↓blockK_o, ↓blockK_r, ↓regK_to, ↓retK_r, ↓retK_n, ↓loopV_n, ↓loopV_x, ↓loopV_r, ↓famK_n, ↓famK_x, ↓famK_r, ↓boolK_true, ↓boolK_false, ↓boolK_not, ↓boolK_dec, ↓boolK_and, nf_mk, RGk_end_f, RGk_end_t, RGk_op, RGk_guard, opK_to, evN, evCallN, grow_mk, feet_f, feet_t, foot_mk, stepK_mk, stepK_v, stepK_no, guardG_t, guardG_f, guardG_no, condG_b, evT, Opd.ev, get_hit, get_next, app_to, app_no, app_up, app_skip, app_skipn, know_mk, knowO_t, knowO_c, envFrom, reserve, keeps, LOp.isNew, State.prune, cellsQ, cellsT, AV.leaf, Heap.at, evLoad_ptr, evLoad_dptr, loadO_vec, loadO_dvec1, stepK_load_map, idx_I, idx_U, idx_Rat, idx_Loc, idx_Act, idx_Step, idx_Stamp, stepK_idx_ref, evStore_ptr, storeO_vec, stepK_store_map1, loadDT_f, rowI, rowU, RatG.row, LocG.row, ActG.row, StepG.row, StampG.row, ActG.av, ActG.eta, RatG.eta, LocG.eta, beq_true, beq_false, loadDT_t, set_rowI, set_rowU, app_rowI, app_rowU, rep_rowI, rep_rowU, set_rowRat, app_rowRat, rep_rowRat, set_rowLoc, app_rowLoc, app_rowAct, app_rowStep, List.length_set, List.length_replicate, Int.toNat_natCast, Int.reduceToNat, evLen, evAppend, srcOf, Src.all, Src.len, Src.leaf, Src.leafN, evApart, aliveQ, joinV, drows_rep1, drows_rep2, drows_rep3, drows_rep4, drows_rep5, drows_rep6, drows_rep7, drows_rep8, mkVec, drows, evMk, List.length_map, take_mapF, drop_mapF, List.take_length, List.take_left, List.length_append, Nat.le_add_right, ite_self, List.take_of_length_le, evSlice, intOr, intOpd, Option.isSome_none, Option.isSome_some, Nat.sub_zero, loadQ, loadT, evBin, evUn, binT, binQ, chk, apartF, List.contains_cons, List.contains_nil, Bool.or_false, Bool.false_or, Bool.and_self, resQ, resV, resT, pickV, evCallT, evTake, evCall, fnOf, viewsT, isD, HO.drow, viewT, evInt2, evEq, eqV, eqK, eqC1, buildQ, buildT, buildRQ, buildRT, lens_I, lensA_I, lens_U, lensA_U, lens_Rat, lensA_Rat, lens_Loc, lensA_Loc, lens_Act, lensA_Act, lens_Step, lensA_Step, lens_Stamp, lensA_Stamp, List.mem_cons, List.not_mem_nil, or_false, forall_eq, putRow, dcells, get_nil, RetS, RetF, RetD, AV.frz, AV.frzL, AV.freshP, AV.freshL, DV.less, scal_int, scal_bool, scal_nil, scal_rowI, scal_rowU, scal_rowRat, scal_rowStep, Option.some.injEq, AV.tup.injEq, AV.agg.injEq, List.cons.injEq, DV.list.injEq, List.isEmpty_nil, Nat.le_refl, AV.d.injEq, DV.int.injEq, DV.bool.injEq, ↓reduceIte, Nat.reduceEqDiff, Nat.reduceAdd, Nat.reduceBEq, List.length_cons, List.length_nil, List.replicate_succ, List.replicate_zero, List.nil_append, List.cons_append, List.append_nil, List.foldl_cons, List.foldl_nil, List.map_cons, List.map_nil, List.all_cons, List.all_nil, List.set_cons_zero, List.set_cons_succ, List.getD_cons_zero, List.getD_cons_succ, List.drop_zero, List.drop_succ_cons, List.take_succ_cons, List.take_zero, List.flatten_cons, List.flatten_nil, Bool.true_and, Bool.and_true, Bool.not_true, Bool.not_false, true_and, and_true, true_or, or_true, Option.bind_some, Option.map_some, decide_true, decide_false, beq_self_eq_true, true_implies, false_implies, implies_true, not_true_eq_false, not_false_eq_true, and_self, Bool.and_false, Bool.false_and, Nat.reduceLT, Nat.reduceLeDiff, List.reverse_cons, List.reverse_nil, Nat.zero_add, Nat.add_zero, Bool.false_eq_true, List.getElem?_cons_zero, sp_true, F1, G1, F2, G2, F3, G3, MemG.av, loadO_vec, storeO_vec, hN, hD, at_SeesM, eS0, eS1]
  exact ⟨⟨by decide, by decide, roomy_of (by decide) (by decide)⟩, by decide, wfM hW (by decide), wfM hR (by decide), fun _ => ⟨wfM hR (by decide), by decide⟩, fun h => h rfl⟩
end Go.Ago

/- HistSwap: two plain acts of unlike threads on unlike locations change places. Conditions: none. -/
set_option maxRecDepth 100000
set_option linter.unusedSimpArgs false
set_option linter.unusedVariables false
namespace Go.Ago
theorem at_sameM (x y : MemG) :
    sp_sameMem.at [.agg [.d (.list (x.locs.map LocG.row) x.lf), .d (.list (x.past.map rowStamps) x.pf), .d (.list (x.vals.map rowI) x.vf), .d (.list (x.marks.map rowRats) x.mf), .d (.list (x.fronts.map rowRats) x.ff)], .agg [.d (.list (y.locs.map LocG.row) y.lf), .d (.list (y.past.map rowStamps) y.pf), .d (.list (y.vals.map rowI) y.vf), .d (.list (y.marks.map rowRats) y.mf), .d (.list (y.fronts.map rowRats) y.ff)]] =
      .data x.small (.d (.bool (sameMem x y))) true := at_sameMem _ _ _ _ _ _ _ _ _ _ _ _ _ _ _ _ _ _ _ _
theorem small_of {m : MemG} {b : Nat} (h : m.plain.Good b) (hb : b ≤ 1000000) : m.small := by
  have hl : m.locs.length ≤ 16 := h.wf.locs
  have h2 : m.vals.length = m.locs.length := h.wf.vals
  have h3 : m.marks.length = m.locs.length := by have := h.wf.marks; simpa [MemG.plain, inn_len] using this
  have h4 : m.fronts.length ≤ 3 := by have := h.wf.fronts; simpa [MemG.plain, inn_len] using this
  have hm : maxLen = 9223372036854775807 := rfl
  have h1 : m.past.length = m.locs.length := by have := h.wf.past; simpa [MemG.plain, inn_len] using this
  refine ⟨by omega, by omega, ⟨by omega, fun r hr => ?_⟩, ⟨by omega, fun r hr => ?_⟩, by omega, fun r hr => ?_⟩
  · have : r.1.length ≤ m.locs.length := h.wf.marksL r.1 (inn_mem hr)
    omega
  · have : r.1.length = m.locs.length := h.wf.frontsL r.1 (inn_mem hr)
    omega
  · have : r.1.length ≤ b := h.wf.pasts r.1 (inn_mem hr)
    omega
theorem resM_ok {m : Mem} {s : StepG} (h : doErr m s = 0) : resM m s = (doMem m s).av := by unfold resM; rw [if_pos h]
theorem resM_good {m : Mem} {s : StepG} {b : Nat} (hg : m.Good b) (h : doErr m s = 0) : (resM m s).plain.Good (b + 1) := by rw [resM_ok h, plain_av]; exact doMem_good hg h
theorem kind_pl {m : Mem} {s : StepG} (h : doErr m s = 0) (hk : ¬ 2 < s.act.kind) : isPl s.act.kind = true := by
  have := (taken h).right
  rw [isPl_iff]
  unfold ActG.right at this
  split at this
  · omega
  · simp only [Bool.and_eq_true, decide_eq_true_eq] at this
    have h1 := this.1.1.1
    omega
theorem doErr_congr {m m' : Mem} {s : StepG} (hk : isPl s.act.kind = true) (hg : goodQ m s = goodQ m' s) (hp : pastOf m s = pastOf m' s) (hf : frontOf m s = frontOf m' s) : doErr m s = doErr m' s := by
  have ha : isAt s.act.kind = false := by rw [isPl_iff] at hk; unfold isAt; simp; omega
  unfold doErr
  rw [hg, hp, hf, ha]
  simp
/-- What a plain act leaves. -/
theorem doMem_pl {m : Mem} {s : StepG} (hk : isPl s.act.kind = true) : doMem m s = if s.act.kind = 2 then { m with past := m.past.set s.act.loc.toNat (insG (pastOf m s) (bsAt (pastOf m s) s.when) ⟨leastQ s.when, s.act.new⟩), fronts := m.fronts.set s.thread.toNat ((frontOf m s).set s.act.loc.toNat (leastQ s.when)) } else m := by
  have ha : isAt s.act.kind = false := by rw [isPl_iff] at hk; unfold isAt; simp; omega
  unfold doMem
  rw [ha]; simp
theorem other_past {m : Mem} {a b : StepG} (hk : isPl a.act.kind = true) (ha : 0 ≤ a.act.loc) (hb : 0 ≤ b.act.loc) (hne : ¬ a.act.loc = b.act.loc) : pastOf (doMem m a) b = pastOf m b := by
  rw [doMem_pl hk]
  split
  · unfold pastOf
    rw [getD_set, if_neg (by omega)]
  · rfl
theorem other_front {m : Mem} {a b : StepG} (hk : isPl a.act.kind = true) (ha : 0 ≤ a.thread) (hb : 0 ≤ b.thread) (hne : ¬ a.thread = b.thread) : frontOf (doMem m a) b = frontOf m b := by
  rw [doMem_pl hk]
  split
  · unfold frontOf
    rw [getD_set, if_neg (by omega)]
  · rfl
theorem doMem_lens {m : Mem} {s : StepG} : (doMem m s).locs = m.locs ∧ (doMem m s).fronts.length = m.fronts.length := by
  unfold doMem
  split
  · exact ⟨rfl, List.length_set⟩
  · split
    · split
      · exact ⟨rfl, List.length_set⟩
      · exact ⟨rfl, List.length_set⟩
    · exact ⟨rfl, rfl⟩
theorem goodQ_congr {m m' : Mem} {s : StepG} (h1 : m'.locs = m.locs) (h2 : m'.fronts.length = m.fronts.length) : goodQ m' s = goodQ m s := by unfold goodQ; rw [h1, h2]
theorem swap_ok {m : Mem} {a b : StepG} (ha : doErr m a = 0) (hb : doErr m b = 0) (ka : ¬ 2 < a.act.kind) (kb : ¬ 2 < b.act.kind) (ht : ¬ a.thread = b.thread) (hl : ¬ a.act.loc = b.act.loc) : doErr (doMem m a) b = 0 := by
  have pa := kind_pl ha ka
  have pb := kind_pl hb kb
  have ta := taken ha
  have tb := taken hb
  rw [← hb]
  exact doErr_congr pb (goodQ_congr doMem_lens.1 doMem_lens.2) (other_past pa (ta.loc (.inl pa)).1 (tb.loc (.inl pb)).1 hl) (other_front pa ta.t0 tb.t0 ht)
theorem swap_eq {m : Mem} {a b : StepG} (ha : doErr m a = 0) (hb : doErr m b = 0) (ka : ¬ 2 < a.act.kind) (kb : ¬ 2 < b.act.kind) (ht : ¬ a.thread = b.thread) (hl : ¬ a.act.loc = b.act.loc) : doMem (doMem m a) b = doMem (doMem m b) a := by
  have pa := kind_pl ha ka
  have pb := kind_pl hb kb
  have ta := taken ha
  have tb := taken hb
  have la := (ta.loc (.inl pa)).1
  have lb := (tb.loc (.inl pb)).1
  have a0 := ta.t0
  have b0 := tb.t0
  rw [doMem_pl (m := doMem m a) pb, doMem_pl (m := doMem m b) pa, other_past pa la lb hl, other_front pa a0 b0 ht, other_past pb lb la (fun h => hl h.symm), other_front pb b0 a0 (fun h => ht h.symm), doMem_pl (m := m) pa, doMem_pl (m := m) pb]
  by_cases k1 : a.act.kind = 2
  · by_cases k2 : b.act.kind = 2
    · rw [if_pos k1, if_pos k2, if_pos k1, if_pos k2]
      simp only [Mem.mk.injEq, true_and]
      exact ⟨List.set_comm _ _ (by omega), List.set_comm _ _ (by omega)⟩
    · rw [if_pos k1, if_neg k2, if_pos k1, if_neg k2]
  · by_cases k2 : b.act.kind = 2
    · rw [if_neg k1, if_pos k2, if_neg k1]
    · rw [if_neg k1, if_neg k2, if_neg k1]
theorem sameMem_self (m : MemG) : sameMem m m = true := by unfold sameMem; simp
set_option maxHeartbeats 4000000 in
theorem law_HistSwap {T : Tab} {n1 n2 n3 n4 : Nat} (k1 : Knows T n1 sp_true) (k2 : Knows T n2 sp_sameMem) (k3 : Knows T n3 sp_Do) (k4 : Knows T n4 sp_done) (l : List LocG) (f : Bool) (t : Int) (ss : List StepG) (g : Bool) (a b : StepG) (hl : l.length ≤ maxLen) (hs : ss.length ≤ maxLen) :
    Holds T V_law20_HistSwap (L_law20_HistSwap n1 n2 n3 n4) R_law20_HistSwap [.d (.list (l.map LocG.row) f), .d (.int .i64 t), .d (.list (ss.map StepG.row) g), a.av7, b.av7] := by
  have F1 := k1.F; have G1 := k1.G; have F2 := k2.F; have G2 := k2.G; have F3 := k3.F; have G3 := k3.G; have F4 := k4.F; have G4 := k4.G
  have hgd : doneQ l t = true → (doneM l t ss).plain.Good 41 := doneM_good
  unfold V_law20_HistSwap L_law20_HistSwap R_law20_HistSwap
  simp (maxSteps := 3000000) only [↓vck_skip, ↓vck_ret, ↓vck_exit, ↓vck_region, ↓vck_nilq, ↓nilTo_to, nilG_d, nilG_r, ↓vck_seq, ↓vck_cond, ↓vck_block, ↓vck_loop, ↓vckTo_to, ↓thenK_n, ↓thenK_x, ↓thenK_r, ↓blockK_n, ↓blockK_x, ↓blockK_o, ↓blockK_r, ↓regK_to, ↓retK_r, ↓retK_n, ↓loopV_n, ↓loopV_x, ↓loopV_r, ↓famK_n, ↓famK_x, ↓famK_r, ↓boolK_true, ↓boolK_false, ↓boolK_not, ↓boolK_dec, ↓boolK_and, nf_mk, RGk_end_f, RGk_end_t, RGk_op, RGk_guard, opK_to, evN, evCallN, grow_mk, feet_f, feet_t, foot_mk, stepK_mk, stepK_v, stepK_no, guardG_t, guardG_f, guardG_no, condG_b, evT, Opd.ev, get_hit, get_next, app_to, app_no, app_up, app_skip, app_skipn, know_mk, knowO_t, knowO_c, envFrom, reserve, keeps, LOp.isNew, State.prune, cellsQ, cellsT, AV.leaf, Heap.at, evLoad_ptr, evLoad_dptr, loadO_vec, loadO_dvec1, stepK_load_map, idx_I, idx_U, idx_Rat, idx_Loc, idx_Act, idx_Step, idx_Stamp, stepK_idx_ref, evStore_ptr, storeO_vec, stepK_store_map1, loadDT_f, rowI, rowU, RatG.row, LocG.row, ActG.row, StepG.row, StampG.row, ActG.av, ActG.eta, RatG.eta, LocG.eta, beq_true, beq_false, loadDT_t, set_rowI, set_rowU, app_rowI, app_rowU, rep_rowI, rep_rowU, set_rowRat, app_rowRat, rep_rowRat, set_rowLoc, app_rowLoc, app_rowAct, app_rowStep, List.length_set, List.length_replicate, Int.toNat_natCast, Int.reduceToNat, evLen, evAppend, srcOf, Src.all, Src.len, Src.leaf, Src.leafN, evApart, aliveQ, joinV, drows_rep1, drows_rep2, drows_rep3, drows_rep4, drows_rep5, drows_rep6, drows_rep7, drows_rep8, mkVec, drows, evMk, List.length_map, take_mapF, drop_mapF, List.take_length, List.take_left, List.length_append, Nat.le_add_right, ite_self, List.take_of_length_le, evSlice, intOr, intOpd, Option.isSome_none, Option.isSome_some, Nat.sub_zero, loadQ, loadT, evBin, evUn, binT, binQ, chk, apartF, List.contains_cons, List.contains_nil, Bool.or_false, Bool.false_or, Bool.and_self, resQ, resV, resT, pickV, evCallT, evTake, evCall, fnOf, viewsT, isD, HO.drow, viewT, evInt2, evEq, eqV, eqK, eqC1, buildQ, buildT, buildRQ, buildRT, lens_I, lensA_I, lens_U, lensA_U, lens_Rat, lensA_Rat, lens_Loc, lensA_Loc, lens_Act, lensA_Act, lens_Step, lensA_Step, lens_Stamp, lensA_Stamp, List.mem_cons, List.not_mem_nil, or_false, forall_eq, putRow, dcells, get_nil, RetS, RetF, RetD, AV.frz, AV.frzL, AV.freshP, AV.freshL, DV.less, scal_int, scal_bool, scal_nil, scal_rowI, scal_rowU, scal_rowRat, scal_rowStep, Option.some.injEq, AV.tup.injEq, AV.agg.injEq, List.cons.injEq, DV.list.injEq, List.isEmpty_nil, Nat.le_refl, AV.d.injEq, DV.int.injEq, DV.bool.injEq, ↓reduceIte, Nat.reduceEqDiff, Nat.reduceAdd, Nat.reduceBEq, List.length_cons, List.length_nil, List.replicate_succ, List.replicate_zero, List.nil_append, List.cons_append, List.append_nil, List.foldl_cons, List.foldl_nil, List.map_cons, List.map_nil, List.all_cons, List.all_nil, List.set_cons_zero, List.set_cons_succ, List.getD_cons_zero, List.getD_cons_succ, List.drop_zero, List.drop_succ_cons, List.take_succ_cons, List.take_zero, List.flatten_cons, List.flatten_nil, Bool.true_and, Bool.and_true, Bool.not_true, Bool.not_false, true_and, and_true, true_or, or_true, Option.bind_some, Option.map_some, decide_true, decide_false, beq_self_eq_true, true_implies, false_implies, implies_true, not_true_eq_false, not_false_eq_true, and_self, Bool.and_false, Bool.false_and, Nat.reduceLT, Nat.reduceLeDiff, List.reverse_cons, List.reverse_nil, Nat.zero_add, Nat.add_zero, Bool.false_eq_true, List.getElem?_cons_zero, F1, G1, F2, G2, F3, G3, F4, G4, at_true, at_done, at_DoM, at_sameM, MemG.av, StepG.av7, loadO_vec, storeO_vec]
  refine ⟨⟨hl, hs⟩, fun hq => ?_, fun _ => trivial⟩
  have hg := hgd hq
  intro ht hlo ka kb
  refine ⟨wfM hg (by omega), wfM hg (by omega), fun ea eb => ?_⟩
  have ga := resM_good hg ea
  have gb := resM_good hg eb
  refine ⟨wfM ga (by omega), wfM gb (by omega), ?_⟩
  have e1 : doErr (resM (doneM l t ss).plain a).plain b = 0 := by rw [resM_ok ea, plain_av]; exact swap_ok ea eb ka kb ht hlo
  have e2 : doErr (resM (doneM l t ss).plain b).plain a = 0 := by rw [resM_ok eb, plain_av]; exact swap_ok eb ea kb ka (fun h => ht h.symm) (fun h => hlo h.symm)
  refine ⟨fun _ => ⟨fun _ => ⟨small_of (resM_good ga e1) (by omega), ?_⟩, fun h => h e2⟩, fun h => h e1⟩
  rw [resM_ok e1, resM_ok e2, resM_ok ea, resM_ok eb, plain_av, plain_av, swap_eq ea eb ka kb ht hlo]
  exact sameMem_self _
end Go.Ago
