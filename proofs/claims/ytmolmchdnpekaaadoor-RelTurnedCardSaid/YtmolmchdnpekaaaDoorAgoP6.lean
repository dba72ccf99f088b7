/- Contracts of package rel: Star, Ring, Of, Order. Conditions: none. -/
import Derived.Test.YtmolmchdnpekaaaDoorAgoP5
import Derived.Test.YtmolmchdnpekaaaDoorAgoP4
set_option maxRecDepth 100000
set_option linter.unusedSimpArgs false
set_option linter.unusedVariables false
namespace Go.Ago

/-! ### Star, Ring -/
def starG (R : List W) : List W := mkR (szR R) fun i k => way (hasN R) (szR R) i k || decide (i = k)
def starS (R : List W) (n m a b : Nat) : Bool := way (hasN R) n a b || (decide (a = b) && decide (a < m))
def sp_Star : Sp := ⟨List W × Bool, fun x => [.d (.list (x.1.map rowW) x.2)], fun x => .rows (x.1.length ≤ maxLen) 1 ((starG x.1).map rowW)⟩
theorem at_Star (A : List W) (e : Bool) : sp_Star.at [.d (.list (A.map rowW) e)] = .rows (A.length ≤ maxLen) 1 ((starG A).map rowW) :=
  Sp.at_enc (s := sp_Star) (fun x y h => by
    obtain ⟨a, b⟩ := x; obtain ⟨a', b'⟩ := y
    simp only [sp_Star, List.cons.injEq, AV.d.injEq, DV.list.injEq, and_true] at h
    rw [rows_inj rowW_inj h.1, h.2]) (A, e)
theorem body_rel_Star {T : Tab} {n1 : Nat} (k1 : Knows T n1 sp_Plus) : sp_Star.Body T V_rel_Star (L_rel_Star n1) R_rel_Star := by
  have F1 := k1.F; have G1 := k1.G
  rintro ⟨A, e⟩ h1
  have h1 : A.length ≤ maxLen := h1
  refine ⟨rows_len (f := rowW) (fun _ => rfl) _, ?_⟩
  unfold V_rel_Star L_rel_Star R_rel_Star
  simp only [↓vck_skip, ↓vck_ret, ↓vck_exit, ↓vck_region, ↓vck_nilq, ↓nilTo_to, nilG_d, nilG_r, ↓vck_seq, ↓vck_cond, ↓vck_block, ↓vck_loop, ↓vckTo_to, ↓thenK_n, ↓thenK_x, ↓thenK_r, ↓blockK_n, ↓blockK_x, ↓blockK_o, ↓blockK_r, ↓regK_to, ↓retK_r, ↓retK_n, ↓loopV_n, ↓loopV_x, ↓loopV_r, ↓famK_n, ↓famK_x, ↓famK_r, ↓boolK_true, ↓boolK_false, ↓boolK_not, ↓boolK_dec, ↓boolK_and, nf_mk, RGk_end_f, RGk_end_t, RGk_op, RGk_guard, opK_to, evN, evCallN, grow_mk, feet_f, feet_t, foot_mk, stepK_mk, stepK_v, stepK_no, guardG_t, guardG_f, guardG_no, condG_b, evT, Opd.ev, get_hit, get_next, app_to, app_no, app_up, app_skip, app_skipn, know_mk, knowO_t, knowO_c, envFrom, reserve, keeps, LOp.isNew, State.prune, cellsQ, cellsT, AV.leaf, Heap.at, evLoad_ptr, evLoad_dptr, loadO_vec, loadO_dvec1, stepK_load_map, idx_I, idx_W, rowW, set_rowW, app_rowW, app_rowW0, rep_rowW0, rowB, set_rowB, rep_rowB, rowN, lens_W, lensA_W, scal_rowW, default_W, w_or, w_and, w_andNot, w_and1, w_shl, w_shl1, w_shr, w_sub1, w_neg, w_add, w_bit, w_eq0, w_eq1, w_eq, Bool.decide_eq_true, idx_Rat, idx_Loc, idx_Act, idx_Step, idx_Stamp, stepK_idx_ref, evStore_ptr, storeO_vec, stepK_store_map1, loadDT_f, rowI, RatG.row, LocG.row, ActG.row, StepG.row, StampG.row, ActG.av, ActG.eta, RatG.eta, LocG.eta, beq_true, beq_false, loadDT_t, set_rowI, app_rowI, rep_rowI, set_rowRat, app_rowRat, rep_rowRat, set_rowLoc, app_rowLoc, app_rowAct, app_rowStep, List.length_set, List.length_replicate, toNat_cast, Int.reduceToNat, evLen, evAppend, srcOf, Src.all, Src.len, Src.leaf, joinV, drows_rep1, drows_rep2, drows_rep3, drows_rep4, drows_rep5, drows_rep6, drows_rep7, drows_rep8, mkVec, drows, evMk, List.length_map, take_mapF, drop_mapF, List.take_length, List.take_left, List.length_append, Nat.le_add_right, ite_self, List.take_of_length_le, evSlice, intOr, intOpd, Option.isSome_none, Option.isSome_some, Nat.sub_zero, loadQ, loadT, evBin, evUn, evIdxArr_d, evIdxArr_p, binT, binQ, chk, apartF, List.contains_cons, List.contains_nil, Bool.or_false, Bool.false_or, Bool.and_self, resQ, resV, resT, pickV, evCallT, evCall, fnOf, viewsT, viewT, evInt2, evEq, eqV, eqK, eqC1, buildQ, buildT, buildRQ, buildRT, lens_I, lensA_I, lens_Rat, lensA_Rat, lens_Loc, lensA_Loc, lens_Act, lensA_Act, lens_Step, lensA_Step, lens_Stamp, lensA_Stamp, List.mem_cons, List.not_mem_nil, or_false, forall_eq, putRow, dcells, get_nil, RetS, RetF, RetD, AV.frz, AV.frzL, AV.freshP, AV.freshL, DV.less, scal_int, scal_bool, scal_nil, scal_rowI, scal_rowRat, scal_rowStep, Option.some.injEq, AV.tup.injEq, AV.agg.injEq, List.cons.injEq, DV.list.injEq, List.isEmpty_nil, Nat.le_refl, AV.d.injEq, DV.int.injEq, DV.bool.injEq, ↓reduceIte, Nat.reduceEqDiff, Nat.reduceAdd, Nat.reduceBEq, List.length_cons, List.length_nil, List.replicate_succ, List.replicate_zero, List.nil_append, List.cons_append, List.append_nil, List.foldl_cons, List.foldl_nil, List.map_cons, List.map_nil, List.all_cons, List.all_nil, List.set_cons_zero, List.set_cons_succ, List.getD_cons_zero, List.getD_cons_succ, List.drop_zero, List.drop_succ_cons, List.take_succ_cons, List.take_zero, List.flatten_cons, List.flatten_nil, Bool.true_and, Bool.and_true, Bool.not_true, Bool.not_false, true_and, and_true, true_or, or_true, Option.bind_some, Option.map_some, decide_true, decide_false, beq_self_eq_true, true_implies, false_implies, implies_true, not_true_eq_false, not_false_eq_true, and_self, Bool.and_false, Bool.false_and, Nat.reduceLT, Nat.reduceLeDiff, List.reverse_cons, List.reverse_nil, Nat.zero_add, Nat.add_zero, Bool.false_eq_true, List.getElem?_cons_zero, Nat.reduceMul, Nat.mul_one, sp_Star, F1, G1, at_Plus]
  have hle := szR_le A
  have hl : (plusG A).length = szR A := mkR_len
  have hp : plusG A = mkR (szR A) (way (hasN A) (szR A)) := rfl
  rw [hl]
  generalize hn : szR A = n at *
  refine ⟨h1, ?_⟩
  refine Loop.fam [3, 8, 9] (fun m : Nat => ⟨[(3, .ref 0 1 0 n true), (8, .d (.int .i64 n)), (9, .d (.int .i64 m))],
      [.dvec 1 ((mkR n (starS A n m)).map rowW)]⟩) (fun m => m ≤ n) (fun m => n - m) 0 [0] (by simp) (by simp) (by
        simp only [State.can, AV.can, AV.canL, HO.can, canRows, idx, get_hit, get_next, Heap.at, Nat.reduceBEq, ↓reduceIte, Nat.reduceEqDiff, Option.getD_some, Option.map_some, List.map_cons, List.map_nil, List.getD_cons_zero, List.getD_cons_succ]
        rw [hp, show mkR n (starS A n 0) = mkR n (way (hasN A) n) from mkR_congr fun a b _ _ => by unfold starS; simp]
        rfl) (by omega) ?_
  intro m hm
  simp only [↓vck_skip, ↓vck_ret, ↓vck_exit, ↓vck_region, ↓vck_nilq, ↓nilTo_to, nilG_d, nilG_r, ↓vck_seq, ↓vck_cond, ↓vck_block, ↓vck_loop, ↓vckTo_to, ↓thenK_n, ↓thenK_x, ↓thenK_r, ↓blockK_n, ↓blockK_x, ↓blockK_o, ↓blockK_r, ↓regK_to, ↓retK_r, ↓retK_n, ↓loopV_n, ↓loopV_x, ↓loopV_r, ↓famK_n, ↓famK_x, ↓famK_r, ↓boolK_true, ↓boolK_false, ↓boolK_not, ↓boolK_dec, ↓boolK_and, nf_mk, RGk_end_f, RGk_end_t, RGk_op, RGk_guard, opK_to, evN, evCallN, grow_mk, feet_f, feet_t, foot_mk, stepK_mk, stepK_v, stepK_no, guardG_t, guardG_f, guardG_no, condG_b, evT, Opd.ev, get_hit, get_next, app_to, app_no, app_up, app_skip, app_skipn, know_mk, knowO_t, knowO_c, envFrom, reserve, keeps, LOp.isNew, State.prune, cellsQ, cellsT, AV.leaf, Heap.at, evLoad_ptr, evLoad_dptr, loadO_vec, loadO_dvec1, stepK_load_map, idx_I, idx_W, rowW, set_rowW, app_rowW, app_rowW0, rep_rowW0, rowB, set_rowB, rep_rowB, rowN, lens_W, lensA_W, scal_rowW, default_W, w_or, w_and, w_andNot, w_and1, w_shl, w_shl1, w_shr, w_sub1, w_neg, w_add, w_bit, w_eq0, w_eq1, w_eq, Bool.decide_eq_true, idx_Rat, idx_Loc, idx_Act, idx_Step, idx_Stamp, stepK_idx_ref, evStore_ptr, storeO_vec, stepK_store_map1, loadDT_f, rowI, RatG.row, LocG.row, ActG.row, StepG.row, StampG.row, ActG.av, ActG.eta, RatG.eta, LocG.eta, beq_true, beq_false, loadDT_t, set_rowI, app_rowI, rep_rowI, set_rowRat, app_rowRat, rep_rowRat, set_rowLoc, app_rowLoc, app_rowAct, app_rowStep, List.length_set, List.length_replicate, toNat_cast, Int.reduceToNat, evLen, evAppend, srcOf, Src.all, Src.len, Src.leaf, joinV, drows_rep1, drows_rep2, drows_rep3, drows_rep4, drows_rep5, drows_rep6, drows_rep7, drows_rep8, mkVec, drows, evMk, List.length_map, take_mapF, drop_mapF, List.take_length, List.take_left, List.length_append, Nat.le_add_right, ite_self, List.take_of_length_le, evSlice, intOr, intOpd, Option.isSome_none, Option.isSome_some, Nat.sub_zero, loadQ, loadT, evBin, evUn, evIdxArr_d, evIdxArr_p, binT, binQ, chk, apartF, List.contains_cons, List.contains_nil, Bool.or_false, Bool.false_or, Bool.and_self, resQ, resV, resT, pickV, evCallT, evCall, fnOf, viewsT, viewT, evInt2, evEq, eqV, eqK, eqC1, buildQ, buildT, buildRQ, buildRT, lens_I, lensA_I, lens_Rat, lensA_Rat, lens_Loc, lensA_Loc, lens_Act, lensA_Act, lens_Step, lensA_Step, lens_Stamp, lensA_Stamp, List.mem_cons, List.not_mem_nil, or_false, forall_eq, putRow, dcells, get_nil, RetS, RetF, RetD, AV.frz, AV.frzL, AV.freshP, AV.freshL, DV.less, scal_int, scal_bool, scal_nil, scal_rowI, scal_rowRat, scal_rowStep, Option.some.injEq, AV.tup.injEq, AV.agg.injEq, List.cons.injEq, DV.list.injEq, List.isEmpty_nil, Nat.le_refl, AV.d.injEq, DV.int.injEq, DV.bool.injEq, ↓reduceIte, Nat.reduceEqDiff, Nat.reduceAdd, Nat.reduceBEq, List.length_cons, List.length_nil, List.replicate_succ, List.replicate_zero, List.nil_append, List.cons_append, List.append_nil, List.foldl_cons, List.foldl_nil, List.map_cons, List.map_nil, List.all_cons, List.all_nil, List.set_cons_zero, List.set_cons_succ, List.getD_cons_zero, List.getD_cons_succ, List.drop_zero, List.drop_succ_cons, List.take_succ_cons, List.take_zero, List.flatten_cons, List.flatten_nil, Bool.true_and, Bool.and_true, Bool.not_true, Bool.not_false, true_and, and_true, true_or, or_true, Option.bind_some, Option.map_some, decide_true, decide_false, beq_self_eq_true, true_implies, false_implies, implies_true, not_true_eq_false, not_false_eq_true, and_self, Bool.and_false, Bool.false_and, Nat.reduceLT, Nat.reduceLeDiff, List.reverse_cons, List.reverse_nil, Nat.zero_add, Nat.add_zero, Bool.false_eq_true, List.getElem?_cons_zero, Nat.reduceMul, Nat.mul_one, F1, G1, at_Plus]
  refine ⟨fun c => ?_, fun c => ?_⟩
  · have c' : m < n := by omega
    rw [wrap_succ c' (by unfold maxLen; omega), wrapU (k := m) (by omega)]
    simp only [↓vck_skip, ↓vck_ret, ↓vck_exit, ↓vck_region, ↓vck_nilq, ↓nilTo_to, nilG_d, nilG_r, ↓vck_seq, ↓vck_cond, ↓vck_block, ↓vck_loop, ↓vckTo_to, ↓thenK_n, ↓thenK_x, ↓thenK_r, ↓blockK_n, ↓blockK_x, ↓blockK_o, ↓blockK_r, ↓regK_to, ↓retK_r, ↓retK_n, ↓loopV_n, ↓loopV_x, ↓loopV_r, ↓famK_n, ↓famK_x, ↓famK_r, ↓boolK_true, ↓boolK_false, ↓boolK_not, ↓boolK_dec, ↓boolK_and, nf_mk, RGk_end_f, RGk_end_t, RGk_op, RGk_guard, opK_to, evN, evCallN, grow_mk, feet_f, feet_t, foot_mk, stepK_mk, stepK_v, stepK_no, guardG_t, guardG_f, guardG_no, condG_b, evT, Opd.ev, get_hit, get_next, app_to, app_no, app_up, app_skip, app_skipn, know_mk, knowO_t, knowO_c, envFrom, reserve, keeps, LOp.isNew, State.prune, cellsQ, cellsT, AV.leaf, Heap.at, evLoad_ptr, evLoad_dptr, loadO_vec, loadO_dvec1, stepK_load_map, idx_I, idx_W, rowW, set_rowW, app_rowW, app_rowW0, rep_rowW0, rowB, set_rowB, rep_rowB, rowN, lens_W, lensA_W, scal_rowW, default_W, w_or, w_and, w_andNot, w_and1, w_shl, w_shl1, w_shr, w_sub1, w_neg, w_add, w_bit, w_eq0, w_eq1, w_eq, Bool.decide_eq_true, idx_Rat, idx_Loc, idx_Act, idx_Step, idx_Stamp, stepK_idx_ref, evStore_ptr, storeO_vec, stepK_store_map1, loadDT_f, rowI, RatG.row, LocG.row, ActG.row, StepG.row, StampG.row, ActG.av, ActG.eta, RatG.eta, LocG.eta, beq_true, beq_false, loadDT_t, set_rowI, app_rowI, rep_rowI, set_rowRat, app_rowRat, rep_rowRat, set_rowLoc, app_rowLoc, app_rowAct, app_rowStep, List.length_set, List.length_replicate, toNat_cast, Int.reduceToNat, evLen, evAppend, srcOf, Src.all, Src.len, Src.leaf, joinV, drows_rep1, drows_rep2, drows_rep3, drows_rep4, drows_rep5, drows_rep6, drows_rep7, drows_rep8, mkVec, drows, evMk, List.length_map, take_mapF, drop_mapF, List.take_length, List.take_left, List.length_append, Nat.le_add_right, ite_self, List.take_of_length_le, evSlice, intOr, intOpd, Option.isSome_none, Option.isSome_some, Nat.sub_zero, loadQ, loadT, evBin, evUn, evIdxArr_d, evIdxArr_p, binT, binQ, chk, apartF, List.contains_cons, List.contains_nil, Bool.or_false, Bool.false_or, Bool.and_self, resQ, resV, resT, pickV, evCallT, evCall, fnOf, viewsT, viewT, evInt2, evEq, eqV, eqK, eqC1, buildQ, buildT, buildRQ, buildRT, lens_I, lensA_I, lens_Rat, lensA_Rat, lens_Loc, lensA_Loc, lens_Act, lensA_Act, lens_Step, lensA_Step, lens_Stamp, lensA_Stamp, List.mem_cons, List.not_mem_nil, or_false, forall_eq, putRow, dcells, get_nil, RetS, RetF, RetD, AV.frz, AV.frzL, AV.freshP, AV.freshL, DV.less, scal_int, scal_bool, scal_nil, scal_rowI, scal_rowRat, scal_rowStep, Option.some.injEq, AV.tup.injEq, AV.agg.injEq, List.cons.injEq, DV.list.injEq, List.isEmpty_nil, Nat.le_refl, AV.d.injEq, DV.int.injEq, DV.bool.injEq, ↓reduceIte, Nat.reduceEqDiff, Nat.reduceAdd, Nat.reduceBEq, List.length_cons, List.length_nil, List.replicate_succ, List.replicate_zero, List.nil_append, List.cons_append, List.append_nil, List.foldl_cons, List.foldl_nil, List.map_cons, List.map_nil, List.all_cons, List.all_nil, List.set_cons_zero, List.set_cons_succ, List.getD_cons_zero, List.getD_cons_succ, List.drop_zero, List.drop_succ_cons, List.take_succ_cons, List.take_zero, List.flatten_cons, List.flatten_nil, Bool.true_and, Bool.and_true, Bool.not_true, Bool.not_false, true_and, and_true, true_or, or_true, Option.bind_some, Option.map_some, decide_true, decide_false, beq_self_eq_true, true_implies, false_implies, implies_true, not_true_eq_false, not_false_eq_true, and_self, Bool.and_false, Bool.false_and, Nat.reduceLT, Nat.reduceLeDiff, List.reverse_cons, List.reverse_nil, Nat.zero_add, Nat.add_zero, Bool.false_eq_true, List.getElem?_cons_zero, Nat.reduceMul, Nat.mul_one]
    rw [mkR_len]
    refine ⟨by omega, by omega, by omega, by omega, by omega, ?_⟩
    refine FamNext.mk [0] (m + 1) (by simp) (by simp) ?_ (by show m + 1 ≤ n; omega) (by show n - (m + 1) < n - m; omega)
    rw [mkR_set (q := starS A n (m + 1)) c']
    · simp only [State.can, AV.can, AV.canL, HO.can, canRows, idx, get_hit, get_next, Heap.at, Nat.reduceBEq, ↓reduceIte, Nat.reduceEqDiff, Option.getD_some, Option.map_some, List.map_cons, List.map_nil, List.getD_cons_zero, List.getD_cons_succ]
    · intro k hk
      rw [BitVec.getLsbD_or, mkR_get c', one_shl (by omega)]
      unfold starS
      by_cases hkn : k < n
      · by_cases e1 : m = k
        · subst e1; simp [hkn, hk]
        · simp [hkn, hk, e1]
      · have : ¬ m = k := by omega
        simp [hkn, this]
    · intro a k ha hk hne
      unfold starS
      have : decide (a < m + 1) = decide (a < m) := by simp; omega
      rw [this]
  · have : m = n := by omega
    subst this
    have : mkR m (starS A m m) = starG A := by
      unfold starG
      rw [hn]
      apply mkR_congr
      intro a b ha hb
      unfold starS
      simp [ha]
    rw [this]
    exact .inl ⟨0, true, by simp [starG, mkR_len, hn], rfl⟩

def ringG (R : List W) : Bool := (List.range (szR R)).any fun i => way (hasN R) (szR R) i i
def sp_Ring : Sp := ⟨List W × Bool, fun x => [.d (.list (x.1.map rowW) x.2)], fun x => .data (x.1.length ≤ maxLen) (.d (.bool (ringG x.1))) true⟩
theorem at_Ring (A : List W) (e : Bool) : sp_Ring.at [.d (.list (A.map rowW) e)] = .data (A.length ≤ maxLen) (.d (.bool (ringG A))) true :=
  Sp.at_enc (s := sp_Ring) (fun x y h => by
    obtain ⟨a, b⟩ := x; obtain ⟨a', b'⟩ := y
    simp only [sp_Ring, List.cons.injEq, AV.d.injEq, DV.list.injEq, and_true] at h
    rw [rows_inj rowW_inj h.1, h.2]) (A, e)
theorem body_rel_Ring {T : Tab} {n1 : Nat} (k1 : Knows T n1 sp_Plus) : sp_Ring.Body T V_rel_Ring (L_rel_Ring n1) R_rel_Ring := by
  have F1 := k1.F; have G1 := k1.G
  rintro ⟨A, e⟩ h1
  have h1 : A.length ≤ maxLen := h1
  refine .inl ⟨rfl, ?_⟩
  unfold V_rel_Ring L_rel_Ring R_rel_Ring
  simp only [↓vck_skip, ↓vck_ret, ↓vck_exit, ↓vck_region, ↓vck_nilq, ↓nilTo_to, nilG_d, nilG_r, ↓vck_seq, ↓vck_cond, ↓vck_block, ↓vck_loop, ↓vckTo_to, ↓thenK_n, ↓thenK_x, ↓thenK_r, ↓blockK_n, ↓blockK_x, ↓blockK_o, ↓blockK_r, ↓regK_to, ↓retK_r, ↓retK_n, ↓loopV_n, ↓loopV_x, ↓loopV_r, ↓famK_n, ↓famK_x, ↓famK_r, ↓boolK_true, ↓boolK_false, ↓boolK_not, ↓boolK_dec, ↓boolK_and, nf_mk, RGk_end_f, RGk_end_t, RGk_op, RGk_guard, opK_to, evN, evCallN, grow_mk, feet_f, feet_t, foot_mk, stepK_mk, stepK_v, stepK_no, guardG_t, guardG_f, guardG_no, condG_b, evT, Opd.ev, get_hit, get_next, app_to, app_no, app_up, app_skip, app_skipn, know_mk, knowO_t, knowO_c, envFrom, reserve, keeps, LOp.isNew, State.prune, cellsQ, cellsT, AV.leaf, Heap.at, evLoad_ptr, evLoad_dptr, loadO_vec, loadO_dvec1, stepK_load_map, idx_I, idx_W, rowW, set_rowW, app_rowW, app_rowW0, rep_rowW0, rowB, set_rowB, rep_rowB, rowN, lens_W, lensA_W, scal_rowW, default_W, w_or, w_and, w_andNot, w_and1, w_shl, w_shl1, w_shr, w_sub1, w_neg, w_add, w_bit, w_eq0, w_eq1, w_eq, Bool.decide_eq_true, idx_Rat, idx_Loc, idx_Act, idx_Step, idx_Stamp, stepK_idx_ref, evStore_ptr, storeO_vec, stepK_store_map1, loadDT_f, rowI, RatG.row, LocG.row, ActG.row, StepG.row, StampG.row, ActG.av, ActG.eta, RatG.eta, LocG.eta, beq_true, beq_false, loadDT_t, set_rowI, app_rowI, rep_rowI, set_rowRat, app_rowRat, rep_rowRat, set_rowLoc, app_rowLoc, app_rowAct, app_rowStep, List.length_set, List.length_replicate, toNat_cast, Int.reduceToNat, evLen, evAppend, srcOf, Src.all, Src.len, Src.leaf, joinV, drows_rep1, drows_rep2, drows_rep3, drows_rep4, drows_rep5, drows_rep6, drows_rep7, drows_rep8, mkVec, drows, evMk, List.length_map, take_mapF, drop_mapF, List.take_length, List.take_left, List.length_append, Nat.le_add_right, ite_self, List.take_of_length_le, evSlice, intOr, intOpd, Option.isSome_none, Option.isSome_some, Nat.sub_zero, loadQ, loadT, evBin, evUn, evIdxArr_d, evIdxArr_p, binT, binQ, chk, apartF, List.contains_cons, List.contains_nil, Bool.or_false, Bool.false_or, Bool.and_self, resQ, resV, resT, pickV, evCallT, evCall, fnOf, viewsT, viewT, evInt2, evEq, eqV, eqK, eqC1, buildQ, buildT, buildRQ, buildRT, lens_I, lensA_I, lens_Rat, lensA_Rat, lens_Loc, lensA_Loc, lens_Act, lensA_Act, lens_Step, lensA_Step, lens_Stamp, lensA_Stamp, List.mem_cons, List.not_mem_nil, or_false, forall_eq, putRow, dcells, get_nil, RetS, RetF, RetD, AV.frz, AV.frzL, AV.freshP, AV.freshL, DV.less, scal_int, scal_bool, scal_nil, scal_rowI, scal_rowRat, scal_rowStep, Option.some.injEq, AV.tup.injEq, AV.agg.injEq, List.cons.injEq, DV.list.injEq, List.isEmpty_nil, Nat.le_refl, AV.d.injEq, DV.int.injEq, DV.bool.injEq, ↓reduceIte, Nat.reduceEqDiff, Nat.reduceAdd, Nat.reduceBEq, List.length_cons, List.length_nil, List.replicate_succ, List.replicate_zero, List.nil_append, List.cons_append, List.append_nil, List.foldl_cons, List.foldl_nil, List.map_cons, List.map_nil, List.all_cons, List.all_nil, List.set_cons_zero, List.set_cons_succ, List.getD_cons_zero, List.getD_cons_succ, List.drop_zero, List.drop_succ_cons, List.take_succ_cons, List.take_zero, List.flatten_cons, List.flatten_nil, Bool.true_and, Bool.and_true, Bool.not_true, Bool.not_false, true_and, and_true, true_or, or_true, Option.bind_some, Option.map_some, decide_true, decide_false, beq_self_eq_true, true_implies, false_implies, implies_true, not_true_eq_false, not_false_eq_true, and_self, Bool.and_false, Bool.false_and, Nat.reduceLT, Nat.reduceLeDiff, List.reverse_cons, List.reverse_nil, Nat.zero_add, Nat.add_zero, Bool.false_eq_true, List.getElem?_cons_zero, Nat.reduceMul, Nat.mul_one, sp_Ring, F1, G1, at_Plus]
  have hle := szR_le A
  have hl : (plusG A).length = szR A := mkR_len
  have hp : plusG A = mkR (szR A) (way (hasN A) (szR A)) := rfl
  rw [hl]
  have hr : ringG A = (List.range (szR A)).any fun i => way (hasN A) (szR A) i i := rfl
  generalize szR A = n at *
  refine ⟨h1, ?_⟩
  refine Loop.fam [6, 7, 8] (fun m : Nat => ⟨[(6, .ref 0 1 0 n true), (7, .d (.int .i64 n)), (8, .d (.int .i64 m))],
      [.dvec 1 ((plusG A).map rowW)]⟩) (fun m => m ≤ n ∧ ∀ i, i < m → way (hasN A) n i i = false) (fun m => n - m) 0 [0] (by simp) (by simp) (by simp only [State.can, AV.can, AV.canL, HO.can, canRows, idx, get_hit, get_next, Heap.at, Nat.reduceBEq, ↓reduceIte, Nat.reduceEqDiff, Option.getD_some, Option.map_some, List.map_cons, List.map_nil, List.getD_cons_zero, List.getD_cons_succ]; rfl) ⟨by omega, fun i hi => by omega⟩ ?_
  rintro m ⟨hm, hno⟩
  simp only [↓vck_skip, ↓vck_ret, ↓vck_exit, ↓vck_region, ↓vck_nilq, ↓nilTo_to, nilG_d, nilG_r, ↓vck_seq, ↓vck_cond, ↓vck_block, ↓vck_loop, ↓vckTo_to, ↓thenK_n, ↓thenK_x, ↓thenK_r, ↓blockK_n, ↓blockK_x, ↓blockK_o, ↓blockK_r, ↓regK_to, ↓retK_r, ↓retK_n, ↓loopV_n, ↓loopV_x, ↓loopV_r, ↓famK_n, ↓famK_x, ↓famK_r, ↓boolK_true, ↓boolK_false, ↓boolK_not, ↓boolK_dec, ↓boolK_and, nf_mk, RGk_end_f, RGk_end_t, RGk_op, RGk_guard, opK_to, evN, evCallN, grow_mk, feet_f, feet_t, foot_mk, stepK_mk, stepK_v, stepK_no, guardG_t, guardG_f, guardG_no, condG_b, evT, Opd.ev, get_hit, get_next, app_to, app_no, app_up, app_skip, app_skipn, know_mk, knowO_t, knowO_c, envFrom, reserve, keeps, LOp.isNew, State.prune, cellsQ, cellsT, AV.leaf, Heap.at, evLoad_ptr, evLoad_dptr, loadO_vec, loadO_dvec1, stepK_load_map, idx_I, idx_W, rowW, set_rowW, app_rowW, app_rowW0, rep_rowW0, rowB, set_rowB, rep_rowB, rowN, lens_W, lensA_W, scal_rowW, default_W, w_or, w_and, w_andNot, w_and1, w_shl, w_shl1, w_shr, w_sub1, w_neg, w_add, w_bit, w_eq0, w_eq1, w_eq, Bool.decide_eq_true, idx_Rat, idx_Loc, idx_Act, idx_Step, idx_Stamp, stepK_idx_ref, evStore_ptr, storeO_vec, stepK_store_map1, loadDT_f, rowI, RatG.row, LocG.row, ActG.row, StepG.row, StampG.row, ActG.av, ActG.eta, RatG.eta, LocG.eta, beq_true, beq_false, loadDT_t, set_rowI, app_rowI, rep_rowI, set_rowRat, app_rowRat, rep_rowRat, set_rowLoc, app_rowLoc, app_rowAct, app_rowStep, List.length_set, List.length_replicate, toNat_cast, Int.reduceToNat, evLen, evAppend, srcOf, Src.all, Src.len, Src.leaf, joinV, drows_rep1, drows_rep2, drows_rep3, drows_rep4, drows_rep5, drows_rep6, drows_rep7, drows_rep8, mkVec, drows, evMk, List.length_map, take_mapF, drop_mapF, List.take_length, List.take_left, List.length_append, Nat.le_add_right, ite_self, List.take_of_length_le, evSlice, intOr, intOpd, Option.isSome_none, Option.isSome_some, Nat.sub_zero, loadQ, loadT, evBin, evUn, evIdxArr_d, evIdxArr_p, binT, binQ, chk, apartF, List.contains_cons, List.contains_nil, Bool.or_false, Bool.false_or, Bool.and_self, resQ, resV, resT, pickV, evCallT, evCall, fnOf, viewsT, viewT, evInt2, evEq, eqV, eqK, eqC1, buildQ, buildT, buildRQ, buildRT, lens_I, lensA_I, lens_Rat, lensA_Rat, lens_Loc, lensA_Loc, lens_Act, lensA_Act, lens_Step, lensA_Step, lens_Stamp, lensA_Stamp, List.mem_cons, List.not_mem_nil, or_false, forall_eq, putRow, dcells, get_nil, RetS, RetF, RetD, AV.frz, AV.frzL, AV.freshP, AV.freshL, DV.less, scal_int, scal_bool, scal_nil, scal_rowI, scal_rowRat, scal_rowStep, Option.some.injEq, AV.tup.injEq, AV.agg.injEq, List.cons.injEq, DV.list.injEq, List.isEmpty_nil, Nat.le_refl, AV.d.injEq, DV.int.injEq, DV.bool.injEq, ↓reduceIte, Nat.reduceEqDiff, Nat.reduceAdd, Nat.reduceBEq, List.length_cons, List.length_nil, List.replicate_succ, List.replicate_zero, List.nil_append, List.cons_append, List.append_nil, List.foldl_cons, List.foldl_nil, List.map_cons, List.map_nil, List.all_cons, List.all_nil, List.set_cons_zero, List.set_cons_succ, List.getD_cons_zero, List.getD_cons_succ, List.drop_zero, List.drop_succ_cons, List.take_succ_cons, List.take_zero, List.flatten_cons, List.flatten_nil, Bool.true_and, Bool.and_true, Bool.not_true, Bool.not_false, true_and, and_true, true_or, or_true, Option.bind_some, Option.map_some, decide_true, decide_false, beq_self_eq_true, true_implies, false_implies, implies_true, not_true_eq_false, not_false_eq_true, and_self, Bool.and_false, Bool.false_and, Nat.reduceLT, Nat.reduceLeDiff, List.reverse_cons, List.reverse_nil, Nat.zero_add, Nat.add_zero, Bool.false_eq_true, List.getElem?_cons_zero, Nat.reduceMul, Nat.mul_one, F1, G1, at_Plus]
  refine ⟨fun c => ?_, fun c => ?_⟩
  · have c' : m < n := by omega
    rw [wrap_succ c' (by unfold maxLen; omega), wrapU (k := m) (by omega)]
    simp only [↓vck_skip, ↓vck_ret, ↓vck_exit, ↓vck_region, ↓vck_nilq, ↓nilTo_to, nilG_d, nilG_r, ↓vck_seq, ↓vck_cond, ↓vck_block, ↓vck_loop, ↓vckTo_to, ↓thenK_n, ↓thenK_x, ↓thenK_r, ↓blockK_n, ↓blockK_x, ↓blockK_o, ↓blockK_r, ↓regK_to, ↓retK_r, ↓retK_n, ↓loopV_n, ↓loopV_x, ↓loopV_r, ↓famK_n, ↓famK_x, ↓famK_r, ↓boolK_true, ↓boolK_false, ↓boolK_not, ↓boolK_dec, ↓boolK_and, nf_mk, RGk_end_f, RGk_end_t, RGk_op, RGk_guard, opK_to, evN, evCallN, grow_mk, feet_f, feet_t, foot_mk, stepK_mk, stepK_v, stepK_no, guardG_t, guardG_f, guardG_no, condG_b, evT, Opd.ev, get_hit, get_next, app_to, app_no, app_up, app_skip, app_skipn, know_mk, knowO_t, knowO_c, envFrom, reserve, keeps, LOp.isNew, State.prune, cellsQ, cellsT, AV.leaf, Heap.at, evLoad_ptr, evLoad_dptr, loadO_vec, loadO_dvec1, stepK_load_map, idx_I, idx_W, rowW, set_rowW, app_rowW, app_rowW0, rep_rowW0, rowB, set_rowB, rep_rowB, rowN, lens_W, lensA_W, scal_rowW, default_W, w_or, w_and, w_andNot, w_and1, w_shl, w_shl1, w_shr, w_sub1, w_neg, w_add, w_bit, w_eq0, w_eq1, w_eq, Bool.decide_eq_true, idx_Rat, idx_Loc, idx_Act, idx_Step, idx_Stamp, stepK_idx_ref, evStore_ptr, storeO_vec, stepK_store_map1, loadDT_f, rowI, RatG.row, LocG.row, ActG.row, StepG.row, StampG.row, ActG.av, ActG.eta, RatG.eta, LocG.eta, beq_true, beq_false, loadDT_t, set_rowI, app_rowI, rep_rowI, set_rowRat, app_rowRat, rep_rowRat, set_rowLoc, app_rowLoc, app_rowAct, app_rowStep, List.length_set, List.length_replicate, toNat_cast, Int.reduceToNat, evLen, evAppend, srcOf, Src.all, Src.len, Src.leaf, joinV, drows_rep1, drows_rep2, drows_rep3, drows_rep4, drows_rep5, drows_rep6, drows_rep7, drows_rep8, mkVec, drows, evMk, List.length_map, take_mapF, drop_mapF, List.take_length, List.take_left, List.length_append, Nat.le_add_right, ite_self, List.take_of_length_le, evSlice, intOr, intOpd, Option.isSome_none, Option.isSome_some, Nat.sub_zero, loadQ, loadT, evBin, evUn, evIdxArr_d, evIdxArr_p, binT, binQ, chk, apartF, List.contains_cons, List.contains_nil, Bool.or_false, Bool.false_or, Bool.and_self, resQ, resV, resT, pickV, evCallT, evCall, fnOf, viewsT, viewT, evInt2, evEq, eqV, eqK, eqC1, buildQ, buildT, buildRQ, buildRT, lens_I, lensA_I, lens_Rat, lensA_Rat, lens_Loc, lensA_Loc, lens_Act, lensA_Act, lens_Step, lensA_Step, lens_Stamp, lensA_Stamp, List.mem_cons, List.not_mem_nil, or_false, forall_eq, putRow, dcells, get_nil, RetS, RetF, RetD, AV.frz, AV.frzL, AV.freshP, AV.freshL, DV.less, scal_int, scal_bool, scal_nil, scal_rowI, scal_rowRat, scal_rowStep, Option.some.injEq, AV.tup.injEq, AV.agg.injEq, List.cons.injEq, DV.list.injEq, List.isEmpty_nil, Nat.le_refl, AV.d.injEq, DV.int.injEq, DV.bool.injEq, ↓reduceIte, Nat.reduceEqDiff, Nat.reduceAdd, Nat.reduceBEq, List.length_cons, List.length_nil, List.replicate_succ, List.replicate_zero, List.nil_append, List.cons_append, List.append_nil, List.foldl_cons, List.foldl_nil, List.map_cons, List.map_nil, List.all_cons, List.all_nil, List.set_cons_zero, List.set_cons_succ, List.getD_cons_zero, List.getD_cons_succ, List.drop_zero, List.drop_succ_cons, List.take_succ_cons, List.take_zero, List.flatten_cons, List.flatten_nil, Bool.true_and, Bool.and_true, Bool.not_true, Bool.not_false, true_and, and_true, true_or, or_true, Option.bind_some, Option.map_some, decide_true, decide_false, beq_self_eq_true, true_implies, false_implies, implies_true, not_true_eq_false, not_false_eq_true, and_self, Bool.and_false, Bool.false_and, Nat.reduceLT, Nat.reduceLeDiff, List.reverse_cons, List.reverse_nil, Nat.zero_add, Nat.add_zero, Bool.false_eq_true, List.getElem?_cons_zero, Nat.reduceMul, Nat.mul_one]
    rw [hl, hp, mkR_get c']
    simp only [decide_eq_true c', decide_eq_true (by omega : m < 64), Bool.true_and]
    refine ⟨by omega, by omega, by omega, fun hb => ?_, fun hb => ?_⟩
    · rw [hr]; symm
      rw [List.any_eq_true]
      exact ⟨m, by simpa using c', hb⟩
    · refine FamNext.mk [0] (m + 1) (by simp) (by simp) (by simp only [State.can, AV.can, AV.canL, HO.can, canRows, idx, get_hit, get_next, Heap.at, Nat.reduceBEq, ↓reduceIte, Nat.reduceEqDiff, Option.getD_some, Option.map_some, List.map_cons, List.map_nil, List.getD_cons_zero, List.getD_cons_succ]) ⟨by omega, fun i hi => ?_⟩ (by omega)
      by_cases e1 : i = m
      · subst e1; simpa using hb
      · exact hno i (by omega)
  · have : m = n := by omega
    subst this
    rw [hr]; symm
    rw [List.any_eq_false]
    intro i hi
    rw [hno i (by simpa using hi)]; simp

/-! ### Of pairs -/
def ofBad (n : Int) (p : RatG) : Bool := decide (p.num < 0) || decide (n ≤ p.num) || decide (p.den < 0) || decide (n ≤ p.den)
def ofErr (n : Int) (l : List RatG) : Int := if n < 0 ∨ 64 < n then 1 else if l.any (ofBad n) then 2 else 0
def ofP (l : List RatG) (i k : Nat) : Bool := l.any fun p => decide (p.num = i) && decide (p.den = k)
def ofG (n : Int) (l : List RatG) : List W := if ofErr n l = 0 then mkR n.toNat (ofP l) else []
def ofAV (n : Int) (l : List RatG) : AV := .tup [.d (.list ((ofG n l).map rowW) false), .d (.int .i64 (ofErr n l))]
def sp_Of : Sp := ⟨Int × List RatG × Bool, fun x => [.d (.int .i64 x.1), .d (.list (x.2.1.map RatG.row) x.2.2)], fun x => .data (x.2.1.length ≤ maxLen) (ofAV x.1 x.2.1) true⟩
theorem at_Of (n : Int) (l : List RatG) (f : Bool) : sp_Of.at [.d (.int .i64 n), .d (.list (l.map RatG.row) f)] = .data (l.length ≤ maxLen) (.tup [.d (.list ((ofG n l).map rowW) false), .d (.int .i64 (ofErr n l))]) true :=
  Sp.at_enc (s := sp_Of) (fun x y h => by
    obtain ⟨a, b, c⟩ := x; obtain ⟨a', b', c'⟩ := y
    simp only [sp_Of, List.cons.injEq, AV.d.injEq, DV.list.injEq, DV.int.injEq, and_true, true_and] at h
    rw [h.1, rows_inj RatG.row_inj h.2.1, h.2.2]) (n, l, f)
theorem any_take_succ {α : Type} {q : α → Bool} {l : List α} {i : Nat} {d : α} (h : i < l.length) : (l.take (i + 1)).any q = ((l.take i).any q || q (l.getD i d)) := by
  have e : l.take (i + 1) = l.take i ++ [l.getD i d] := by rw [List.take_add_one, List.getElem?_eq_getElem h, getD_lt h]; rfl
  rw [e, List.any_append, List.any_cons, List.any_nil, Bool.or_false]
theorem ofP_take {l : List RatG} {i a b : Nat} (h : i < l.length) : ofP (l.take (i + 1)) a b = (ofP (l.take i) a b || (decide ((l.getD i default).num = a) && decide ((l.getD i default).den = b))) := any_take_succ h
theorem body_rel_Of {T : Tab} : sp_Of.Body T V_rel_Of L_rel_Of R_rel_Of := by
  rintro ⟨n, l, f⟩ h1
  have h1 : l.length ≤ maxLen := h1
  refine .inr ⟨rfl, ?_⟩
  unfold V_rel_Of L_rel_Of R_rel_Of
  simp only [↓vck_skip, ↓vck_ret, ↓vck_exit, ↓vck_region, ↓vck_nilq, ↓nilTo_to, nilG_d, nilG_r, ↓vck_seq, ↓vck_cond, ↓vck_block, ↓vck_loop, ↓vckTo_to, ↓thenK_n, ↓thenK_x, ↓thenK_r, ↓blockK_n, ↓blockK_x, ↓blockK_o, ↓blockK_r, ↓regK_to, ↓retK_r, ↓retK_n, ↓loopV_n, ↓loopV_x, ↓loopV_r, ↓famK_n, ↓famK_x, ↓famK_r, ↓boolK_true, ↓boolK_false, ↓boolK_not, ↓boolK_dec, ↓boolK_and, nf_mk, RGk_end_f, RGk_end_t, RGk_op, RGk_guard, opK_to, evN, evCallN, grow_mk, feet_f, feet_t, foot_mk, stepK_mk, stepK_v, stepK_no, guardG_t, guardG_f, guardG_no, condG_b, evT, Opd.ev, get_hit, get_next, app_to, app_no, app_up, app_skip, app_skipn, know_mk, knowO_t, knowO_c, envFrom, reserve, keeps, LOp.isNew, State.prune, cellsQ, cellsT, AV.leaf, Heap.at, evLoad_ptr, evLoad_dptr, loadO_vec, loadO_dvec1, stepK_load_map, idx_I, idx_W, rowW, set_rowW, app_rowW, app_rowW0, rep_rowW0, rowB, set_rowB, rep_rowB, rowN, lens_W, lensA_W, scal_rowW, default_W, w_or, w_and, w_andNot, w_and1, w_shl, w_shl1, w_shr, w_sub1, w_neg, w_add, w_bit, w_eq0, w_eq1, w_eq, Bool.decide_eq_true, idx_Rat, idx_Loc, idx_Act, idx_Step, idx_Stamp, stepK_idx_ref, evStore_ptr, storeO_vec, stepK_store_map1, loadDT_f, rowI, RatG.row, LocG.row, ActG.row, StepG.row, StampG.row, ActG.av, ActG.eta, RatG.eta, LocG.eta, beq_true, beq_false, loadDT_t, set_rowI, app_rowI, rep_rowI, set_rowRat, app_rowRat, rep_rowRat, set_rowLoc, app_rowLoc, app_rowAct, app_rowStep, List.length_set, List.length_replicate, toNat_cast, Int.reduceToNat, evLen, evAppend, srcOf, Src.all, Src.len, Src.leaf, joinV, drows_rep1, drows_rep2, drows_rep3, drows_rep4, drows_rep5, drows_rep6, drows_rep7, drows_rep8, mkVec, drows, evMk, List.length_map, take_mapF, drop_mapF, List.take_length, List.take_left, List.length_append, Nat.le_add_right, ite_self, List.take_of_length_le, evSlice, intOr, intOpd, Option.isSome_none, Option.isSome_some, Nat.sub_zero, loadQ, loadT, evBin, evUn, evIdxArr_d, evIdxArr_p, binT, binQ, chk, apartF, List.contains_cons, List.contains_nil, Bool.or_false, Bool.false_or, Bool.and_self, resQ, resV, resT, pickV, evCallT, evCall, fnOf, viewsT, viewT, evInt2, evEq, eqV, eqK, eqC1, buildQ, buildT, buildRQ, buildRT, lens_I, lensA_I, lens_Rat, lensA_Rat, lens_Loc, lensA_Loc, lens_Act, lensA_Act, lens_Step, lensA_Step, lens_Stamp, lensA_Stamp, List.mem_cons, List.not_mem_nil, or_false, forall_eq, putRow, dcells, get_nil, RetS, RetF, RetD, AV.frz, AV.frzL, AV.freshP, AV.freshL, DV.less, scal_int, scal_bool, scal_nil, scal_rowI, scal_rowRat, scal_rowStep, Option.some.injEq, AV.tup.injEq, AV.agg.injEq, List.cons.injEq, DV.list.injEq, List.isEmpty_nil, Nat.le_refl, AV.d.injEq, DV.int.injEq, DV.bool.injEq, ↓reduceIte, Nat.reduceEqDiff, Nat.reduceAdd, Nat.reduceBEq, List.length_cons, List.length_nil, List.replicate_succ, List.replicate_zero, List.nil_append, List.cons_append, List.append_nil, List.foldl_cons, List.foldl_nil, List.map_cons, List.map_nil, List.all_cons, List.all_nil, List.set_cons_zero, List.set_cons_succ, List.getD_cons_zero, List.getD_cons_succ, List.drop_zero, List.drop_succ_cons, List.take_succ_cons, List.take_zero, List.flatten_cons, List.flatten_nil, Bool.true_and, Bool.and_true, Bool.not_true, Bool.not_false, true_and, and_true, true_or, or_true, Option.bind_some, Option.map_some, decide_true, decide_false, beq_self_eq_true, true_implies, false_implies, implies_true, not_true_eq_false, not_false_eq_true, and_self, Bool.and_false, Bool.false_and, Nat.reduceLT, Nat.reduceLeDiff, List.reverse_cons, List.reverse_nil, Nat.zero_add, Nat.add_zero, Bool.false_eq_true, List.getElem?_cons_zero, Nat.reduceMul, Nat.mul_one, sp_Of, ofAV]
  have bad : (n < 0 ∨ 64 < n) → ofErr n l = 1 ∧ ofG n l = [] := fun h => by
    have : ofErr n l = 1 := by unfold ofErr; rw [if_pos h]
    exact ⟨this, by unfold ofG; rw [this]; rfl⟩
  refine ⟨fun c => ?_, fun c => ⟨fun c2 => ?_, fun c2 => ?_⟩⟩
  · obtain ⟨e1, e2⟩ := bad (.inl c)
    rw [e1, e2]; simp
  · obtain ⟨e1, e2⟩ := bad (.inr c2)
    rw [e1, e2]; simp
  · obtain ⟨n, rfl⟩ := Int.eq_ofNat_of_zero_le (by omega : 0 ≤ n)
    simp only [↓vck_skip, ↓vck_ret, ↓vck_exit, ↓vck_region, ↓vck_nilq, ↓nilTo_to, nilG_d, nilG_r, ↓vck_seq, ↓vck_cond, ↓vck_block, ↓vck_loop, ↓vckTo_to, ↓thenK_n, ↓thenK_x, ↓thenK_r, ↓blockK_n, ↓blockK_x, ↓blockK_o, ↓blockK_r, ↓regK_to, ↓retK_r, ↓retK_n, ↓loopV_n, ↓loopV_x, ↓loopV_r, ↓famK_n, ↓famK_x, ↓famK_r, ↓boolK_true, ↓boolK_false, ↓boolK_not, ↓boolK_dec, ↓boolK_and, nf_mk, RGk_end_f, RGk_end_t, RGk_op, RGk_guard, opK_to, evN, evCallN, grow_mk, feet_f, feet_t, foot_mk, stepK_mk, stepK_v, stepK_no, guardG_t, guardG_f, guardG_no, condG_b, evT, Opd.ev, get_hit, get_next, app_to, app_no, app_up, app_skip, app_skipn, know_mk, knowO_t, knowO_c, envFrom, reserve, keeps, LOp.isNew, State.prune, cellsQ, cellsT, AV.leaf, Heap.at, evLoad_ptr, evLoad_dptr, loadO_vec, loadO_dvec1, stepK_load_map, idx_I, idx_W, rowW, set_rowW, app_rowW, app_rowW0, rep_rowW0, rowB, set_rowB, rep_rowB, rowN, lens_W, lensA_W, scal_rowW, default_W, w_or, w_and, w_andNot, w_and1, w_shl, w_shl1, w_shr, w_sub1, w_neg, w_add, w_bit, w_eq0, w_eq1, w_eq, Bool.decide_eq_true, idx_Rat, idx_Loc, idx_Act, idx_Step, idx_Stamp, stepK_idx_ref, evStore_ptr, storeO_vec, stepK_store_map1, loadDT_f, rowI, RatG.row, LocG.row, ActG.row, StepG.row, StampG.row, ActG.av, ActG.eta, RatG.eta, LocG.eta, beq_true, beq_false, loadDT_t, set_rowI, app_rowI, rep_rowI, set_rowRat, app_rowRat, rep_rowRat, set_rowLoc, app_rowLoc, app_rowAct, app_rowStep, List.length_set, List.length_replicate, toNat_cast, Int.reduceToNat, evLen, evAppend, srcOf, Src.all, Src.len, Src.leaf, joinV, drows_rep1, drows_rep2, drows_rep3, drows_rep4, drows_rep5, drows_rep6, drows_rep7, drows_rep8, mkVec, drows, evMk, List.length_map, take_mapF, drop_mapF, List.take_length, List.take_left, List.length_append, Nat.le_add_right, ite_self, List.take_of_length_le, evSlice, intOr, intOpd, Option.isSome_none, Option.isSome_some, Nat.sub_zero, loadQ, loadT, evBin, evUn, evIdxArr_d, evIdxArr_p, binT, binQ, chk, apartF, List.contains_cons, List.contains_nil, Bool.or_false, Bool.false_or, Bool.and_self, resQ, resV, resT, pickV, evCallT, evCall, fnOf, viewsT, viewT, evInt2, evEq, eqV, eqK, eqC1, buildQ, buildT, buildRQ, buildRT, lens_I, lensA_I, lens_Rat, lensA_Rat, lens_Loc, lensA_Loc, lens_Act, lensA_Act, lens_Step, lensA_Step, lens_Stamp, lensA_Stamp, List.mem_cons, List.not_mem_nil, or_false, forall_eq, putRow, dcells, get_nil, RetS, RetF, RetD, AV.frz, AV.frzL, AV.freshP, AV.freshL, DV.less, scal_int, scal_bool, scal_nil, scal_rowI, scal_rowRat, scal_rowStep, Option.some.injEq, AV.tup.injEq, AV.agg.injEq, List.cons.injEq, DV.list.injEq, List.isEmpty_nil, Nat.le_refl, AV.d.injEq, DV.int.injEq, DV.bool.injEq, ↓reduceIte, Nat.reduceEqDiff, Nat.reduceAdd, Nat.reduceBEq, List.length_cons, List.length_nil, List.replicate_succ, List.replicate_zero, List.nil_append, List.cons_append, List.append_nil, List.foldl_cons, List.foldl_nil, List.map_cons, List.map_nil, List.all_cons, List.all_nil, List.set_cons_zero, List.set_cons_succ, List.getD_cons_zero, List.getD_cons_succ, List.drop_zero, List.drop_succ_cons, List.take_succ_cons, List.take_zero, List.flatten_cons, List.flatten_nil, Bool.true_and, Bool.and_true, Bool.not_true, Bool.not_false, true_and, and_true, true_or, or_true, Option.bind_some, Option.map_some, decide_true, decide_false, beq_self_eq_true, true_implies, false_implies, implies_true, not_true_eq_false, not_false_eq_true, and_self, Bool.and_false, Bool.false_and, Nat.reduceLT, Nat.reduceLeDiff, List.reverse_cons, List.reverse_nil, Nat.zero_add, Nat.add_zero, Bool.false_eq_true, List.getElem?_cons_zero, Nat.reduceMul, Nat.mul_one]
    refine ⟨⟨by omega, by omega, roomy_of (by omega) (by omega)⟩, ?_⟩
    have notbad : ofErr n l = if l.any (ofBad n) then 2 else 0 := by unfold ofErr; rw [if_neg (by omega)]
    refine Loop.fam [0, 6, 17, 18, 19] (fun i : Nat => ⟨[(0, .d (.int .i64 n)), (6, .ref 0 1 0 n true), (17, .d (.list (l.map RatG.row) f)), (18, .d (.int .i64 l.length)), (19, .d (.int .i64 i))],
        [.dvec 1 ((mkR n (ofP (l.take i))).map rowW)]⟩) (fun i => i ≤ l.length ∧ (l.take i).any (ofBad n) = false) (fun i => l.length - i) 0 [0] (by simp) (by simp) (by
          simp only [State.can, AV.can, AV.canL, HO.can, canRows, idx, get_hit, get_next, Heap.at, Nat.reduceBEq, ↓reduceIte, Nat.reduceEqDiff, Option.getD_some, Option.map_some, List.map_cons, List.map_nil, List.getD_cons_zero, List.getD_cons_succ]
          rw [mkR_zero (p := ofP (l.take 0)) (fun i k _ _ => by simp [ofP])]; rfl) ⟨by omega, by simp⟩ ?_
    rintro i ⟨hi, hb⟩
    simp only [↓vck_skip, ↓vck_ret, ↓vck_exit, ↓vck_region, ↓vck_nilq, ↓nilTo_to, nilG_d, nilG_r, ↓vck_seq, ↓vck_cond, ↓vck_block, ↓vck_loop, ↓vckTo_to, ↓thenK_n, ↓thenK_x, ↓thenK_r, ↓blockK_n, ↓blockK_x, ↓blockK_o, ↓blockK_r, ↓regK_to, ↓retK_r, ↓retK_n, ↓loopV_n, ↓loopV_x, ↓loopV_r, ↓famK_n, ↓famK_x, ↓famK_r, ↓boolK_true, ↓boolK_false, ↓boolK_not, ↓boolK_dec, ↓boolK_and, nf_mk, RGk_end_f, RGk_end_t, RGk_op, RGk_guard, opK_to, evN, evCallN, grow_mk, feet_f, feet_t, foot_mk, stepK_mk, stepK_v, stepK_no, guardG_t, guardG_f, guardG_no, condG_b, evT, Opd.ev, get_hit, get_next, app_to, app_no, app_up, app_skip, app_skipn, know_mk, knowO_t, knowO_c, envFrom, reserve, keeps, LOp.isNew, State.prune, cellsQ, cellsT, AV.leaf, Heap.at, evLoad_ptr, evLoad_dptr, loadO_vec, loadO_dvec1, stepK_load_map, idx_I, idx_W, rowW, set_rowW, app_rowW, app_rowW0, rep_rowW0, rowB, set_rowB, rep_rowB, rowN, lens_W, lensA_W, scal_rowW, default_W, w_or, w_and, w_andNot, w_and1, w_shl, w_shl1, w_shr, w_sub1, w_neg, w_add, w_bit, w_eq0, w_eq1, w_eq, Bool.decide_eq_true, idx_Rat, idx_Loc, idx_Act, idx_Step, idx_Stamp, stepK_idx_ref, evStore_ptr, storeO_vec, stepK_store_map1, loadDT_f, rowI, RatG.row, LocG.row, ActG.row, StepG.row, StampG.row, ActG.av, ActG.eta, RatG.eta, LocG.eta, beq_true, beq_false, loadDT_t, set_rowI, app_rowI, rep_rowI, set_rowRat, app_rowRat, rep_rowRat, set_rowLoc, app_rowLoc, app_rowAct, app_rowStep, List.length_set, List.length_replicate, toNat_cast, Int.reduceToNat, evLen, evAppend, srcOf, Src.all, Src.len, Src.leaf, joinV, drows_rep1, drows_rep2, drows_rep3, drows_rep4, drows_rep5, drows_rep6, drows_rep7, drows_rep8, mkVec, drows, evMk, List.length_map, take_mapF, drop_mapF, List.take_length, List.take_left, List.length_append, Nat.le_add_right, ite_self, List.take_of_length_le, evSlice, intOr, intOpd, Option.isSome_none, Option.isSome_some, Nat.sub_zero, loadQ, loadT, evBin, evUn, evIdxArr_d, evIdxArr_p, binT, binQ, chk, apartF, List.contains_cons, List.contains_nil, Bool.or_false, Bool.false_or, Bool.and_self, resQ, resV, resT, pickV, evCallT, evCall, fnOf, viewsT, viewT, evInt2, evEq, eqV, eqK, eqC1, buildQ, buildT, buildRQ, buildRT, lens_I, lensA_I, lens_Rat, lensA_Rat, lens_Loc, lensA_Loc, lens_Act, lensA_Act, lens_Step, lensA_Step, lens_Stamp, lensA_Stamp, List.mem_cons, List.not_mem_nil, or_false, forall_eq, putRow, dcells, get_nil, RetS, RetF, RetD, AV.frz, AV.frzL, AV.freshP, AV.freshL, DV.less, scal_int, scal_bool, scal_nil, scal_rowI, scal_rowRat, scal_rowStep, Option.some.injEq, AV.tup.injEq, AV.agg.injEq, List.cons.injEq, DV.list.injEq, List.isEmpty_nil, Nat.le_refl, AV.d.injEq, DV.int.injEq, DV.bool.injEq, ↓reduceIte, Nat.reduceEqDiff, Nat.reduceAdd, Nat.reduceBEq, List.length_cons, List.length_nil, List.replicate_succ, List.replicate_zero, List.nil_append, List.cons_append, List.append_nil, List.foldl_cons, List.foldl_nil, List.map_cons, List.map_nil, List.all_cons, List.all_nil, List.set_cons_zero, List.set_cons_succ, List.getD_cons_zero, List.getD_cons_succ, List.drop_zero, List.drop_succ_cons, List.take_succ_cons, List.take_zero, List.flatten_cons, List.flatten_nil, Bool.true_and, Bool.and_true, Bool.not_true, Bool.not_false, true_and, and_true, true_or, or_true, Option.bind_some, Option.map_some, decide_true, decide_false, beq_self_eq_true, true_implies, false_implies, implies_true, not_true_eq_false, not_false_eq_true, and_self, Bool.and_false, Bool.false_and, Nat.reduceLT, Nat.reduceLeDiff, List.reverse_cons, List.reverse_nil, Nat.zero_add, Nat.add_zero, Bool.false_eq_true, List.getElem?_cons_zero, Nat.reduceMul, Nat.mul_one]
    refine ⟨fun g => ?_, fun g => ?_⟩
    · have g' : i < l.length := by omega
      have e1 := any_take_succ (q := ofBad n) (d := default) g'
      have e2 : ∀ a b, _ := fun a b => ofP_take (a := a) (b := b) g'
      have out : ofBad n (l.getD i default) = true → ofErr n l = 2 ∧ ofG n l = [] := fun h => by
        have h2 : l.any (ofBad n) = true := by
          rw [List.any_eq_true]
          refine ⟨l.getD i default, ?_, h⟩
          rw [getD_lt g']; exact List.getElem_mem g'
        have : ofErr n l = 2 := by rw [notbad, if_pos h2]
        exact ⟨this, by unfold ofG; rw [this]; rfl⟩
      generalize l.getD i default = x at *
      simp only [wrap_succ g' h1]
      have isbad : ∀ q : ofBad n x = true, ([] : List (List DV)) = List.map rowW (ofG n l) ∧ (2 : Int) = ofErr n l := fun q => by
        obtain ⟨o1, o2⟩ := out q
        rw [o1, o2]; simp
      refine ⟨by omega, by omega, fun b1 => isbad (by simp [ofBad, b1]), fun b1 => ⟨by omega, fun b2 => isbad (by simp [ofBad, b2]), fun b2 => ⟨by omega, fun b3 => isbad (by simp [ofBad, b3]), fun b3 => ⟨by omega, fun b4 => isbad (by simp [ofBad, b4]), fun b4 => ?_⟩⟩⟩⟩
      have nb : ofBad n x = false := by simp [ofBad]; omega
      obtain ⟨a, ha⟩ := Int.eq_ofNat_of_zero_le (by omega : 0 ≤ x.num)
      obtain ⟨b, hb2⟩ := Int.eq_ofNat_of_zero_le (by omega : 0 ≤ x.den)
      simp only [ha, hb2] at e2 b2 b4 ⊢
      simp only [wrapU (k := b) (by omega), toNat_cast, w_shl1, w_or]
      rw [mkR_len]
      refine ⟨by omega, by omega, by omega, by omega, by omega, by omega, by omega, ?_⟩
      have han : a < n := by omega
      refine FamNext.mk [0] (i + 1) (by simp) (by simp) ?_ ⟨by omega, by rw [e1, hb, nb]; rfl⟩ (by omega)
      rw [mkR_set (q := ofP (l.take (i + 1))) han]
      · simp only [State.can, AV.can, AV.canL, HO.can, canRows, idx, get_hit, get_next, Heap.at, Nat.reduceBEq, ↓reduceIte, Nat.reduceEqDiff, Option.getD_some, Option.map_some, List.map_cons, List.map_nil, List.getD_cons_zero, List.getD_cons_succ]
      · intro k hk
        rw [BitVec.getLsbD_or, mkR_get han, one_shl (by omega), e2]
        by_cases hkn : k < n
        · by_cases e3 : b = k
          · subst e3; simp [hkn, hk]
          · have : ¬ (b : Int) = k := by omega
            simp [hkn, hk, e3, this]
        · have : ¬ b = k := by omega
          simp [hkn, this]
      · intro a' k ha' hk hne
        rw [e2]
        have : ¬ (a : Int) = a' := by omega
        simp [this]
    · have : i = l.length := by omega
      subst this
      rw [List.take_length] at hb ⊢
      have e1 : ofErr n l = 0 := by rw [notbad, hb]; rfl
      have e2 : ofG n l = mkR n (ofP l) := by unfold ofG; rw [e1, if_pos rfl]; rfl
      rw [e1, e2]
      simp [mkR_len, List.take_of_length_le]

/-! ### Order -/
def freeK (B : List W) (told : W) (k : Nat) : Bool := !told.getLsbD k && decide (B.getD k 0#64 &&& ~~~told = 0#64)
def freeAt (B : List W) (n : Nat) (told : W) : Nat := ((List.range n).find? (freeK B told)).getD n
theorem freeAt_eq {B : List W} {n a : Nat} {told : W} (hn : a ≤ n) (h : ∀ k, k < a → freeK B told k = false) (ha : a = n ∨ freeK B told a = true) : freeAt B n told = a := by
  unfold freeAt
  rcases Nat.lt_or_ge a n with hl | hl
  · have hf : freeK B told a = true := by rcases ha with ha | ha; omega; exact ha
    have e : (List.range n) = List.range a ++ (a :: (List.range (n - (a + 1))).map (fun x => (a + 1) + x)) := by
      have h1 : List.range n = List.range ((a + 1) + (n - (a + 1))) := by congr 1; omega
      rw [h1, List.range_add, List.range_succ, List.append_assoc]; rfl
    rw [e, List.find?_append, List.find?_eq_none.2 (fun x hx => by rw [h x (by simpa using hx)]; simp), Option.none_or, List.find?_cons_of_pos hf]; rfl
  · have : a = n := by omega
    subst this
    rw [List.find?_eq_none.2 (fun x hx => by rw [h x (by simpa using hx)]; simp)]; rfl
/-- One behind the other, each with nobody untold ahead of it. -/
def orderGo (B : List W) (n : Nat) : Nat → W → List Int → Option (List Int)
  | 0, _, out => some out
  | f + 1, told, out => if freeAt B n told = n then none else orderGo B n f (told ||| 1#64 <<< freeAt B n told) (out ++ [(freeAt B n told : Int)])
def orderG (R : List W) : Option (List Int) := orderGo (backG R) (szR R) (szR R) 0#64 []
def orderAV (R : List W) : AV := .tup [.d (.list (((orderG R).getD []).map rowI) false), .d (.bool (orderG R).isSome)]
def sp_Order : Sp := ⟨List W × Bool, fun x => [.d (.list (x.1.map rowW) x.2)], fun x => .data (x.1.length ≤ maxLen) (orderAV x.1) true⟩
theorem at_Order (A : List W) (e : Bool) : sp_Order.at [.d (.list (A.map rowW) e)] = .data (A.length ≤ maxLen) (.tup [.d (.list (((orderG A).getD []).map rowI) false), .d (.bool (orderG A).isSome)]) true :=
  Sp.at_enc (s := sp_Order) (fun x y h => by
    obtain ⟨a, b⟩ := x; obtain ⟨a', b'⟩ := y
    simp only [sp_Order, List.cons.injEq, AV.d.injEq, DV.list.injEq, and_true] at h
    rw [rows_inj rowW_inj h.1, h.2]) (A, e)

def ordSt (R : List W) (n : Nat) : Nat × W × List Int → State
  | (i, told, []) => ⟨[(4, .ref 0 1 0 n true), (5, .d (.list [] true)), (6, .d (.int .u64 (told.toNat : Int))), (11, .d (.int .i64 n)), (12, .d (.int .i64 i))], [.dvec 1 ((backG R).map rowW)]⟩
  | (i, told, o :: os) => ⟨[(4, .ref 0 1 0 n true), (5, .ref 1 1 0 (os.length + 1) true), (6, .d (.int .u64 (told.toNat : Int))), (11, .d (.int .i64 n)), (12, .d (.int .i64 i))], [.dvec 1 ((backG R).map rowW), .dvec 1 ((o :: os).map rowI)]⟩
theorem body_rel_Order {T : Tab} {n1 : Nat} (k1 : Knows T n1 sp_Back) : sp_Order.Body T V_rel_Order (L_rel_Order n1) R_rel_Order := by
  have F1 := k1.F; have G1 := k1.G
  rintro ⟨A, e⟩ h1
  have h1 : A.length ≤ maxLen := h1
  refine .inr ⟨rfl, ?_⟩
  unfold V_rel_Order L_rel_Order R_rel_Order
  simp only [↓vck_skip, ↓vck_ret, ↓vck_exit, ↓vck_region, ↓vck_nilq, ↓nilTo_to, nilG_d, nilG_r, ↓vck_seq, ↓vck_cond, ↓vck_block, ↓vck_loop, ↓vckTo_to, ↓thenK_n, ↓thenK_x, ↓thenK_r, ↓blockK_n, ↓blockK_x, ↓blockK_o, ↓blockK_r, ↓regK_to, ↓retK_r, ↓retK_n, ↓loopV_n, ↓loopV_x, ↓loopV_r, ↓famK_n, ↓famK_x, ↓famK_r, ↓boolK_true, ↓boolK_false, ↓boolK_not, ↓boolK_dec, ↓boolK_and, nf_mk, RGk_end_f, RGk_end_t, RGk_op, RGk_guard, opK_to, evN, evCallN, grow_mk, feet_f, feet_t, foot_mk, stepK_mk, stepK_v, stepK_no, guardG_t, guardG_f, guardG_no, condG_b, evT, Opd.ev, get_hit, get_next, app_to, app_no, app_up, app_skip, app_skipn, know_mk, knowO_t, knowO_c, envFrom, reserve, keeps, LOp.isNew, State.prune, cellsQ, cellsT, AV.leaf, Heap.at, evLoad_ptr, evLoad_dptr, loadO_vec, loadO_dvec1, stepK_load_map, idx_I, idx_W, rowW, set_rowW, app_rowW, app_rowW0, rep_rowW0, rowB, set_rowB, rep_rowB, rowN, lens_W, lensA_W, scal_rowW, default_W, w_or, w_and, w_andNot, w_and1, w_shl, w_shl1, w_shr, w_sub1, w_neg, w_add, w_bit, w_eq0, w_eq1, w_eq, Bool.decide_eq_true, idx_Rat, idx_Loc, idx_Act, idx_Step, idx_Stamp, stepK_idx_ref, evStore_ptr, storeO_vec, stepK_store_map1, loadDT_f, rowI, RatG.row, LocG.row, ActG.row, StepG.row, StampG.row, ActG.av, ActG.eta, RatG.eta, LocG.eta, beq_true, beq_false, loadDT_t, set_rowI, app_rowI, rep_rowI, set_rowRat, app_rowRat, rep_rowRat, set_rowLoc, app_rowLoc, app_rowAct, app_rowStep, List.length_set, List.length_replicate, toNat_cast, Int.reduceToNat, evLen, evAppend, srcOf, Src.all, Src.len, Src.leaf, joinV, drows_rep1, drows_rep2, drows_rep3, drows_rep4, drows_rep5, drows_rep6, drows_rep7, drows_rep8, mkVec, drows, evMk, List.length_map, take_mapF, drop_mapF, List.take_length, List.take_left, List.length_append, Nat.le_add_right, ite_self, List.take_of_length_le, evSlice, intOr, intOpd, Option.isSome_none, Option.isSome_some, Nat.sub_zero, loadQ, loadT, evBin, evUn, evIdxArr_d, evIdxArr_p, binT, binQ, chk, apartF, List.contains_cons, List.contains_nil, Bool.or_false, Bool.false_or, Bool.and_self, resQ, resV, resT, pickV, evCallT, evCall, fnOf, viewsT, viewT, evInt2, evEq, eqV, eqK, eqC1, buildQ, buildT, buildRQ, buildRT, lens_I, lensA_I, lens_Rat, lensA_Rat, lens_Loc, lensA_Loc, lens_Act, lensA_Act, lens_Step, lensA_Step, lens_Stamp, lensA_Stamp, List.mem_cons, List.not_mem_nil, or_false, forall_eq, putRow, dcells, get_nil, RetS, RetF, RetD, AV.frz, AV.frzL, AV.freshP, AV.freshL, DV.less, scal_int, scal_bool, scal_nil, scal_rowI, scal_rowRat, scal_rowStep, Option.some.injEq, AV.tup.injEq, AV.agg.injEq, List.cons.injEq, DV.list.injEq, List.isEmpty_nil, Nat.le_refl, AV.d.injEq, DV.int.injEq, DV.bool.injEq, ↓reduceIte, Nat.reduceEqDiff, Nat.reduceAdd, Nat.reduceBEq, List.length_cons, List.length_nil, List.replicate_succ, List.replicate_zero, List.nil_append, List.cons_append, List.append_nil, List.foldl_cons, List.foldl_nil, List.map_cons, List.map_nil, List.all_cons, List.all_nil, List.set_cons_zero, List.set_cons_succ, List.getD_cons_zero, List.getD_cons_succ, List.drop_zero, List.drop_succ_cons, List.take_succ_cons, List.take_zero, List.flatten_cons, List.flatten_nil, Bool.true_and, Bool.and_true, Bool.not_true, Bool.not_false, true_and, and_true, true_or, or_true, Option.bind_some, Option.map_some, decide_true, decide_false, beq_self_eq_true, true_implies, false_implies, implies_true, not_true_eq_false, not_false_eq_true, and_self, Bool.and_false, Bool.false_and, Nat.reduceLT, Nat.reduceLeDiff, List.reverse_cons, List.reverse_nil, Nat.zero_add, Nat.add_zero, Bool.false_eq_true, List.getElem?_cons_zero, Nat.reduceMul, Nat.mul_one, sp_Order, orderAV, F1, G1, at_Back]
  have hle := szR_le A
  have hl : (backG A).length = szR A := mkR_len
  have ho : orderG A = orderGo (backG A) (szR A) (szR A) 0#64 [] := rfl
  rw [hl]
  generalize hn : szR A = n at *
  generalize hB : backG A = B at *
  refine ⟨h1, ?_⟩
  refine Loop.fam [4, 5, 6, 11, 12] (ordSt A n) (fun x => x.1 ≤ n ∧ x.2.2.length = x.1 ∧ orderGo B n (n - x.1) x.2.1 x.2.2 = orderG A) (fun x => n - x.1) (0, 0#64, []) [0] (by simp) (by simp) (by
    simp only [State.can, AV.can, AV.canL, HO.can, canRows, idx, get_hit, get_next, Heap.at, Nat.reduceBEq, ↓reduceIte, Nat.reduceEqDiff, Option.getD_some, Option.map_some, List.map_cons, List.map_nil, List.getD_cons_zero, List.getD_cons_succ, ordSt, hB]; rfl) ⟨by omega, rfl, by rw [ho]; rfl⟩ ?_
  rintro ⟨i, told, out⟩ ⟨i1, i2, i3⟩
  have i1 : i ≤ n := i1
  have i2 : out.length = i := i2
  have i3 : orderGo B n (n - i) told out = orderG A := i3
  cases out with
  | nil =>
    simp only [↓vck_skip, ↓vck_ret, ↓vck_exit, ↓vck_region, ↓vck_nilq, ↓nilTo_to, nilG_d, nilG_r, ↓vck_seq, ↓vck_cond, ↓vck_block, ↓vck_loop, ↓vckTo_to, ↓thenK_n, ↓thenK_x, ↓thenK_r, ↓blockK_n, ↓blockK_x, ↓blockK_o, ↓blockK_r, ↓regK_to, ↓retK_r, ↓retK_n, ↓loopV_n, ↓loopV_x, ↓loopV_r, ↓famK_n, ↓famK_x, ↓famK_r, ↓boolK_true, ↓boolK_false, ↓boolK_not, ↓boolK_dec, ↓boolK_and, nf_mk, RGk_end_f, RGk_end_t, RGk_op, RGk_guard, opK_to, evN, evCallN, grow_mk, feet_f, feet_t, foot_mk, stepK_mk, stepK_v, stepK_no, guardG_t, guardG_f, guardG_no, condG_b, evT, Opd.ev, get_hit, get_next, app_to, app_no, app_up, app_skip, app_skipn, know_mk, knowO_t, knowO_c, envFrom, reserve, keeps, LOp.isNew, State.prune, cellsQ, cellsT, AV.leaf, Heap.at, evLoad_ptr, evLoad_dptr, loadO_vec, loadO_dvec1, stepK_load_map, idx_I, idx_W, rowW, set_rowW, app_rowW, app_rowW0, rep_rowW0, rowB, set_rowB, rep_rowB, rowN, lens_W, lensA_W, scal_rowW, default_W, w_or, w_and, w_andNot, w_and1, w_shl, w_shl1, w_shr, w_sub1, w_neg, w_add, w_bit, w_eq0, w_eq1, w_eq, Bool.decide_eq_true, idx_Rat, idx_Loc, idx_Act, idx_Step, idx_Stamp, stepK_idx_ref, evStore_ptr, storeO_vec, stepK_store_map1, loadDT_f, rowI, RatG.row, LocG.row, ActG.row, StepG.row, StampG.row, ActG.av, ActG.eta, RatG.eta, LocG.eta, beq_true, beq_false, loadDT_t, set_rowI, app_rowI, rep_rowI, set_rowRat, app_rowRat, rep_rowRat, set_rowLoc, app_rowLoc, app_rowAct, app_rowStep, List.length_set, List.length_replicate, toNat_cast, Int.reduceToNat, evLen, evAppend, srcOf, Src.all, Src.len, Src.leaf, joinV, drows_rep1, drows_rep2, drows_rep3, drows_rep4, drows_rep5, drows_rep6, drows_rep7, drows_rep8, mkVec, drows, evMk, List.length_map, take_mapF, drop_mapF, List.take_length, List.take_left, List.length_append, Nat.le_add_right, ite_self, List.take_of_length_le, evSlice, intOr, intOpd, Option.isSome_none, Option.isSome_some, Nat.sub_zero, loadQ, loadT, evBin, evUn, evIdxArr_d, evIdxArr_p, binT, binQ, chk, apartF, List.contains_cons, List.contains_nil, Bool.or_false, Bool.false_or, Bool.and_self, resQ, resV, resT, pickV, evCallT, evCall, fnOf, viewsT, viewT, evInt2, evEq, eqV, eqK, eqC1, buildQ, buildT, buildRQ, buildRT, lens_I, lensA_I, lens_Rat, lensA_Rat, lens_Loc, lensA_Loc, lens_Act, lensA_Act, lens_Step, lensA_Step, lens_Stamp, lensA_Stamp, List.mem_cons, List.not_mem_nil, or_false, forall_eq, putRow, dcells, get_nil, RetS, RetF, RetD, AV.frz, AV.frzL, AV.freshP, AV.freshL, DV.less, scal_int, scal_bool, scal_nil, scal_rowI, scal_rowRat, scal_rowStep, Option.some.injEq, AV.tup.injEq, AV.agg.injEq, List.cons.injEq, DV.list.injEq, List.isEmpty_nil, Nat.le_refl, AV.d.injEq, DV.int.injEq, DV.bool.injEq, ↓reduceIte, Nat.reduceEqDiff, Nat.reduceAdd, Nat.reduceBEq, List.length_cons, List.length_nil, List.replicate_succ, List.replicate_zero, List.nil_append, List.cons_append, List.append_nil, List.foldl_cons, List.foldl_nil, List.map_cons, List.map_nil, List.all_cons, List.all_nil, List.set_cons_zero, List.set_cons_succ, List.getD_cons_zero, List.getD_cons_succ, List.drop_zero, List.drop_succ_cons, List.take_succ_cons, List.take_zero, List.flatten_cons, List.flatten_nil, Bool.true_and, Bool.and_true, Bool.not_true, Bool.not_false, true_and, and_true, true_or, or_true, Option.bind_some, Option.map_some, decide_true, decide_false, beq_self_eq_true, true_implies, false_implies, implies_true, not_true_eq_false, not_false_eq_true, and_self, Bool.and_false, Bool.false_and, Nat.reduceLT, Nat.reduceLeDiff, List.reverse_cons, List.reverse_nil, Nat.zero_add, Nat.add_zero, Bool.false_eq_true, List.getElem?_cons_zero, Nat.reduceMul, Nat.mul_one, ordSt, F1, G1, at_Back, hB]
    refine ⟨fun c => ?_, fun c => ?_⟩
    · have c' : i < n := by omega
      obtain ⟨d, hd⟩ : ∃ d, n - i = d + 1 := ⟨n - i - 1, by omega⟩
      rw [hd] at i3
      simp only [orderGo] at i3
      refine Loop.fam [4, 5, 6, 7, 11, 12] (fun a : Nat => ⟨[(4, .ref 0 1 0 n true), (5, .d (.list [] true)), (6, .d (.int .u64 (told.toNat : Int))), (7, .d (.int .i64 a)), (11, .d (.int .i64 n)), (12, .d (.int .i64 i))], [.dvec 1 (B.map rowW)]⟩)
        (fun a => a ≤ n ∧ ∀ k, k < a → freeK B told k = false) (fun a => n - a) 0 [0] (by simp) (by simp) (by simp only [State.can, AV.can, AV.canL, HO.can, canRows, idx, get_hit, get_next, Heap.at, Nat.reduceBEq, ↓reduceIte, Nat.reduceEqDiff, Option.getD_some, Option.map_some, List.map_cons, List.map_nil, List.getD_cons_zero, List.getD_cons_succ]; rfl) ⟨by omega, fun k hk => by omega⟩ ?_
      rintro a ⟨a1, a2⟩
      simp only [↓vck_skip, ↓vck_ret, ↓vck_exit, ↓vck_region, ↓vck_nilq, ↓nilTo_to, nilG_d, nilG_r, ↓vck_seq, ↓vck_cond, ↓vck_block, ↓vck_loop, ↓vckTo_to, ↓thenK_n, ↓thenK_x, ↓thenK_r, ↓blockK_n, ↓blockK_x, ↓blockK_o, ↓blockK_r, ↓regK_to, ↓retK_r, ↓retK_n, ↓loopV_n, ↓loopV_x, ↓loopV_r, ↓famK_n, ↓famK_x, ↓famK_r, ↓boolK_true, ↓boolK_false, ↓boolK_not, ↓boolK_dec, ↓boolK_and, nf_mk, RGk_end_f, RGk_end_t, RGk_op, RGk_guard, opK_to, evN, evCallN, grow_mk, feet_f, feet_t, foot_mk, stepK_mk, stepK_v, stepK_no, guardG_t, guardG_f, guardG_no, condG_b, evT, Opd.ev, get_hit, get_next, app_to, app_no, app_up, app_skip, app_skipn, know_mk, knowO_t, knowO_c, envFrom, reserve, keeps, LOp.isNew, State.prune, cellsQ, cellsT, AV.leaf, Heap.at, evLoad_ptr, evLoad_dptr, loadO_vec, loadO_dvec1, stepK_load_map, idx_I, idx_W, rowW, set_rowW, app_rowW, app_rowW0, rep_rowW0, rowB, set_rowB, rep_rowB, rowN, lens_W, lensA_W, scal_rowW, default_W, w_or, w_and, w_andNot, w_and1, w_shl, w_shl1, w_shr, w_sub1, w_neg, w_add, w_bit, w_eq0, w_eq1, w_eq, Bool.decide_eq_true, idx_Rat, idx_Loc, idx_Act, idx_Step, idx_Stamp, stepK_idx_ref, evStore_ptr, storeO_vec, stepK_store_map1, loadDT_f, rowI, RatG.row, LocG.row, ActG.row, StepG.row, StampG.row, ActG.av, ActG.eta, RatG.eta, LocG.eta, beq_true, beq_false, loadDT_t, set_rowI, app_rowI, rep_rowI, set_rowRat, app_rowRat, rep_rowRat, set_rowLoc, app_rowLoc, app_rowAct, app_rowStep, List.length_set, List.length_replicate, toNat_cast, Int.reduceToNat, evLen, evAppend, srcOf, Src.all, Src.len, Src.leaf, joinV, drows_rep1, drows_rep2, drows_rep3, drows_rep4, drows_rep5, drows_rep6, drows_rep7, drows_rep8, mkVec, drows, evMk, List.length_map, take_mapF, drop_mapF, List.take_length, List.take_left, List.length_append, Nat.le_add_right, ite_self, List.take_of_length_le, evSlice, intOr, intOpd, Option.isSome_none, Option.isSome_some, Nat.sub_zero, loadQ, loadT, evBin, evUn, evIdxArr_d, evIdxArr_p, binT, binQ, chk, apartF, List.contains_cons, List.contains_nil, Bool.or_false, Bool.false_or, Bool.and_self, resQ, resV, resT, pickV, evCallT, evCall, fnOf, viewsT, viewT, evInt2, evEq, eqV, eqK, eqC1, buildQ, buildT, buildRQ, buildRT, lens_I, lensA_I, lens_Rat, lensA_Rat, lens_Loc, lensA_Loc, lens_Act, lensA_Act, lens_Step, lensA_Step, lens_Stamp, lensA_Stamp, List.mem_cons, List.not_mem_nil, or_false, forall_eq, putRow, dcells, get_nil, RetS, RetF, RetD, AV.frz, AV.frzL, AV.freshP, AV.freshL, DV.less, scal_int, scal_bool, scal_nil, scal_rowI, scal_rowRat, scal_rowStep, Option.some.injEq, AV.tup.injEq, AV.agg.injEq, List.cons.injEq, DV.list.injEq, List.isEmpty_nil, Nat.le_refl, AV.d.injEq, DV.int.injEq, DV.bool.injEq, ↓reduceIte, Nat.reduceEqDiff, Nat.reduceAdd, Nat.reduceBEq, List.length_cons, List.length_nil, List.replicate_succ, List.replicate_zero, List.nil_append, List.cons_append, List.append_nil, List.foldl_cons, List.foldl_nil, List.map_cons, List.map_nil, List.all_cons, List.all_nil, List.set_cons_zero, List.set_cons_succ, List.getD_cons_zero, List.getD_cons_succ, List.drop_zero, List.drop_succ_cons, List.take_succ_cons, List.take_zero, List.flatten_cons, List.flatten_nil, Bool.true_and, Bool.and_true, Bool.not_true, Bool.not_false, true_and, and_true, true_or, or_true, Option.bind_some, Option.map_some, decide_true, decide_false, beq_self_eq_true, true_implies, false_implies, implies_true, not_true_eq_false, not_false_eq_true, and_self, Bool.and_false, Bool.false_and, Nat.reduceLT, Nat.reduceLeDiff, List.reverse_cons, List.reverse_nil, Nat.zero_add, Nat.add_zero, Bool.false_eq_true, List.getElem?_cons_zero, Nat.reduceMul, Nat.mul_one, hl]
      have fr : freeK B told a = (!told.getLsbD a && decide (B.getD a 0#64 &&& ~~~told = 0#64)) := rfl
      have fin : (a = n ∨ freeK B told a = true) → freeAt B n told = a := freeAt_eq a1 a2
      refine ⟨fun g => ?_, fun g => ?_⟩
      · have g' : a < n := by omega
        simp only [wrapU (k := a) (by omega), wrap_succ g' (by unfold maxLen; omega), toNat_cast, w_shr, w_eq1, w_bit, Bool.decide_eq_true]
        generalize B.getD a 0#64 &&& ~~~told = z at *
        have next : freeK B told a = false → ∀ k, k < a + 1 → freeK B told k = false := fun h k hk => by
          by_cases e1 : k = a
          · subst e1; exact h
          · exact a2 k (by omega)
        refine ⟨by omega, fun hb => ?_, fun hb => ⟨by omega, by omega, fun hz => ⟨fun e1 => absurd e1 (by omega), fun _ => ⟨by omega, roomy_of (by simp at i2; omega) (by omega), ?_⟩⟩, fun hz => ?_⟩⟩
        · exact FamNext.mk [0] (a + 1) (by simp) (by simp) (by simp only [State.can, AV.can, AV.canL, HO.can, canRows, idx, get_hit, get_next, Heap.at, Nat.reduceBEq, ↓reduceIte, Nat.reduceEqDiff, Option.getD_some, Option.map_some, List.map_cons, List.map_nil, List.getD_cons_zero, List.getD_cons_succ]) ⟨by omega, next (by rw [fr, hb]; rfl)⟩ (by omega)
        · have hf := fin (.inr (by rw [fr, hb, hz]; rfl))
          rw [hf, if_neg (by omega : ¬ a = n)] at i3
          rw [wrap_succ c' (by unfold maxLen; omega)]
          exact FamNext.mk [0, 2] (i + 1, told ||| 1#64 <<< a, [(a : Int)]) (by simp) (by simp) (by simp only [State.can, AV.can, AV.canL, HO.can, canRows, idx, get_hit, get_next, Heap.at, Nat.reduceBEq, ↓reduceIte, Nat.reduceEqDiff, Option.getD_some, Option.map_some, List.map_cons, List.map_nil, List.getD_cons_zero, List.getD_cons_succ, ordSt, hB]; rfl)
            ⟨by show i + 1 ≤ n; omega, by simp at i2 ⊢; omega, by show orderGo B n (n - (i + 1)) _ _ = _; rw [show n - (i + 1) = d by omega]; exact i3⟩ (by show n - (i + 1) < n - i; omega)
        · exact FamNext.mk [0] (a + 1) (by simp) (by simp) (by simp only [State.can, AV.can, AV.canL, HO.can, canRows, idx, get_hit, get_next, Heap.at, Nat.reduceBEq, ↓reduceIte, Nat.reduceEqDiff, Option.getD_some, Option.map_some, List.map_cons, List.map_nil, List.getD_cons_zero, List.getD_cons_succ]) ⟨by omega, next (by rw [fr]; simp [hz])⟩ (by omega)
      · have hf := fin (.inl (by omega))
        rw [hf, if_pos (by omega : a = n)] at i3
        rw [← i3]
        refine ⟨fun _ => ⟨rfl, rfl⟩, fun e1 => absurd (by omega) e1⟩
    · have : i = n := by omega
      subst this
      rw [Nat.sub_self] at i3
      simp only [orderGo] at i3
      rw [← i3]
      exact ⟨rfl, rfl⟩
  | cons o os =>
    simp only [↓vck_skip, ↓vck_ret, ↓vck_exit, ↓vck_region, ↓vck_nilq, ↓nilTo_to, nilG_d, nilG_r, ↓vck_seq, ↓vck_cond, ↓vck_block, ↓vck_loop, ↓vckTo_to, ↓thenK_n, ↓thenK_x, ↓thenK_r, ↓blockK_n, ↓blockK_x, ↓blockK_o, ↓blockK_r, ↓regK_to, ↓retK_r, ↓retK_n, ↓loopV_n, ↓loopV_x, ↓loopV_r, ↓famK_n, ↓famK_x, ↓famK_r, ↓boolK_true, ↓boolK_false, ↓boolK_not, ↓boolK_dec, ↓boolK_and, nf_mk, RGk_end_f, RGk_end_t, RGk_op, RGk_guard, opK_to, evN, evCallN, grow_mk, feet_f, feet_t, foot_mk, stepK_mk, stepK_v, stepK_no, guardG_t, guardG_f, guardG_no, condG_b, evT, Opd.ev, get_hit, get_next, app_to, app_no, app_up, app_skip, app_skipn, know_mk, knowO_t, knowO_c, envFrom, reserve, keeps, LOp.isNew, State.prune, cellsQ, cellsT, AV.leaf, Heap.at, evLoad_ptr, evLoad_dptr, loadO_vec, loadO_dvec1, stepK_load_map, idx_I, idx_W, rowW, set_rowW, app_rowW, app_rowW0, rep_rowW0, rowB, set_rowB, rep_rowB, rowN, lens_W, lensA_W, scal_rowW, default_W, w_or, w_and, w_andNot, w_and1, w_shl, w_shl1, w_shr, w_sub1, w_neg, w_add, w_bit, w_eq0, w_eq1, w_eq, Bool.decide_eq_true, idx_Rat, idx_Loc, idx_Act, idx_Step, idx_Stamp, stepK_idx_ref, evStore_ptr, storeO_vec, stepK_store_map1, loadDT_f, rowI, RatG.row, LocG.row, ActG.row, StepG.row, StampG.row, ActG.av, ActG.eta, RatG.eta, LocG.eta, beq_true, beq_false, loadDT_t, set_rowI, app_rowI, rep_rowI, set_rowRat, app_rowRat, rep_rowRat, set_rowLoc, app_rowLoc, app_rowAct, app_rowStep, List.length_set, List.length_replicate, toNat_cast, Int.reduceToNat, evLen, evAppend, srcOf, Src.all, Src.len, Src.leaf, joinV, drows_rep1, drows_rep2, drows_rep3, drows_rep4, drows_rep5, drows_rep6, drows_rep7, drows_rep8, mkVec, drows, evMk, List.length_map, take_mapF, drop_mapF, List.take_length, List.take_left, List.length_append, Nat.le_add_right, ite_self, List.take_of_length_le, evSlice, intOr, intOpd, Option.isSome_none, Option.isSome_some, Nat.sub_zero, loadQ, loadT, evBin, evUn, evIdxArr_d, evIdxArr_p, binT, binQ, chk, apartF, List.contains_cons, List.contains_nil, Bool.or_false, Bool.false_or, Bool.and_self, resQ, resV, resT, pickV, evCallT, evCall, fnOf, viewsT, viewT, evInt2, evEq, eqV, eqK, eqC1, buildQ, buildT, buildRQ, buildRT, lens_I, lensA_I, lens_Rat, lensA_Rat, lens_Loc, lensA_Loc, lens_Act, lensA_Act, lens_Step, lensA_Step, lens_Stamp, lensA_Stamp, List.mem_cons, List.not_mem_nil, or_false, forall_eq, putRow, dcells, get_nil, RetS, RetF, RetD, AV.frz, AV.frzL, AV.freshP, AV.freshL, DV.less, scal_int, scal_bool, scal_nil, scal_rowI, scal_rowRat, scal_rowStep, Option.some.injEq, AV.tup.injEq, AV.agg.injEq, List.cons.injEq, DV.list.injEq, List.isEmpty_nil, Nat.le_refl, AV.d.injEq, DV.int.injEq, DV.bool.injEq, ↓reduceIte, Nat.reduceEqDiff, Nat.reduceAdd, Nat.reduceBEq, List.length_cons, List.length_nil, List.replicate_succ, List.replicate_zero, List.nil_append, List.cons_append, List.append_nil, List.foldl_cons, List.foldl_nil, List.map_cons, List.map_nil, List.all_cons, List.all_nil, List.set_cons_zero, List.set_cons_succ, List.getD_cons_zero, List.getD_cons_succ, List.drop_zero, List.drop_succ_cons, List.take_succ_cons, List.take_zero, List.flatten_cons, List.flatten_nil, Bool.true_and, Bool.and_true, Bool.not_true, Bool.not_false, true_and, and_true, true_or, or_true, Option.bind_some, Option.map_some, decide_true, decide_false, beq_self_eq_true, true_implies, false_implies, implies_true, not_true_eq_false, not_false_eq_true, and_self, Bool.and_false, Bool.false_and, Nat.reduceLT, Nat.reduceLeDiff, List.reverse_cons, List.reverse_nil, Nat.zero_add, Nat.add_zero, Bool.false_eq_true, List.getElem?_cons_zero, Nat.reduceMul, Nat.mul_one, ordSt, F1, G1, at_Back, hB]
    refine ⟨fun c => ?_, fun c => ?_⟩
    · have c' : i < n := by omega
      obtain ⟨d, hd⟩ : ∃ d, n - i = d + 1 := ⟨n - i - 1, by omega⟩
      rw [hd] at i3
      simp only [orderGo] at i3
      refine Loop.fam [4, 5, 6, 7, 11, 12] (fun a : Nat => ⟨[(4, .ref 0 1 0 n true), (5, .ref 1 1 0 (os.length + 1) true), (6, .d (.int .u64 (told.toNat : Int))), (7, .d (.int .i64 a)), (11, .d (.int .i64 n)), (12, .d (.int .i64 i))], [.dvec 1 (B.map rowW), .dvec 1 ((o :: os).map rowI)]⟩)
        (fun a => a ≤ n ∧ ∀ k, k < a → freeK B told k = false) (fun a => n - a) 0 [0, 1] (by simp) (by simp) (by simp only [State.can, AV.can, AV.canL, HO.can, canRows, idx, get_hit, get_next, Heap.at, Nat.reduceBEq, ↓reduceIte, Nat.reduceEqDiff, Option.getD_some, Option.map_some, List.map_cons, List.map_nil, List.getD_cons_zero, List.getD_cons_succ]; rfl) ⟨by omega, fun k hk => by omega⟩ ?_
      rintro a ⟨a1, a2⟩
      simp only [↓vck_skip, ↓vck_ret, ↓vck_exit, ↓vck_region, ↓vck_nilq, ↓nilTo_to, nilG_d, nilG_r, ↓vck_seq, ↓vck_cond, ↓vck_block, ↓vck_loop, ↓vckTo_to, ↓thenK_n, ↓thenK_x, ↓thenK_r, ↓blockK_n, ↓blockK_x, ↓blockK_o, ↓blockK_r, ↓regK_to, ↓retK_r, ↓retK_n, ↓loopV_n, ↓loopV_x, ↓loopV_r, ↓famK_n, ↓famK_x, ↓famK_r, ↓boolK_true, ↓boolK_false, ↓boolK_not, ↓boolK_dec, ↓boolK_and, nf_mk, RGk_end_f, RGk_end_t, RGk_op, RGk_guard, opK_to, evN, evCallN, grow_mk, feet_f, feet_t, foot_mk, stepK_mk, stepK_v, stepK_no, guardG_t, guardG_f, guardG_no, condG_b, evT, Opd.ev, get_hit, get_next, app_to, app_no, app_up, app_skip, app_skipn, know_mk, knowO_t, knowO_c, envFrom, reserve, keeps, LOp.isNew, State.prune, cellsQ, cellsT, AV.leaf, Heap.at, evLoad_ptr, evLoad_dptr, loadO_vec, loadO_dvec1, stepK_load_map, idx_I, idx_W, rowW, set_rowW, app_rowW, app_rowW0, rep_rowW0, rowB, set_rowB, rep_rowB, rowN, lens_W, lensA_W, scal_rowW, default_W, w_or, w_and, w_andNot, w_and1, w_shl, w_shl1, w_shr, w_sub1, w_neg, w_add, w_bit, w_eq0, w_eq1, w_eq, Bool.decide_eq_true, idx_Rat, idx_Loc, idx_Act, idx_Step, idx_Stamp, stepK_idx_ref, evStore_ptr, storeO_vec, stepK_store_map1, loadDT_f, rowI, RatG.row, LocG.row, ActG.row, StepG.row, StampG.row, ActG.av, ActG.eta, RatG.eta, LocG.eta, beq_true, beq_false, loadDT_t, set_rowI, app_rowI, rep_rowI, set_rowRat, app_rowRat, rep_rowRat, set_rowLoc, app_rowLoc, app_rowAct, app_rowStep, List.length_set, List.length_replicate, toNat_cast, Int.reduceToNat, evLen, evAppend, srcOf, Src.all, Src.len, Src.leaf, joinV, drows_rep1, drows_rep2, drows_rep3, drows_rep4, drows_rep5, drows_rep6, drows_rep7, drows_rep8, mkVec, drows, evMk, List.length_map, take_mapF, drop_mapF, List.take_length, List.take_left, List.length_append, Nat.le_add_right, ite_self, List.take_of_length_le, evSlice, intOr, intOpd, Option.isSome_none, Option.isSome_some, Nat.sub_zero, loadQ, loadT, evBin, evUn, evIdxArr_d, evIdxArr_p, binT, binQ, chk, apartF, List.contains_cons, List.contains_nil, Bool.or_false, Bool.false_or, Bool.and_self, resQ, resV, resT, pickV, evCallT, evCall, fnOf, viewsT, viewT, evInt2, evEq, eqV, eqK, eqC1, buildQ, buildT, buildRQ, buildRT, lens_I, lensA_I, lens_Rat, lensA_Rat, lens_Loc, lensA_Loc, lens_Act, lensA_Act, lens_Step, lensA_Step, lens_Stamp, lensA_Stamp, List.mem_cons, List.not_mem_nil, or_false, forall_eq, putRow, dcells, get_nil, RetS, RetF, RetD, AV.frz, AV.frzL, AV.freshP, AV.freshL, DV.less, scal_int, scal_bool, scal_nil, scal_rowI, scal_rowRat, scal_rowStep, Option.some.injEq, AV.tup.injEq, AV.agg.injEq, List.cons.injEq, DV.list.injEq, List.isEmpty_nil, Nat.le_refl, AV.d.injEq, DV.int.injEq, DV.bool.injEq, ↓reduceIte, Nat.reduceEqDiff, Nat.reduceAdd, Nat.reduceBEq, List.length_cons, List.length_nil, List.replicate_succ, List.replicate_zero, List.nil_append, List.cons_append, List.append_nil, List.foldl_cons, List.foldl_nil, List.map_cons, List.map_nil, List.all_cons, List.all_nil, List.set_cons_zero, List.set_cons_succ, List.getD_cons_zero, List.getD_cons_succ, List.drop_zero, List.drop_succ_cons, List.take_succ_cons, List.take_zero, List.flatten_cons, List.flatten_nil, Bool.true_and, Bool.and_true, Bool.not_true, Bool.not_false, true_and, and_true, true_or, or_true, Option.bind_some, Option.map_some, decide_true, decide_false, beq_self_eq_true, true_implies, false_implies, implies_true, not_true_eq_false, not_false_eq_true, and_self, Bool.and_false, Bool.false_and, Nat.reduceLT, Nat.reduceLeDiff, List.reverse_cons, List.reverse_nil, Nat.zero_add, Nat.add_zero, Bool.false_eq_true, List.getElem?_cons_zero, Nat.reduceMul, Nat.mul_one, hl]
      have fr : freeK B told a = (!told.getLsbD a && decide (B.getD a 0#64 &&& ~~~told = 0#64)) := rfl
      have fin : (a = n ∨ freeK B told a = true) → freeAt B n told = a := freeAt_eq a1 a2
      refine ⟨fun g => ?_, fun g => ?_⟩
      · have g' : a < n := by omega
        simp only [wrapU (k := a) (by omega), wrap_succ g' (by unfold maxLen; omega), toNat_cast, w_shr, w_eq1, w_bit, Bool.decide_eq_true]
        generalize B.getD a 0#64 &&& ~~~told = z at *
        have next : freeK B told a = false → ∀ k, k < a + 1 → freeK B told k = false := fun h k hk => by
          by_cases e1 : k = a
          · subst e1; exact h
          · exact a2 k (by omega)
        refine ⟨by omega, fun hb => ?_, fun hb => ⟨by omega, by omega, fun hz => ⟨fun e1 => absurd e1 (by omega), fun _ => ⟨by omega, roomy_of (by simp at i2; omega) (by omega), ?_⟩⟩, fun hz => ?_⟩⟩
        · exact FamNext.mk [0, 1] (a + 1) (by simp) (by simp) (by simp only [State.can, AV.can, AV.canL, HO.can, canRows, idx, get_hit, get_next, Heap.at, Nat.reduceBEq, ↓reduceIte, Nat.reduceEqDiff, Option.getD_some, Option.map_some, List.map_cons, List.map_nil, List.getD_cons_zero, List.getD_cons_succ]) ⟨by omega, next (by rw [fr, hb]; rfl)⟩ (by omega)
        · have hf := fin (.inr (by rw [fr, hb, hz]; rfl))
          rw [hf, if_neg (by omega : ¬ a = n)] at i3
          rw [wrap_succ c' (by unfold maxLen; omega)]
          exact FamNext.mk [0, 3] (i + 1, told ||| 1#64 <<< a, o :: (os ++ [(a : Int)])) (by simp) (by simp) (by simp only [State.can, AV.can, AV.canL, HO.can, canRows, idx, get_hit, get_next, Heap.at, Nat.reduceBEq, ↓reduceIte, Nat.reduceEqDiff, Option.getD_some, Option.map_some, List.map_cons, List.map_nil, List.getD_cons_zero, List.getD_cons_succ, ordSt, hB]; simp [rowI])
            ⟨by show i + 1 ≤ n; omega, by simp at i2 ⊢; omega, by show orderGo B n (n - (i + 1)) _ _ = _; rw [show n - (i + 1) = d by omega]; exact i3⟩ (by show n - (i + 1) < n - i; omega)
        · exact FamNext.mk [0, 1] (a + 1) (by simp) (by simp) (by simp only [State.can, AV.can, AV.canL, HO.can, canRows, idx, get_hit, get_next, Heap.at, Nat.reduceBEq, ↓reduceIte, Nat.reduceEqDiff, Option.getD_some, Option.map_some, List.map_cons, List.map_nil, List.getD_cons_zero, List.getD_cons_succ]) ⟨by omega, next (by rw [fr]; simp [hz])⟩ (by omega)
      · have hf := fin (.inl (by omega))
        rw [hf, if_pos (by omega : a = n)] at i3
        rw [← i3]
        refine ⟨fun _ => ⟨rfl, rfl⟩, fun e1 => absurd (by omega) e1⟩
    · have : i = n := by omega
      subst this
      rw [Nat.sub_self] at i3
      simp only [orderGo] at i3
      rw [← i3]
      exact ⟨⟨rfl, rfl⟩, fun r hr x hx => (scal_rowI (l := o :: os)).2 trivial r (by
        rw [List.map_cons]
        rcases hr with rfl | hr
        · exact List.mem_cons_self
        · exact List.mem_cons_of_mem _ hr) x hx⟩
end Go.Ago

/- Contracts of the reference of layer 2: its small functions, Put, Of, Lay, Then, Back. Conditions: none. -/
set_option maxRecDepth 100000
set_option linter.unusedSimpArgs false
set_option linter.unusedVariables false
namespace Go.Ago

theorem body_ref02_Size {T : Tab} : sp_size.Body T V_ref02_Size L_ref02_Size R_ref02_Size := by
  rintro ⟨l, f⟩ h
  refine .inl ⟨rfl, ?_⟩
  unfold V_ref02_Size L_ref02_Size R_ref02_Size
  simp only [↓vck_skip, ↓vck_ret, ↓vck_exit, ↓vck_region, ↓vck_nilq, ↓nilTo_to, nilG_d, nilG_r, ↓vck_seq, ↓vck_cond, ↓vck_block, ↓vck_loop, ↓vckTo_to, ↓thenK_n, ↓thenK_x, ↓thenK_r, ↓blockK_n, ↓blockK_x, ↓blockK_o, ↓blockK_r, ↓regK_to, ↓retK_r, ↓retK_n, ↓loopV_n, ↓loopV_x, ↓loopV_r, ↓famK_n, ↓famK_x, ↓famK_r, ↓boolK_true, ↓boolK_false, ↓boolK_not, ↓boolK_dec, ↓boolK_and, nf_mk, RGk_end_f, RGk_end_t, RGk_op, RGk_guard, opK_to, evN, evCallN, grow_mk, feet_f, feet_t, foot_mk, stepK_mk, stepK_v, stepK_no, guardG_t, guardG_f, guardG_no, condG_b, evT, Opd.ev, get_hit, get_next, app_to, app_no, app_up, app_skip, app_skipn, know_mk, knowO_t, knowO_c, envFrom, reserve, keeps, LOp.isNew, State.prune, cellsQ, cellsT, AV.leaf, Heap.at, evLoad_ptr, evLoad_dptr, loadO_vec, loadO_dvec1, stepK_load_map, idx_I, idx_W, rowW, set_rowW, app_rowW, app_rowW0, rep_rowW0, rowB, set_rowB, rep_rowB, rowN, lens_W, lensA_W, scal_rowW, default_W, w_or, w_and, w_andNot, w_and1, w_shl, w_shl1, w_shr, w_sub1, w_neg, w_add, w_bit, w_eq0, w_eq1, w_eq, Bool.decide_eq_true, idx_Rat, idx_Loc, idx_Act, idx_Step, idx_Stamp, stepK_idx_ref, evStore_ptr, storeO_vec, stepK_store_map1, loadDT_f, rowI, RatG.row, LocG.row, ActG.row, StepG.row, StampG.row, ActG.av, ActG.eta, RatG.eta, LocG.eta, beq_true, beq_false, loadDT_t, set_rowI, app_rowI, rep_rowI, set_rowRat, app_rowRat, rep_rowRat, set_rowLoc, app_rowLoc, app_rowAct, app_rowStep, List.length_set, List.length_replicate, toNat_cast, Int.reduceToNat, evLen, evAppend, srcOf, Src.all, Src.len, Src.leaf, joinV, drows_rep1, drows_rep2, drows_rep3, drows_rep4, drows_rep5, drows_rep6, drows_rep7, drows_rep8, mkVec, drows, evMk, List.length_map, take_mapF, drop_mapF, List.take_length, List.take_left, List.length_append, Nat.le_add_right, ite_self, List.take_of_length_le, evSlice, intOr, intOpd, Option.isSome_none, Option.isSome_some, Nat.sub_zero, loadQ, loadT, evBin, evUn, evIdxArr_d, evIdxArr_p, binT, binQ, chk, apartF, List.contains_cons, List.contains_nil, Bool.or_false, Bool.false_or, Bool.and_self, resQ, resV, resT, pickV, evCallT, evCall, fnOf, viewsT, viewT, evInt2, evEq, eqV, eqK, eqC1, buildQ, buildT, buildRQ, buildRT, lens_I, lensA_I, lens_Rat, lensA_Rat, lens_Loc, lensA_Loc, lens_Act, lensA_Act, lens_Step, lensA_Step, lens_Stamp, lensA_Stamp, List.mem_cons, List.not_mem_nil, or_false, forall_eq, putRow, dcells, get_nil, RetS, RetF, RetD, AV.frz, AV.frzL, AV.freshP, AV.freshL, DV.less, scal_int, scal_bool, scal_nil, scal_rowI, scal_rowRat, scal_rowStep, Option.some.injEq, AV.tup.injEq, AV.agg.injEq, List.cons.injEq, DV.list.injEq, List.isEmpty_nil, Nat.le_refl, AV.d.injEq, DV.int.injEq, DV.bool.injEq, ↓reduceIte, Nat.reduceEqDiff, Nat.reduceAdd, Nat.reduceBEq, List.length_cons, List.length_nil, List.replicate_succ, List.replicate_zero, List.nil_append, List.cons_append, List.append_nil, List.foldl_cons, List.foldl_nil, List.map_cons, List.map_nil, List.all_cons, List.all_nil, List.set_cons_zero, List.set_cons_succ, List.getD_cons_zero, List.getD_cons_succ, List.drop_zero, List.drop_succ_cons, List.take_succ_cons, List.take_zero, List.flatten_cons, List.flatten_nil, Bool.true_and, Bool.and_true, Bool.not_true, Bool.not_false, true_and, and_true, true_or, or_true, Option.bind_some, Option.map_some, decide_true, decide_false, beq_self_eq_true, true_implies, false_implies, implies_true, not_true_eq_false, not_false_eq_true, and_self, Bool.and_false, Bool.false_and, Nat.reduceLT, Nat.reduceLeDiff, List.reverse_cons, List.reverse_nil, Nat.zero_add, Nat.add_zero, Bool.false_eq_true, List.getElem?_cons_zero, Nat.reduceMul, Nat.mul_one, sp_size]
  unfold szR
  refine ⟨fun h => by omega, fun h => by omega⟩

theorem one_shl_nat {k : Nat} (h : k < 64) : (1#64 <<< k).toNat = 2 ^ k := by
  rw [BitVec.toNat_shiftLeft, Nat.shiftLeft_eq]
  have : 2 ^ k < 2 ^ 64 := Nat.pow_lt_pow_right (by omega) h
  have e1 : (1#64).toNat = 1 := rfl
  rw [e1, Nat.one_mul]; exact Nat.mod_eq_of_lt this
theorem one_shl_ne {k : Nat} (h : k < 64) : ¬ (1#64 <<< k = 0#64) := fun e => by
  have := congrArg BitVec.toNat e
  rw [one_shl_nat h] at this
  have h2 : 0 < 2 ^ k := Nat.pow_pos (by omega)
  have h3 : (0#64).toNat = 0 := rfl
  omega
theorem has_quo {x : W} {k : Nat} (h : k < 64) : (Int.tmod (IntKind.u64.wrap (Int.tdiv (x.toNat : Int) ((1#64 <<< k).toNat : Int))) 2 = 1) = (x.getLsbD k = true) := by
  rw [one_shl_nat h, ← Int.ofNat_tdiv, wrapU (Nat.lt_of_le_of_lt (Nat.div_le_self _ _) (wlt x))]
  have e2 : Int.tmod ((x.toNat / 2 ^ k : Nat) : Int) 2 = ((x.toNat / 2 ^ k % 2 : Nat) : Int) := by
    generalize x.toNat / 2 ^ k = m
    rw [Int.tmod_eq_emod_of_nonneg (by omega)]; omega
  rw [e2]
  apply propext
  rw [show x.getLsbD k = x.toNat.testBit k from rfl, Nat.testBit_eq_decide_div_mod_eq, decide_eq_true_eq]
  omega
theorem body_ref02_Has {T : Tab} {n1 : Nat} (k1 : Knows T n1 sp_size) : sp_Has.Body T V_ref02_Has (L_ref02_Has n1) R_ref02_Has := by
  have F1 := k1.F; have G1 := k1.G
  rintro ⟨l, f, i, k⟩ h2
  have h2 : l.length ≤ maxLen := h2
  have := szR_le l
  have := szR_len l
  refine .inl ⟨rfl, ?_⟩
  unfold V_ref02_Has L_ref02_Has R_ref02_Has
  simp only [↓vck_skip, ↓vck_ret, ↓vck_exit, ↓vck_region, ↓vck_nilq, ↓nilTo_to, nilG_d, nilG_r, ↓vck_seq, ↓vck_cond, ↓vck_block, ↓vck_loop, ↓vckTo_to, ↓thenK_n, ↓thenK_x, ↓thenK_r, ↓blockK_n, ↓blockK_x, ↓blockK_o, ↓blockK_r, ↓regK_to, ↓retK_r, ↓retK_n, ↓loopV_n, ↓loopV_x, ↓loopV_r, ↓famK_n, ↓famK_x, ↓famK_r, ↓boolK_true, ↓boolK_false, ↓boolK_not, ↓boolK_dec, ↓boolK_and, nf_mk, RGk_end_f, RGk_end_t, RGk_op, RGk_guard, opK_to, evN, evCallN, grow_mk, feet_f, feet_t, foot_mk, stepK_mk, stepK_v, stepK_no, guardG_t, guardG_f, guardG_no, condG_b, evT, Opd.ev, get_hit, get_next, app_to, app_no, app_up, app_skip, app_skipn, know_mk, knowO_t, knowO_c, envFrom, reserve, keeps, LOp.isNew, State.prune, cellsQ, cellsT, AV.leaf, Heap.at, evLoad_ptr, evLoad_dptr, loadO_vec, loadO_dvec1, stepK_load_map, idx_I, idx_W, rowW, set_rowW, app_rowW, app_rowW0, rep_rowW0, rowB, set_rowB, rep_rowB, rowN, lens_W, lensA_W, scal_rowW, default_W, w_or, w_and, w_andNot, w_and1, w_shl, w_shl1, w_shr, w_sub1, w_neg, w_add, w_bit, w_eq0, w_eq1, w_eq, Bool.decide_eq_true, idx_Rat, idx_Loc, idx_Act, idx_Step, idx_Stamp, stepK_idx_ref, evStore_ptr, storeO_vec, stepK_store_map1, loadDT_f, rowI, RatG.row, LocG.row, ActG.row, StepG.row, StampG.row, ActG.av, ActG.eta, RatG.eta, LocG.eta, beq_true, beq_false, loadDT_t, set_rowI, app_rowI, rep_rowI, set_rowRat, app_rowRat, rep_rowRat, set_rowLoc, app_rowLoc, app_rowAct, app_rowStep, List.length_set, List.length_replicate, toNat_cast, Int.reduceToNat, evLen, evAppend, srcOf, Src.all, Src.len, Src.leaf, joinV, drows_rep1, drows_rep2, drows_rep3, drows_rep4, drows_rep5, drows_rep6, drows_rep7, drows_rep8, mkVec, drows, evMk, List.length_map, take_mapF, drop_mapF, List.take_length, List.take_left, List.length_append, Nat.le_add_right, ite_self, List.take_of_length_le, evSlice, intOr, intOpd, Option.isSome_none, Option.isSome_some, Nat.sub_zero, loadQ, loadT, evBin, evUn, evIdxArr_d, evIdxArr_p, binT, binQ, chk, apartF, List.contains_cons, List.contains_nil, Bool.or_false, Bool.false_or, Bool.and_self, resQ, resV, resT, pickV, evCallT, evCall, fnOf, viewsT, viewT, evInt2, evEq, eqV, eqK, eqC1, buildQ, buildT, buildRQ, buildRT, lens_I, lensA_I, lens_Rat, lensA_Rat, lens_Loc, lensA_Loc, lens_Act, lensA_Act, lens_Step, lensA_Step, lens_Stamp, lensA_Stamp, List.mem_cons, List.not_mem_nil, or_false, forall_eq, putRow, dcells, get_nil, RetS, RetF, RetD, AV.frz, AV.frzL, AV.freshP, AV.freshL, DV.less, scal_int, scal_bool, scal_nil, scal_rowI, scal_rowRat, scal_rowStep, Option.some.injEq, AV.tup.injEq, AV.agg.injEq, List.cons.injEq, DV.list.injEq, List.isEmpty_nil, Nat.le_refl, AV.d.injEq, DV.int.injEq, DV.bool.injEq, ↓reduceIte, Nat.reduceEqDiff, Nat.reduceAdd, Nat.reduceBEq, List.length_cons, List.length_nil, List.replicate_succ, List.replicate_zero, List.nil_append, List.cons_append, List.append_nil, List.foldl_cons, List.foldl_nil, List.map_cons, List.map_nil, List.all_cons, List.all_nil, List.set_cons_zero, List.set_cons_succ, List.getD_cons_zero, List.getD_cons_succ, List.drop_zero, List.drop_succ_cons, List.take_succ_cons, List.take_zero, List.flatten_cons, List.flatten_nil, Bool.true_and, Bool.and_true, Bool.not_true, Bool.not_false, true_and, and_true, true_or, or_true, Option.bind_some, Option.map_some, decide_true, decide_false, beq_self_eq_true, true_implies, false_implies, implies_true, not_true_eq_false, not_false_eq_true, and_self, Bool.and_false, Bool.false_and, Nat.reduceLT, Nat.reduceLeDiff, List.reverse_cons, List.reverse_nil, Nat.zero_add, Nat.add_zero, Bool.false_eq_true, List.getElem?_cons_zero, Nat.reduceMul, Nat.mul_one, sp_Has, F1, G1, at_size]
  refine ⟨h2, fun c1 => ?_, fun c1 => ⟨fun c2 => ?_, fun c2 => ⟨fun c3 => ?_, fun c3 => ⟨fun c4 => ?_, fun c4 => ?_⟩⟩⟩⟩
  · rw [hasI_no (by omega)]
  · rw [hasI_no (by omega)]
  · rw [hasI_no (by omega)]
  · rw [hasI_no (by omega)]
  · obtain ⟨i, rfl⟩ := Int.eq_ofNat_of_zero_le (by omega : 0 ≤ i)
    obtain ⟨k, rfl⟩ := Int.eq_ofNat_of_zero_le (by omega : 0 ≤ k)
    rw [wrapU (k := k) (by omega)]
    have hk : k < 64 := by omega
    have hq : ∀ x : W, _ := fun x => has_quo (x := x) hk
    simp only [toNat_cast, w_shl1, hq, w_eq0, Bool.decide_eq_true]
    refine ⟨by omega, by omega, fun e => one_shl_ne hk (by rw [← w_eq0]; exact e), by decide, ?_⟩
    rw [hasI_nat]
    unfold hasN
    rw [decide_eq_true (by omega : i < szR l), decide_eq_true (by omega : k < szR l)]
    simp

/-! ### Put -/
def putR (R : List W) (i k : Nat) : List W := R.set i (R.getD i 0#64 ||| 1#64 <<< k)
def ef_Put : Ef where
  A := List W × Nat × Bool × Int × Int
  args := fun x id => [.ref id 1 0 x.2.1 x.2.2.1, .d (.int .i64 x.2.2.2.1), .d (.int .i64 x.2.2.2.2)]
  sz := 1
  rows := fun x => x.1.map rowW
  ok := fun x => (x.2.1 = x.1.length ∧ x.1.length ≤ 64) ∧ (0 ≤ x.2.2.2.1 ∧ x.2.2.2.1 < szR x.1) ∧ (0 ≤ x.2.2.2.2 ∧ x.2.2.2.2 < szR x.1)
  val := fun _ => .tup []
  rows' := fun x => (putR x.1 x.2.2.2.1.toNat x.2.2.2.2.toNat).map rowW
open Classical in
noncomputable def putE (o : HO) (id n : Nat) (i k : Int) : Option Eff := if h : ∃ R, o = .dvec 1 (R.map rowW) then some ⟨(n = h.choose.length ∧ h.choose.length ≤ 64) ∧ (0 ≤ i ∧ i < szR h.choose) ∧ (0 ≤ k ∧ k < szR h.choose), .tup [], [(id, .dvec 1 ((putR h.choose i.toNat k.toNat).map rowW))], []⟩ else none
theorem putE_d {R : List W} {id n : Nat} {i k : Int} : putE (.dvec 1 (R.map rowW)) id n i k = some ⟨(n = R.length ∧ R.length ≤ 64) ∧ (0 ≤ i ∧ i < szR R) ∧ (0 ≤ k ∧ k < szR R), .tup [], [(id, .dvec 1 ((putR R i.toNat k.toNat).map rowW))], []⟩ := by
  have h : ∃ R' : List W, HO.dvec 1 (R.map rowW) = .dvec 1 (R'.map rowW) := ⟨R, rfl⟩
  unfold putE
  rw [dif_pos h]
  have e : R = h.choose := by
    have h1 := h.choose_spec
    injection h1 with _ h2
    exact rows_inj rowW_inj h2
  rw [← e]
theorem at_Put {id n : Nat} {room : Bool} {i k : Int} {H : Heap} : ef_Put.at [.ref id 1 0 n room, .d (.int .i64 i), .d (.int .i64 k)] H = putE (H.at id) id n i k := by
  by_cases h : ∃ R : List W, H.at id = .dvec 1 (R.map rowW)
  · obtain ⟨R, hR⟩ := h
    rw [hR, putE_d]
    refine (Ef.at_fits (e := ef_Put) (p := ((R, n, room, i, k), id)) ?_ ⟨rfl, hR⟩).trans rfl
    · rintro ⟨⟨a, b, c, d, e⟩, p⟩ ⟨⟨a', b', c', d', e'⟩, p'⟩ args H ⟨h1, h2⟩ ⟨h3, h4⟩
      simp only [ef_Put] at h1 h2 h3 h4
      rw [← h1] at h3
      simp only [List.cons.injEq, AV.ref.injEq, AV.d.injEq, DV.int.injEq, and_true, true_and] at h3
      obtain ⟨⟨e1, e2, e3⟩, e4, e5⟩ := h3
      subst e1
      rw [h2] at h4
      simp only [HO.dvec.injEq, true_and] at h4
      rw [rows_inj rowW_inj h4, e2, e3, e4, e5]
  · have h1 : putE (H.at id) id n i k = none := by unfold putE; rw [dif_neg h]
    rw [h1]
    unfold Ef.at
    rw [dif_neg]
    rintro ⟨⟨⟨a, b, c, d, e⟩, p⟩, h2, h3⟩
    simp only [ef_Put, List.cons.injEq, AV.ref.injEq] at h2 h3
    obtain ⟨⟨rfl, -⟩, -⟩ := h2
    exact h ⟨a, h3⟩

theorem add_or {x : W} {k : Nat} (h : x.getLsbD k = false) (hk : k < 64) : x + 1#64 <<< k = x ||| 1#64 <<< k := by
  apply BitVec.add_eq_or_of_and_eq_zero
  apply W.ext
  intro j hj
  rw [BitVec.getLsbD_and, one_shl hk]
  by_cases e : k = j
  · subst e; simp [h]
  · simp [e]
theorem or_same {x : W} {k : Nat} (h : x.getLsbD k = true) (hk : k < 64) : x ||| 1#64 <<< k = x := by
  apply W.ext
  intro j hj
  rw [BitVec.getLsbD_or, one_shl hk]
  by_cases e : k = j
  · subst e; simp [h]
  · simp [e]
theorem eff_ref02_Put {T : Tab} {n1 : Nat} (k1 : Knows T n1 sp_Has) : ef_Put.Body T V_ref02_Put (L_ref02_Put n1) R_ref02_Put := by
  have F1 := k1.F; have G1 := k1.G
  refine ⟨fun x ρ => rfl, fun x ρ => rfl, ?_⟩
  rintro ⟨R, n, room, i, k⟩ ⟨⟨h1, h4⟩, h2, h3⟩
  have h1 : n = R.length := h1
  have h4 : R.length ≤ 64 := h4
  have h2 : 0 ≤ i ∧ i < szR R := h2
  have h3 : 0 ≤ k ∧ k < szR R := h3
  subst h1
  have := szR_le R
  have := szR_len R
  obtain ⟨i, rfl⟩ := Int.eq_ofNat_of_zero_le h2.1
  obtain ⟨k, rfl⟩ := Int.eq_ofNat_of_zero_le h3.1
  unfold V_ref02_Put L_ref02_Put R_ref02_Put
  simp only [↓vck_skip, ↓vck_ret, ↓vck_exit, ↓vck_region, ↓vck_nilq, ↓nilTo_to, nilG_d, nilG_r, ↓vck_seq, ↓vck_cond, ↓vck_block, ↓vck_loop, ↓vckTo_to, ↓thenK_n, ↓thenK_x, ↓thenK_r, ↓blockK_n, ↓blockK_x, ↓blockK_o, ↓blockK_r, ↓regK_to, ↓retK_r, ↓retK_n, ↓loopV_n, ↓loopV_x, ↓loopV_r, ↓famK_n, ↓famK_x, ↓famK_r, ↓boolK_true, ↓boolK_false, ↓boolK_not, ↓boolK_dec, ↓boolK_and, nf_mk, RGk_end_f, RGk_end_t, RGk_op, RGk_guard, opK_to, evN, evCallN, grow_mk, feet_f, feet_t, foot_mk, stepK_mk, stepK_v, stepK_no, guardG_t, guardG_f, guardG_no, condG_b, evT, Opd.ev, get_hit, get_next, app_to, app_no, app_up, app_skip, app_skipn, know_mk, knowO_t, knowO_c, envFrom, reserve, keeps, LOp.isNew, State.prune, cellsQ, cellsT, AV.leaf, Heap.at, evLoad_ptr, evLoad_dptr, loadO_vec, loadO_dvec1, stepK_load_map, idx_I, idx_W, rowW, set_rowW, app_rowW, app_rowW0, rep_rowW0, rowB, set_rowB, rep_rowB, rowN, lens_W, lensA_W, scal_rowW, default_W, w_or, w_and, w_andNot, w_and1, w_shl, w_shl1, w_shr, w_sub1, w_neg, w_add, w_bit, w_eq0, w_eq1, w_eq, Bool.decide_eq_true, idx_Rat, idx_Loc, idx_Act, idx_Step, idx_Stamp, stepK_idx_ref, evStore_ptr, storeO_vec, stepK_store_map1, loadDT_f, rowI, RatG.row, LocG.row, ActG.row, StepG.row, StampG.row, ActG.av, ActG.eta, RatG.eta, LocG.eta, beq_true, beq_false, loadDT_t, set_rowI, app_rowI, rep_rowI, set_rowRat, app_rowRat, rep_rowRat, set_rowLoc, app_rowLoc, app_rowAct, app_rowStep, List.length_set, List.length_replicate, toNat_cast, Int.reduceToNat, evLen, evAppend, srcOf, Src.all, Src.len, Src.leaf, joinV, drows_rep1, drows_rep2, drows_rep3, drows_rep4, drows_rep5, drows_rep6, drows_rep7, drows_rep8, mkVec, drows, evMk, List.length_map, take_mapF, drop_mapF, List.take_length, List.take_left, List.length_append, Nat.le_add_right, ite_self, List.take_of_length_le, evSlice, intOr, intOpd, Option.isSome_none, Option.isSome_some, Nat.sub_zero, loadQ, loadT, evBin, evUn, evIdxArr_d, evIdxArr_p, binT, binQ, chk, apartF, List.contains_cons, List.contains_nil, Bool.or_false, Bool.false_or, Bool.and_self, resQ, resV, resT, pickV, evCallT, evCall, fnOf, viewsT, viewT, evInt2, evEq, eqV, eqK, eqC1, buildQ, buildT, buildRQ, buildRT, lens_I, lensA_I, lens_Rat, lensA_Rat, lens_Loc, lensA_Loc, lens_Act, lensA_Act, lens_Step, lensA_Step, lens_Stamp, lensA_Stamp, List.mem_cons, List.not_mem_nil, or_false, forall_eq, putRow, dcells, get_nil, RetS, RetF, RetD, AV.frz, AV.frzL, AV.freshP, AV.freshL, DV.less, scal_int, scal_bool, scal_nil, scal_rowI, scal_rowRat, scal_rowStep, Option.some.injEq, AV.tup.injEq, AV.agg.injEq, List.cons.injEq, DV.list.injEq, List.isEmpty_nil, Nat.le_refl, AV.d.injEq, DV.int.injEq, DV.bool.injEq, ↓reduceIte, Nat.reduceEqDiff, Nat.reduceAdd, Nat.reduceBEq, List.length_cons, List.length_nil, List.replicate_succ, List.replicate_zero, List.nil_append, List.cons_append, List.append_nil, List.foldl_cons, List.foldl_nil, List.map_cons, List.map_nil, List.all_cons, List.all_nil, List.set_cons_zero, List.set_cons_succ, List.getD_cons_zero, List.getD_cons_succ, List.drop_zero, List.drop_succ_cons, List.take_succ_cons, List.take_zero, List.flatten_cons, List.flatten_nil, Bool.true_and, Bool.and_true, Bool.not_true, Bool.not_false, true_and, and_true, true_or, or_true, Option.bind_some, Option.map_some, decide_true, decide_false, beq_self_eq_true, true_implies, false_implies, implies_true, not_true_eq_false, not_false_eq_true, and_self, Bool.and_false, Bool.false_and, Nat.reduceLT, Nat.reduceLeDiff, List.reverse_cons, List.reverse_nil, Nat.zero_add, Nat.add_zero, Bool.false_eq_true, List.getElem?_cons_zero, Nat.reduceMul, Nat.mul_one, ef_Put, F1, G1, at_Has]
  have hk : k < 64 := by omega
  have hi : hasI R i k = (R.getD i 0#64).getLsbD k := by
    rw [hasI_nat]
    unfold hasN
    rw [decide_eq_true (by omega : i < szR R), decide_eq_true (by omega : k < szR R)]
    simp
  rw [hi, wrapU (k := k) (by omega)]
  refine ⟨by unfold maxLen; omega, fun hb => ?_, fun hb => ⟨by omega, by omega, by omega, by omega, by omega, ?_⟩⟩
  · have e : putR R i k = R := by
      unfold putR
      rw [or_same hb hk]
      have : R.getD i 0#64 = R[i] := getD_lt (by omega)
      rw [this]; exact List.set_getElem_self (by omega)
    rw [e]
    exact RetG.mk [0] (by simp) (by simp) (fun i hi => by have : i = 0 := by omega
                                                          subst this; rfl) (by simp [AV.can, AV.canL]) (by simp [HO.can, Heap.at])
  · simp only [toNat_cast]
    rw [add_or hb hk]
    exact RetG.mk [0] (by simp) (by simp) (fun i hi => by have : i = 0 := by omega
                                                          subst this; rfl) (by simp [AV.can, AV.canL]) (by simp [HO.can, Heap.at, putR])
end Go.Ago

/- Contracts of the reference of layer 2: most, Copy, Same, Of, Lay, Then, Back. Conditions: none. -/
set_option maxRecDepth 100000
set_option linter.unusedSimpArgs false
set_option linter.unusedVariables false
namespace Go.Ago

theorem decide_cast {a p : Nat} : decide ((a : Int) = p) = decide (p = a) := decide_eq_decide.2 ⟨fun h => by omega, fun h => by omega⟩
theorem szR_mk' {n : Nat} {p : Nat → Nat → Bool} (h : n ≤ 64) : szR (mkR n p) = n := by rw [szR_mk]; omega
theorem mkR_take {n : Nat} {p : Nat → Nat → Bool} : (mkR n p).take n = mkR n p := List.take_of_length_le (by rw [mkR_len]; omega)
theorem putR_mk {n : Nat} {p : Nat → Nat → Bool} {i k : Nat} (hn : n ≤ 64) (hi : i < n) (hk : k < n) : putR (mkR n p) i k = mkR n fun a b => p a b || (decide (a = i) && decide (b = k)) := by
  unfold putR
  rw [mkR_set (q := fun a b => p a b || (decide (a = i) && decide (b = k))) hi]
  · intro j hj
    rw [BitVec.getLsbD_or, mkR_get hi, one_shl (by omega)]
    by_cases hjn : j < n
    · by_cases e : k = j
      · subst e; simp [hj, hjn]
      · have : ¬ j = k := fun h => e h.symm
        simp [hj, hjn, e, this]
    · have : ¬ k = j := by omega
      simp [hjn, this]
  · intro a j ha hj hne
    simp [hne]

def sp_most : Sp := ⟨List W × Bool × List W × Bool, fun x => [.d (.list (x.1.map rowW) x.2.1), .d (.list (x.2.2.1.map rowW) x.2.2.2)], fun x => .data (x.1.length ≤ maxLen ∧ x.2.2.1.length ≤ maxLen) (.d (.int .i64 (mxR x.1 x.2.2.1))) true⟩
theorem at_most' (A B : List W) (e f : Bool) : sp_most.at [.d (.list (A.map rowW) e), .d (.list (B.map rowW) f)] = .data (A.length ≤ maxLen ∧ B.length ≤ maxLen) (.d (.int .i64 (mxR A B))) true :=
  Sp.at_enc (s := sp_most) (fun x y h => by
    obtain ⟨a, b, c, d⟩ := x; obtain ⟨a', b', c', d'⟩ := y
    simp only [sp_most, List.cons.injEq, AV.d.injEq, DV.list.injEq, and_true] at h
    rw [rows_inj rowW_inj h.1.1, h.1.2, rows_inj rowW_inj h.2.1, h.2.2]) (A, e, B, f)
theorem body_ref02_most {T : Tab} {n1 : Nat} (k1 : Knows T n1 sp_size) : sp_most.Body T V_ref02_most (L_ref02_most n1) R_ref02_most := by
  have F1 := k1.F; have G1 := k1.G
  rintro ⟨A, e, B, f⟩ ⟨h1, h2⟩
  refine .inl ⟨rfl, ?_⟩
  unfold V_ref02_most L_ref02_most R_ref02_most
  simp only [↓vck_skip, ↓vck_ret, ↓vck_exit, ↓vck_region, ↓vck_nilq, ↓nilTo_to, nilG_d, nilG_r, ↓vck_seq, ↓vck_cond, ↓vck_block, ↓vck_loop, ↓vckTo_to, ↓thenK_n, ↓thenK_x, ↓thenK_r, ↓blockK_n, ↓blockK_x, ↓blockK_o, ↓blockK_r, ↓regK_to, ↓retK_r, ↓retK_n, ↓loopV_n, ↓loopV_x, ↓loopV_r, ↓famK_n, ↓famK_x, ↓famK_r, ↓boolK_true, ↓boolK_false, ↓boolK_not, ↓boolK_dec, ↓boolK_and, nf_mk, RGk_end_f, RGk_end_t, RGk_op, RGk_guard, opK_to, evN, evCallN, grow_mk, feet_f, feet_t, foot_mk, stepK_mk, stepK_v, stepK_no, guardG_t, guardG_f, guardG_no, condG_b, evT, Opd.ev, get_hit, get_next, app_to, app_no, app_up, app_skip, app_skipn, know_mk, knowO_t, knowO_c, envFrom, reserve, keeps, LOp.isNew, State.prune, cellsQ, cellsT, AV.leaf, Heap.at, evLoad_ptr, evLoad_dptr, loadO_vec, loadO_dvec1, stepK_load_map, idx_I, idx_W, rowW, set_rowW, app_rowW, app_rowW0, rep_rowW0, rowB, set_rowB, rep_rowB, rowN, lens_W, lensA_W, scal_rowW, default_W, w_or, w_and, w_andNot, w_and1, w_shl, w_shl1, w_shr, w_sub1, w_neg, w_add, w_bit, w_eq0, w_eq1, w_eq, Bool.decide_eq_true, idx_Rat, idx_Loc, idx_Act, idx_Step, idx_Stamp, stepK_idx_ref, evStore_ptr, storeO_vec, stepK_store_map1, loadDT_f, rowI, RatG.row, LocG.row, ActG.row, StepG.row, StampG.row, ActG.av, ActG.eta, RatG.eta, LocG.eta, beq_true, beq_false, loadDT_t, set_rowI, app_rowI, rep_rowI, set_rowRat, app_rowRat, rep_rowRat, set_rowLoc, app_rowLoc, app_rowAct, app_rowStep, List.length_set, List.length_replicate, toNat_cast, Int.reduceToNat, evLen, evAppend, srcOf, Src.all, Src.len, Src.leaf, joinV, drows_rep1, drows_rep2, drows_rep3, drows_rep4, drows_rep5, drows_rep6, drows_rep7, drows_rep8, mkVec, drows, evMk, List.length_map, take_mapF, drop_mapF, List.take_length, List.take_left, List.length_append, Nat.le_add_right, ite_self, List.take_of_length_le, evSlice, intOr, intOpd, Option.isSome_none, Option.isSome_some, Nat.sub_zero, loadQ, loadT, evBin, evUn, evIdxArr_d, evIdxArr_p, binT, binQ, chk, apartF, List.contains_cons, List.contains_nil, Bool.or_false, Bool.false_or, Bool.and_self, resQ, resV, resT, pickV, evCallT, evCall, fnOf, viewsT, viewT, evInt2, evEq, eqV, eqK, eqC1, buildQ, buildT, buildRQ, buildRT, lens_I, lensA_I, lens_Rat, lensA_Rat, lens_Loc, lensA_Loc, lens_Act, lensA_Act, lens_Step, lensA_Step, lens_Stamp, lensA_Stamp, List.mem_cons, List.not_mem_nil, or_false, forall_eq, putRow, dcells, get_nil, RetS, RetF, RetD, AV.frz, AV.frzL, AV.freshP, AV.freshL, DV.less, scal_int, scal_bool, scal_nil, scal_rowI, scal_rowRat, scal_rowStep, Option.some.injEq, AV.tup.injEq, AV.agg.injEq, List.cons.injEq, DV.list.injEq, List.isEmpty_nil, Nat.le_refl, AV.d.injEq, DV.int.injEq, DV.bool.injEq, ↓reduceIte, Nat.reduceEqDiff, Nat.reduceAdd, Nat.reduceBEq, List.length_cons, List.length_nil, List.replicate_succ, List.replicate_zero, List.nil_append, List.cons_append, List.append_nil, List.foldl_cons, List.foldl_nil, List.map_cons, List.map_nil, List.all_cons, List.all_nil, List.set_cons_zero, List.set_cons_succ, List.getD_cons_zero, List.getD_cons_succ, List.drop_zero, List.drop_succ_cons, List.take_succ_cons, List.take_zero, List.flatten_cons, List.flatten_nil, Bool.true_and, Bool.and_true, Bool.not_true, Bool.not_false, true_and, and_true, true_or, or_true, Option.bind_some, Option.map_some, decide_true, decide_false, beq_self_eq_true, true_implies, false_implies, implies_true, not_true_eq_false, not_false_eq_true, and_self, Bool.and_false, Bool.false_and, Nat.reduceLT, Nat.reduceLeDiff, List.reverse_cons, List.reverse_nil, Nat.zero_add, Nat.add_zero, Bool.false_eq_true, List.getElem?_cons_zero, Nat.reduceMul, Nat.mul_one, sp_most, F1, G1, at_size]
  unfold mxR
  refine ⟨h1, h2, fun c => ⟨h1, by omega⟩, fun c => ⟨h2, by omega⟩⟩

def sp_copyW : Sp := ⟨List W × Bool, fun x => [.d (.list (x.1.map rowW) x.2)], fun x => .rows (roomy x.1.length 8) 1 (x.1.map rowW)⟩
theorem at_copyW (A : List W) (e : Bool) : sp_copyW.at [.d (.list (A.map rowW) e)] = .rows (roomy A.length 8) 1 (A.map rowW) :=
  Sp.at_enc (s := sp_copyW) (fun x y h => by
    obtain ⟨a, b⟩ := x; obtain ⟨a', b'⟩ := y
    simp only [sp_copyW, List.cons.injEq, AV.d.injEq, DV.list.injEq, and_true] at h
    rw [rows_inj rowW_inj h.1, h.2]) (A, e)
theorem body_ref02_Copy {T : Tab} : sp_copyW.Body T V_ref02_Copy L_ref02_Copy R_ref02_Copy := by
  rintro ⟨A, e⟩ h1
  have h1 : roomy A.length 8 := h1
  refine ⟨rows_len (f := rowW) (fun _ => rfl) _, ?_⟩
  unfold V_ref02_Copy L_ref02_Copy R_ref02_Copy
  simp only [↓vck_skip, ↓vck_ret, ↓vck_exit, ↓vck_region, ↓vck_nilq, ↓nilTo_to, nilG_d, nilG_r, ↓vck_seq, ↓vck_cond, ↓vck_block, ↓vck_loop, ↓vckTo_to, ↓thenK_n, ↓thenK_x, ↓thenK_r, ↓blockK_n, ↓blockK_x, ↓blockK_o, ↓blockK_r, ↓regK_to, ↓retK_r, ↓retK_n, ↓loopV_n, ↓loopV_x, ↓loopV_r, ↓famK_n, ↓famK_x, ↓famK_r, ↓boolK_true, ↓boolK_false, ↓boolK_not, ↓boolK_dec, ↓boolK_and, nf_mk, RGk_end_f, RGk_end_t, RGk_op, RGk_guard, opK_to, evN, evCallN, grow_mk, feet_f, feet_t, foot_mk, stepK_mk, stepK_v, stepK_no, guardG_t, guardG_f, guardG_no, condG_b, evT, Opd.ev, get_hit, get_next, app_to, app_no, app_up, app_skip, app_skipn, know_mk, knowO_t, knowO_c, envFrom, reserve, keeps, LOp.isNew, State.prune, cellsQ, cellsT, AV.leaf, Heap.at, evLoad_ptr, evLoad_dptr, loadO_vec, loadO_dvec1, stepK_load_map, idx_I, idx_W, rowW, set_rowW, app_rowW, app_rowW0, rep_rowW0, rowB, set_rowB, rep_rowB, rowN, lens_W, lensA_W, scal_rowW, default_W, w_or, w_and, w_andNot, w_and1, w_shl, w_shl1, w_shr, w_sub1, w_neg, w_add, w_bit, w_eq0, w_eq1, w_eq, Bool.decide_eq_true, idx_Rat, idx_Loc, idx_Act, idx_Step, idx_Stamp, stepK_idx_ref, evStore_ptr, storeO_vec, stepK_store_map1, loadDT_f, rowI, RatG.row, LocG.row, ActG.row, StepG.row, StampG.row, ActG.av, ActG.eta, RatG.eta, LocG.eta, beq_true, beq_false, loadDT_t, set_rowI, app_rowI, rep_rowI, set_rowRat, app_rowRat, rep_rowRat, set_rowLoc, app_rowLoc, app_rowAct, app_rowStep, List.length_set, List.length_replicate, toNat_cast, Int.reduceToNat, evLen, evAppend, srcOf, Src.all, Src.len, Src.leaf, joinV, drows_rep1, drows_rep2, drows_rep3, drows_rep4, drows_rep5, drows_rep6, drows_rep7, drows_rep8, mkVec, drows, evMk, List.length_map, take_mapF, drop_mapF, List.take_length, List.take_left, List.length_append, Nat.le_add_right, ite_self, List.take_of_length_le, evSlice, intOr, intOpd, Option.isSome_none, Option.isSome_some, Nat.sub_zero, loadQ, loadT, evBin, evUn, evIdxArr_d, evIdxArr_p, binT, binQ, chk, apartF, List.contains_cons, List.contains_nil, Bool.or_false, Bool.false_or, Bool.and_self, resQ, resV, resT, pickV, evCallT, evCall, fnOf, viewsT, viewT, evInt2, evEq, eqV, eqK, eqC1, buildQ, buildT, buildRQ, buildRT, lens_I, lensA_I, lens_Rat, lensA_Rat, lens_Loc, lensA_Loc, lens_Act, lensA_Act, lens_Step, lensA_Step, lens_Stamp, lensA_Stamp, List.mem_cons, List.not_mem_nil, or_false, forall_eq, putRow, dcells, get_nil, RetS, RetF, RetD, AV.frz, AV.frzL, AV.freshP, AV.freshL, DV.less, scal_int, scal_bool, scal_nil, scal_rowI, scal_rowRat, scal_rowStep, Option.some.injEq, AV.tup.injEq, AV.agg.injEq, List.cons.injEq, DV.list.injEq, List.isEmpty_nil, Nat.le_refl, AV.d.injEq, DV.int.injEq, DV.bool.injEq, ↓reduceIte, Nat.reduceEqDiff, Nat.reduceAdd, Nat.reduceBEq, List.length_cons, List.length_nil, List.replicate_succ, List.replicate_zero, List.nil_append, List.cons_append, List.append_nil, List.foldl_cons, List.foldl_nil, List.map_cons, List.map_nil, List.all_cons, List.all_nil, List.set_cons_zero, List.set_cons_succ, List.getD_cons_zero, List.getD_cons_succ, List.drop_zero, List.drop_succ_cons, List.take_succ_cons, List.take_zero, List.flatten_cons, List.flatten_nil, Bool.true_and, Bool.and_true, Bool.not_true, Bool.not_false, true_and, and_true, true_or, or_true, Option.bind_some, Option.map_some, decide_true, decide_false, beq_self_eq_true, true_implies, false_implies, implies_true, not_true_eq_false, not_false_eq_true, and_self, Bool.and_false, Bool.false_and, Nat.reduceLT, Nat.reduceLeDiff, List.reverse_cons, List.reverse_nil, Nat.zero_add, Nat.add_zero, Bool.false_eq_true, List.getElem?_cons_zero, Nat.reduceMul, Nat.mul_one, sp_copyW]
  exact ⟨h1, .inl ⟨0, true, by simp, rfl⟩⟩

def sp_sameW : Sp := sp_same rowW
theorem at_sameW (a b : List W) (f g : Bool) : sp_sameW.at [.d (.list (a.map rowW) f), .d (.list (b.map rowW) g)] = .data (a.length ≤ maxLen) (.d (.bool (decide (a = b)))) true := at_same rowW_inj a b f g
theorem body_ref02_Same {T : Tab} : sp_sameW.Body T V_ref02_Same L_ref02_Same R_ref02_Same := by
  rintro ⟨a, f, b, g⟩ hlen
  refine .inl ⟨rfl, ?_⟩
  unfold V_ref02_Same L_ref02_Same R_ref02_Same
  simp only [↓vck_skip, ↓vck_ret, ↓vck_exit, ↓vck_region, ↓vck_nilq, ↓nilTo_to, nilG_d, nilG_r, ↓vck_seq, ↓vck_cond, ↓vck_block, ↓vck_loop, ↓vckTo_to, ↓thenK_n, ↓thenK_x, ↓thenK_r, ↓blockK_n, ↓blockK_x, ↓blockK_o, ↓blockK_r, ↓regK_to, ↓retK_r, ↓retK_n, ↓loopV_n, ↓loopV_x, ↓loopV_r, ↓famK_n, ↓famK_x, ↓famK_r, ↓boolK_true, ↓boolK_false, ↓boolK_not, ↓boolK_dec, ↓boolK_and, nf_mk, RGk_end_f, RGk_end_t, RGk_op, RGk_guard, opK_to, evN, evCallN, grow_mk, feet_f, feet_t, foot_mk, stepK_mk, stepK_v, stepK_no, guardG_t, guardG_f, guardG_no, condG_b, evT, Opd.ev, get_hit, get_next, app_to, app_no, app_up, app_skip, app_skipn, know_mk, knowO_t, knowO_c, envFrom, reserve, keeps, LOp.isNew, State.prune, cellsQ, cellsT, AV.leaf, Heap.at, evLoad_ptr, evLoad_dptr, loadO_vec, loadO_dvec1, stepK_load_map, idx_I, idx_W, rowW, set_rowW, app_rowW, app_rowW0, rep_rowW0, rowB, set_rowB, rep_rowB, rowN, lens_W, lensA_W, scal_rowW, default_W, w_or, w_and, w_andNot, w_and1, w_shl, w_shl1, w_shr, w_sub1, w_neg, w_add, w_bit, w_eq0, w_eq1, w_eq, Bool.decide_eq_true, idx_Rat, idx_Loc, idx_Act, idx_Step, idx_Stamp, stepK_idx_ref, evStore_ptr, storeO_vec, stepK_store_map1, loadDT_f, rowI, RatG.row, LocG.row, ActG.row, StepG.row, StampG.row, ActG.av, ActG.eta, RatG.eta, LocG.eta, beq_true, beq_false, loadDT_t, set_rowI, app_rowI, rep_rowI, set_rowRat, app_rowRat, rep_rowRat, set_rowLoc, app_rowLoc, app_rowAct, app_rowStep, List.length_set, List.length_replicate, toNat_cast, Int.reduceToNat, evLen, evAppend, srcOf, Src.all, Src.len, Src.leaf, joinV, drows_rep1, drows_rep2, drows_rep3, drows_rep4, drows_rep5, drows_rep6, drows_rep7, drows_rep8, mkVec, drows, evMk, List.length_map, take_mapF, drop_mapF, List.take_length, List.take_left, List.length_append, Nat.le_add_right, ite_self, List.take_of_length_le, evSlice, intOr, intOpd, Option.isSome_none, Option.isSome_some, Nat.sub_zero, loadQ, loadT, evBin, evUn, evIdxArr_d, evIdxArr_p, binT, binQ, chk, apartF, List.contains_cons, List.contains_nil, Bool.or_false, Bool.false_or, Bool.and_self, resQ, resV, resT, pickV, evCallT, evCall, fnOf, viewsT, viewT, evInt2, evEq, eqV, eqK, eqC1, buildQ, buildT, buildRQ, buildRT, lens_I, lensA_I, lens_Rat, lensA_Rat, lens_Loc, lensA_Loc, lens_Act, lensA_Act, lens_Step, lensA_Step, lens_Stamp, lensA_Stamp, List.mem_cons, List.not_mem_nil, or_false, forall_eq, putRow, dcells, get_nil, RetS, RetF, RetD, AV.frz, AV.frzL, AV.freshP, AV.freshL, DV.less, scal_int, scal_bool, scal_nil, scal_rowI, scal_rowRat, scal_rowStep, Option.some.injEq, AV.tup.injEq, AV.agg.injEq, List.cons.injEq, DV.list.injEq, List.isEmpty_nil, Nat.le_refl, AV.d.injEq, DV.int.injEq, DV.bool.injEq, ↓reduceIte, Nat.reduceEqDiff, Nat.reduceAdd, Nat.reduceBEq, List.length_cons, List.length_nil, List.replicate_succ, List.replicate_zero, List.nil_append, List.cons_append, List.append_nil, List.foldl_cons, List.foldl_nil, List.map_cons, List.map_nil, List.all_cons, List.all_nil, List.set_cons_zero, List.set_cons_succ, List.getD_cons_zero, List.getD_cons_succ, List.drop_zero, List.drop_succ_cons, List.take_succ_cons, List.take_zero, List.flatten_cons, List.flatten_nil, Bool.true_and, Bool.and_true, Bool.not_true, Bool.not_false, true_and, and_true, true_or, or_true, Option.bind_some, Option.map_some, decide_true, decide_false, beq_self_eq_true, true_implies, false_implies, implies_true, not_true_eq_false, not_false_eq_true, and_self, Bool.and_false, Bool.false_and, Nat.reduceLT, Nat.reduceLeDiff, List.reverse_cons, List.reverse_nil, Nat.zero_add, Nat.add_zero, Bool.false_eq_true, List.getElem?_cons_zero, Nat.reduceMul, Nat.mul_one, sp_sameW, sp_same]
  have hm : maxLen = 9223372036854775807 := rfl
  have hlen : a.length ≤ maxLen := hlen
  refine ⟨fun h => ?_, fun h => ?_⟩
  · have hab : a.length = b.length := by omega
    refine Loop.fam [0, 1, 5] (fun i : Nat => ⟨[(0, .d (.list (a.map rowW) f)), (1, .d (.list (b.map rowW) g)), (5, .d (.int .i64 (i : Nat)))], []⟩) (fun i => i ≤ a.length ∧ a.take i = b.take i) (fun i => a.length - i) 0 [] (by simp) (by simp)
      (by simp only [State.can, AV.can, AV.canL, HO.can, canRows, idx, get_hit, get_next, Heap.at, Nat.reduceBEq, ↓reduceIte, Nat.reduceEqDiff, Option.getD_some, Option.map_some, List.map_cons, List.map_nil, List.getD_cons_zero, List.getD_cons_succ]; rfl) ⟨by omega, by simp⟩ ?_
    rintro i ⟨h1, h2⟩
    simp only [↓vck_skip, ↓vck_ret, ↓vck_exit, ↓vck_region, ↓vck_nilq, ↓nilTo_to, nilG_d, nilG_r, ↓vck_seq, ↓vck_cond, ↓vck_block, ↓vck_loop, ↓vckTo_to, ↓thenK_n, ↓thenK_x, ↓thenK_r, ↓blockK_n, ↓blockK_x, ↓blockK_o, ↓blockK_r, ↓regK_to, ↓retK_r, ↓retK_n, ↓loopV_n, ↓loopV_x, ↓loopV_r, ↓famK_n, ↓famK_x, ↓famK_r, ↓boolK_true, ↓boolK_false, ↓boolK_not, ↓boolK_dec, ↓boolK_and, nf_mk, RGk_end_f, RGk_end_t, RGk_op, RGk_guard, opK_to, evN, evCallN, grow_mk, feet_f, feet_t, foot_mk, stepK_mk, stepK_v, stepK_no, guardG_t, guardG_f, guardG_no, condG_b, evT, Opd.ev, get_hit, get_next, app_to, app_no, app_up, app_skip, app_skipn, know_mk, knowO_t, knowO_c, envFrom, reserve, keeps, LOp.isNew, State.prune, cellsQ, cellsT, AV.leaf, Heap.at, evLoad_ptr, evLoad_dptr, loadO_vec, loadO_dvec1, stepK_load_map, idx_I, idx_W, rowW, set_rowW, app_rowW, app_rowW0, rep_rowW0, rowB, set_rowB, rep_rowB, rowN, lens_W, lensA_W, scal_rowW, default_W, w_or, w_and, w_andNot, w_and1, w_shl, w_shl1, w_shr, w_sub1, w_neg, w_add, w_bit, w_eq0, w_eq1, w_eq, Bool.decide_eq_true, idx_Rat, idx_Loc, idx_Act, idx_Step, idx_Stamp, stepK_idx_ref, evStore_ptr, storeO_vec, stepK_store_map1, loadDT_f, rowI, RatG.row, LocG.row, ActG.row, StepG.row, StampG.row, ActG.av, ActG.eta, RatG.eta, LocG.eta, beq_true, beq_false, loadDT_t, set_rowI, app_rowI, rep_rowI, set_rowRat, app_rowRat, rep_rowRat, set_rowLoc, app_rowLoc, app_rowAct, app_rowStep, List.length_set, List.length_replicate, toNat_cast, Int.reduceToNat, evLen, evAppend, srcOf, Src.all, Src.len, Src.leaf, joinV, drows_rep1, drows_rep2, drows_rep3, drows_rep4, drows_rep5, drows_rep6, drows_rep7, drows_rep8, mkVec, drows, evMk, List.length_map, take_mapF, drop_mapF, List.take_length, List.take_left, List.length_append, Nat.le_add_right, ite_self, List.take_of_length_le, evSlice, intOr, intOpd, Option.isSome_none, Option.isSome_some, Nat.sub_zero, loadQ, loadT, evBin, evUn, evIdxArr_d, evIdxArr_p, binT, binQ, chk, apartF, List.contains_cons, List.contains_nil, Bool.or_false, Bool.false_or, Bool.and_self, resQ, resV, resT, pickV, evCallT, evCall, fnOf, viewsT, viewT, evInt2, evEq, eqV, eqK, eqC1, buildQ, buildT, buildRQ, buildRT, lens_I, lensA_I, lens_Rat, lensA_Rat, lens_Loc, lensA_Loc, lens_Act, lensA_Act, lens_Step, lensA_Step, lens_Stamp, lensA_Stamp, List.mem_cons, List.not_mem_nil, or_false, forall_eq, putRow, dcells, get_nil, RetS, RetF, RetD, AV.frz, AV.frzL, AV.freshP, AV.freshL, DV.less, scal_int, scal_bool, scal_nil, scal_rowI, scal_rowRat, scal_rowStep, Option.some.injEq, AV.tup.injEq, AV.agg.injEq, List.cons.injEq, DV.list.injEq, List.isEmpty_nil, Nat.le_refl, AV.d.injEq, DV.int.injEq, DV.bool.injEq, ↓reduceIte, Nat.reduceEqDiff, Nat.reduceAdd, Nat.reduceBEq, List.length_cons, List.length_nil, List.replicate_succ, List.replicate_zero, List.nil_append, List.cons_append, List.append_nil, List.foldl_cons, List.foldl_nil, List.map_cons, List.map_nil, List.all_cons, List.all_nil, List.set_cons_zero, List.set_cons_succ, List.getD_cons_zero, List.getD_cons_succ, List.drop_zero, List.drop_succ_cons, List.take_succ_cons, List.take_zero, List.flatten_cons, List.flatten_nil, Bool.true_and, Bool.and_true, Bool.not_true, Bool.not_false, true_and, and_true, true_or, or_true, Option.bind_some, Option.map_some, decide_true, decide_false, beq_self_eq_true, true_implies, false_implies, implies_true, not_true_eq_false, not_false_eq_true, and_self, Bool.and_false, Bool.false_and, Nat.reduceLT, Nat.reduceLeDiff, List.reverse_cons, List.reverse_nil, Nat.zero_add, Nat.add_zero, Bool.false_eq_true, List.getElem?_cons_zero, Nat.reduceMul, Nat.mul_one]
    refine ⟨fun h3 => ?_, fun h3 => ?_⟩
    · have h3 : i < a.length := by omega
      rw [wrap_succ h3 hlen]
      refine ⟨by omega, by omega, fun h4 => ?_, fun h4 => ?_⟩
      · exact FamNext.mk [] (i + 1) (by simp) (by simp) (by simp only [State.can, AV.can, AV.canL, HO.can, canRows, idx, get_hit, get_next, Heap.at, Nat.reduceBEq, ↓reduceIte, Nat.reduceEqDiff, Option.getD_some, Option.map_some, List.map_cons, List.map_nil, List.getD_cons_zero, List.getD_cons_succ]) ⟨by omega, take_next (d := 0#64) h2 h3 (by omega) h4⟩ (by omega)
      · simp only [Bool.false_eq, decide_eq_false_iff_not]
        intro e; subst e; exact h4 rfl
    · have : i = a.length := by omega
      subst this
      exact (decide_eq_true (take_all h2 hab)).symm
  · simp only [Bool.false_eq, decide_eq_false_iff_not]
    intro e; subst e; exact h rfl
theorem body_ref02_SameInts {T : Tab} : sp_sameI.Body T V_ref02_SameInts L_ref02_SameInts R_ref02_SameInts := by
  rintro ⟨a, f, b, g⟩ hlen
  refine .inl ⟨rfl, ?_⟩
  unfold V_ref02_SameInts L_ref02_SameInts R_ref02_SameInts
  simp only [↓vck_skip, ↓vck_ret, ↓vck_exit, ↓vck_region, ↓vck_nilq, ↓nilTo_to, nilG_d, nilG_r, ↓vck_seq, ↓vck_cond, ↓vck_block, ↓vck_loop, ↓vckTo_to, ↓thenK_n, ↓thenK_x, ↓thenK_r, ↓blockK_n, ↓blockK_x, ↓blockK_o, ↓blockK_r, ↓regK_to, ↓retK_r, ↓retK_n, ↓loopV_n, ↓loopV_x, ↓loopV_r, ↓famK_n, ↓famK_x, ↓famK_r, ↓boolK_true, ↓boolK_false, ↓boolK_not, ↓boolK_dec, ↓boolK_and, nf_mk, RGk_end_f, RGk_end_t, RGk_op, RGk_guard, opK_to, evN, evCallN, grow_mk, feet_f, feet_t, foot_mk, stepK_mk, stepK_v, stepK_no, guardG_t, guardG_f, guardG_no, condG_b, evT, Opd.ev, get_hit, get_next, app_to, app_no, app_up, app_skip, app_skipn, know_mk, knowO_t, knowO_c, envFrom, reserve, keeps, LOp.isNew, State.prune, cellsQ, cellsT, AV.leaf, Heap.at, evLoad_ptr, evLoad_dptr, loadO_vec, loadO_dvec1, stepK_load_map, idx_I, idx_W, rowW, set_rowW, app_rowW, app_rowW0, rep_rowW0, rowB, set_rowB, rep_rowB, rowN, lens_W, lensA_W, scal_rowW, default_W, w_or, w_and, w_andNot, w_and1, w_shl, w_shl1, w_shr, w_sub1, w_neg, w_add, w_bit, w_eq0, w_eq1, w_eq, Bool.decide_eq_true, idx_Rat, idx_Loc, idx_Act, idx_Step, idx_Stamp, stepK_idx_ref, evStore_ptr, storeO_vec, stepK_store_map1, loadDT_f, rowI, RatG.row, LocG.row, ActG.row, StepG.row, StampG.row, ActG.av, ActG.eta, RatG.eta, LocG.eta, beq_true, beq_false, loadDT_t, set_rowI, app_rowI, rep_rowI, set_rowRat, app_rowRat, rep_rowRat, set_rowLoc, app_rowLoc, app_rowAct, app_rowStep, List.length_set, List.length_replicate, toNat_cast, Int.reduceToNat, evLen, evAppend, srcOf, Src.all, Src.len, Src.leaf, joinV, drows_rep1, drows_rep2, drows_rep3, drows_rep4, drows_rep5, drows_rep6, drows_rep7, drows_rep8, mkVec, drows, evMk, List.length_map, take_mapF, drop_mapF, List.take_length, List.take_left, List.length_append, Nat.le_add_right, ite_self, List.take_of_length_le, evSlice, intOr, intOpd, Option.isSome_none, Option.isSome_some, Nat.sub_zero, loadQ, loadT, evBin, evUn, evIdxArr_d, evIdxArr_p, binT, binQ, chk, apartF, List.contains_cons, List.contains_nil, Bool.or_false, Bool.false_or, Bool.and_self, resQ, resV, resT, pickV, evCallT, evCall, fnOf, viewsT, viewT, evInt2, evEq, eqV, eqK, eqC1, buildQ, buildT, buildRQ, buildRT, lens_I, lensA_I, lens_Rat, lensA_Rat, lens_Loc, lensA_Loc, lens_Act, lensA_Act, lens_Step, lensA_Step, lens_Stamp, lensA_Stamp, List.mem_cons, List.not_mem_nil, or_false, forall_eq, putRow, dcells, get_nil, RetS, RetF, RetD, AV.frz, AV.frzL, AV.freshP, AV.freshL, DV.less, scal_int, scal_bool, scal_nil, scal_rowI, scal_rowRat, scal_rowStep, Option.some.injEq, AV.tup.injEq, AV.agg.injEq, List.cons.injEq, DV.list.injEq, List.isEmpty_nil, Nat.le_refl, AV.d.injEq, DV.int.injEq, DV.bool.injEq, ↓reduceIte, Nat.reduceEqDiff, Nat.reduceAdd, Nat.reduceBEq, List.length_cons, List.length_nil, List.replicate_succ, List.replicate_zero, List.nil_append, List.cons_append, List.append_nil, List.foldl_cons, List.foldl_nil, List.map_cons, List.map_nil, List.all_cons, List.all_nil, List.set_cons_zero, List.set_cons_succ, List.getD_cons_zero, List.getD_cons_succ, List.drop_zero, List.drop_succ_cons, List.take_succ_cons, List.take_zero, List.flatten_cons, List.flatten_nil, Bool.true_and, Bool.and_true, Bool.not_true, Bool.not_false, true_and, and_true, true_or, or_true, Option.bind_some, Option.map_some, decide_true, decide_false, beq_self_eq_true, true_implies, false_implies, implies_true, not_true_eq_false, not_false_eq_true, and_self, Bool.and_false, Bool.false_and, Nat.reduceLT, Nat.reduceLeDiff, List.reverse_cons, List.reverse_nil, Nat.zero_add, Nat.add_zero, Bool.false_eq_true, List.getElem?_cons_zero, Nat.reduceMul, Nat.mul_one, sp_sameI]
  have hm : maxLen = 9223372036854775807 := rfl
  have hlen : a.length ≤ maxLen := hlen
  refine ⟨fun h => ?_, fun h => ?_⟩
  · have hab : a.length = b.length := by omega
    refine Loop.fam [0, 1, 5] (fun i : Nat => ⟨[(0, .d (.list (a.map rowI) f)), (1, .d (.list (b.map rowI) g)), (5, .d (.int .i64 (i : Nat)))], []⟩) (fun i => i ≤ a.length ∧ a.take i = b.take i) (fun i => a.length - i) 0 [] (by simp) (by simp)
      (by simp only [State.can, AV.can, AV.canL, HO.can, canRows, idx, get_hit, get_next, Heap.at, Nat.reduceBEq, ↓reduceIte, Nat.reduceEqDiff, Option.getD_some, Option.map_some, List.map_cons, List.map_nil, List.getD_cons_zero, List.getD_cons_succ]; rfl) ⟨by omega, by simp⟩ ?_
    rintro i ⟨h1, h2⟩
    simp only [↓vck_skip, ↓vck_ret, ↓vck_exit, ↓vck_region, ↓vck_nilq, ↓nilTo_to, nilG_d, nilG_r, ↓vck_seq, ↓vck_cond, ↓vck_block, ↓vck_loop, ↓vckTo_to, ↓thenK_n, ↓thenK_x, ↓thenK_r, ↓blockK_n, ↓blockK_x, ↓blockK_o, ↓blockK_r, ↓regK_to, ↓retK_r, ↓retK_n, ↓loopV_n, ↓loopV_x, ↓loopV_r, ↓famK_n, ↓famK_x, ↓famK_r, ↓boolK_true, ↓boolK_false, ↓boolK_not, ↓boolK_dec, ↓boolK_and, nf_mk, RGk_end_f, RGk_end_t, RGk_op, RGk_guard, opK_to, evN, evCallN, grow_mk, feet_f, feet_t, foot_mk, stepK_mk, stepK_v, stepK_no, guardG_t, guardG_f, guardG_no, condG_b, evT, Opd.ev, get_hit, get_next, app_to, app_no, app_up, app_skip, app_skipn, know_mk, knowO_t, knowO_c, envFrom, reserve, keeps, LOp.isNew, State.prune, cellsQ, cellsT, AV.leaf, Heap.at, evLoad_ptr, evLoad_dptr, loadO_vec, loadO_dvec1, stepK_load_map, idx_I, idx_W, rowW, set_rowW, app_rowW, app_rowW0, rep_rowW0, rowB, set_rowB, rep_rowB, rowN, lens_W, lensA_W, scal_rowW, default_W, w_or, w_and, w_andNot, w_and1, w_shl, w_shl1, w_shr, w_sub1, w_neg, w_add, w_bit, w_eq0, w_eq1, w_eq, Bool.decide_eq_true, idx_Rat, idx_Loc, idx_Act, idx_Step, idx_Stamp, stepK_idx_ref, evStore_ptr, storeO_vec, stepK_store_map1, loadDT_f, rowI, RatG.row, LocG.row, ActG.row, StepG.row, StampG.row, ActG.av, ActG.eta, RatG.eta, LocG.eta, beq_true, beq_false, loadDT_t, set_rowI, app_rowI, rep_rowI, set_rowRat, app_rowRat, rep_rowRat, set_rowLoc, app_rowLoc, app_rowAct, app_rowStep, List.length_set, List.length_replicate, toNat_cast, Int.reduceToNat, evLen, evAppend, srcOf, Src.all, Src.len, Src.leaf, joinV, drows_rep1, drows_rep2, drows_rep3, drows_rep4, drows_rep5, drows_rep6, drows_rep7, drows_rep8, mkVec, drows, evMk, List.length_map, take_mapF, drop_mapF, List.take_length, List.take_left, List.length_append, Nat.le_add_right, ite_self, List.take_of_length_le, evSlice, intOr, intOpd, Option.isSome_none, Option.isSome_some, Nat.sub_zero, loadQ, loadT, evBin, evUn, evIdxArr_d, evIdxArr_p, binT, binQ, chk, apartF, List.contains_cons, List.contains_nil, Bool.or_false, Bool.false_or, Bool.and_self, resQ, resV, resT, pickV, evCallT, evCall, fnOf, viewsT, viewT, evInt2, evEq, eqV, eqK, eqC1, buildQ, buildT, buildRQ, buildRT, lens_I, lensA_I, lens_Rat, lensA_Rat, lens_Loc, lensA_Loc, lens_Act, lensA_Act, lens_Step, lensA_Step, lens_Stamp, lensA_Stamp, List.mem_cons, List.not_mem_nil, or_false, forall_eq, putRow, dcells, get_nil, RetS, RetF, RetD, AV.frz, AV.frzL, AV.freshP, AV.freshL, DV.less, scal_int, scal_bool, scal_nil, scal_rowI, scal_rowRat, scal_rowStep, Option.some.injEq, AV.tup.injEq, AV.agg.injEq, List.cons.injEq, DV.list.injEq, List.isEmpty_nil, Nat.le_refl, AV.d.injEq, DV.int.injEq, DV.bool.injEq, ↓reduceIte, Nat.reduceEqDiff, Nat.reduceAdd, Nat.reduceBEq, List.length_cons, List.length_nil, List.replicate_succ, List.replicate_zero, List.nil_append, List.cons_append, List.append_nil, List.foldl_cons, List.foldl_nil, List.map_cons, List.map_nil, List.all_cons, List.all_nil, List.set_cons_zero, List.set_cons_succ, List.getD_cons_zero, List.getD_cons_succ, List.drop_zero, List.drop_succ_cons, List.take_succ_cons, List.take_zero, List.flatten_cons, List.flatten_nil, Bool.true_and, Bool.and_true, Bool.not_true, Bool.not_false, true_and, and_true, true_or, or_true, Option.bind_some, Option.map_some, decide_true, decide_false, beq_self_eq_true, true_implies, false_implies, implies_true, not_true_eq_false, not_false_eq_true, and_self, Bool.and_false, Bool.false_and, Nat.reduceLT, Nat.reduceLeDiff, List.reverse_cons, List.reverse_nil, Nat.zero_add, Nat.add_zero, Bool.false_eq_true, List.getElem?_cons_zero, Nat.reduceMul, Nat.mul_one]
    refine ⟨fun h3 => ?_, fun h3 => ?_⟩
    · have h3 : i < a.length := by omega
      rw [wrap_succ h3 hlen]
      refine ⟨by omega, by omega, fun h4 => ?_, fun h4 => ?_⟩
      · exact FamNext.mk [] (i + 1) (by simp) (by simp) (by simp only [State.can, AV.can, AV.canL, HO.can, canRows, idx, get_hit, get_next, Heap.at, Nat.reduceBEq, ↓reduceIte, Nat.reduceEqDiff, Option.getD_some, Option.map_some, List.map_cons, List.map_nil, List.getD_cons_zero, List.getD_cons_succ]) ⟨by omega, take_next (d := default) h2 h3 (by omega) h4⟩ (by omega)
      · simp only [Bool.false_eq, decide_eq_false_iff_not]
        intro e; subst e; exact h4 rfl
    · have : i = a.length := by omega
      subst this
      exact (decide_eq_true (take_all h2 hab)).symm
  · simp only [Bool.false_eq, decide_eq_false_iff_not]
    intro e; subst e; exact h rfl

theorem body_ref02_Of {T : Tab} {n1 : Nat} (k1 : KnowsG T n1 ef_Put.at) : sp_Of.Body T V_ref02_Of (L_ref02_Of n1) R_ref02_Of := by
  have G1 := k1.G
  rintro ⟨n, l, f⟩ h1
  have h1 : l.length ≤ maxLen := h1
  refine .inr ⟨rfl, ?_⟩
  unfold V_ref02_Of L_ref02_Of R_ref02_Of
  simp only [↓vck_skip, ↓vck_ret, ↓vck_exit, ↓vck_region, ↓vck_nilq, ↓nilTo_to, nilG_d, nilG_r, ↓vck_seq, ↓vck_cond, ↓vck_block, ↓vck_loop, ↓vckTo_to, ↓thenK_n, ↓thenK_x, ↓thenK_r, ↓blockK_n, ↓blockK_x, ↓blockK_o, ↓blockK_r, ↓regK_to, ↓retK_r, ↓retK_n, ↓loopV_n, ↓loopV_x, ↓loopV_r, ↓famK_n, ↓famK_x, ↓famK_r, ↓boolK_true, ↓boolK_false, ↓boolK_not, ↓boolK_dec, ↓boolK_and, nf_mk, RGk_end_f, RGk_end_t, RGk_op, RGk_guard, opK_to, evN, evCallN, grow_mk, feet_f, feet_t, foot_mk, stepK_mk, stepK_v, stepK_no, guardG_t, guardG_f, guardG_no, condG_b, evT, Opd.ev, get_hit, get_next, app_to, app_no, app_up, app_skip, app_skipn, know_mk, knowO_t, knowO_c, envFrom, reserve, keeps, LOp.isNew, State.prune, cellsQ, cellsT, AV.leaf, Heap.at, evLoad_ptr, evLoad_dptr, loadO_vec, loadO_dvec1, stepK_load_map, idx_I, idx_W, rowW, set_rowW, app_rowW, app_rowW0, rep_rowW0, rowB, set_rowB, rep_rowB, rowN, lens_W, lensA_W, scal_rowW, default_W, w_or, w_and, w_andNot, w_and1, w_shl, w_shl1, w_shr, w_sub1, w_neg, w_add, w_bit, w_eq0, w_eq1, w_eq, Bool.decide_eq_true, idx_Rat, idx_Loc, idx_Act, idx_Step, idx_Stamp, stepK_idx_ref, evStore_ptr, storeO_vec, stepK_store_map1, loadDT_f, rowI, RatG.row, LocG.row, ActG.row, StepG.row, StampG.row, ActG.av, ActG.eta, RatG.eta, LocG.eta, beq_true, beq_false, loadDT_t, set_rowI, app_rowI, rep_rowI, set_rowRat, app_rowRat, rep_rowRat, set_rowLoc, app_rowLoc, app_rowAct, app_rowStep, List.length_set, List.length_replicate, toNat_cast, Int.reduceToNat, evLen, evAppend, srcOf, Src.all, Src.len, Src.leaf, joinV, drows_rep1, drows_rep2, drows_rep3, drows_rep4, drows_rep5, drows_rep6, drows_rep7, drows_rep8, mkVec, drows, evMk, List.length_map, take_mapF, drop_mapF, List.take_length, List.take_left, List.length_append, Nat.le_add_right, ite_self, List.take_of_length_le, evSlice, intOr, intOpd, Option.isSome_none, Option.isSome_some, Nat.sub_zero, loadQ, loadT, evBin, evUn, evIdxArr_d, evIdxArr_p, binT, binQ, chk, apartF, List.contains_cons, List.contains_nil, Bool.or_false, Bool.false_or, Bool.and_self, resQ, resV, resT, pickV, evCallT, evCall, fnOf, viewsT, viewT, evInt2, evEq, eqV, eqK, eqC1, buildQ, buildT, buildRQ, buildRT, lens_I, lensA_I, lens_Rat, lensA_Rat, lens_Loc, lensA_Loc, lens_Act, lensA_Act, lens_Step, lensA_Step, lens_Stamp, lensA_Stamp, List.mem_cons, List.not_mem_nil, or_false, forall_eq, putRow, dcells, get_nil, RetS, RetF, RetD, AV.frz, AV.frzL, AV.freshP, AV.freshL, DV.less, scal_int, scal_bool, scal_nil, scal_rowI, scal_rowRat, scal_rowStep, Option.some.injEq, AV.tup.injEq, AV.agg.injEq, List.cons.injEq, DV.list.injEq, List.isEmpty_nil, Nat.le_refl, AV.d.injEq, DV.int.injEq, DV.bool.injEq, ↓reduceIte, Nat.reduceEqDiff, Nat.reduceAdd, Nat.reduceBEq, List.length_cons, List.length_nil, List.replicate_succ, List.replicate_zero, List.nil_append, List.cons_append, List.append_nil, List.foldl_cons, List.foldl_nil, List.map_cons, List.map_nil, List.all_cons, List.all_nil, List.set_cons_zero, List.set_cons_succ, List.getD_cons_zero, List.getD_cons_succ, List.drop_zero, List.drop_succ_cons, List.take_succ_cons, List.take_zero, List.flatten_cons, List.flatten_nil, Bool.true_and, Bool.and_true, Bool.not_true, Bool.not_false, true_and, and_true, true_or, or_true, Option.bind_some, Option.map_some, decide_true, decide_false, beq_self_eq_true, true_implies, false_implies, implies_true, not_true_eq_false, not_false_eq_true, and_self, Bool.and_false, Bool.false_and, Nat.reduceLT, Nat.reduceLeDiff, List.reverse_cons, List.reverse_nil, Nat.zero_add, Nat.add_zero, Bool.false_eq_true, List.getElem?_cons_zero, Nat.reduceMul, Nat.mul_one, sp_Of, ofAV, G1, at_Put]
  have bad : (n < 0 ∨ 64 < n) → ofErr n l = 1 ∧ ofG n l = [] := fun h => by
    have : ofErr n l = 1 := by unfold ofErr; rw [if_pos h]
    exact ⟨this, by unfold ofG; rw [this]; rfl⟩
  refine ⟨fun c => ?_, fun c => ⟨fun c2 => ?_, fun c2 => ?_⟩⟩
  · obtain ⟨e1, e2⟩ := bad (.inl c)
    rw [e1, e2]; simp
  · obtain ⟨e1, e2⟩ := bad (.inr c2)
    rw [e1, e2]; simp
  · obtain ⟨n, rfl⟩ := Int.eq_ofNat_of_zero_le (by omega : 0 ≤ n)
    simp only [↓vck_skip, ↓vck_ret, ↓vck_exit, ↓vck_region, ↓vck_nilq, ↓nilTo_to, nilG_d, nilG_r, ↓vck_seq, ↓vck_cond, ↓vck_block, ↓vck_loop, ↓vckTo_to, ↓thenK_n, ↓thenK_x, ↓thenK_r, ↓blockK_n, ↓blockK_x, ↓blockK_o, ↓blockK_r, ↓regK_to, ↓retK_r, ↓retK_n, ↓loopV_n, ↓loopV_x, ↓loopV_r, ↓famK_n, ↓famK_x, ↓famK_r, ↓boolK_true, ↓boolK_false, ↓boolK_not, ↓boolK_dec, ↓boolK_and, nf_mk, RGk_end_f, RGk_end_t, RGk_op, RGk_guard, opK_to, evN, evCallN, grow_mk, feet_f, feet_t, foot_mk, stepK_mk, stepK_v, stepK_no, guardG_t, guardG_f, guardG_no, condG_b, evT, Opd.ev, get_hit, get_next, app_to, app_no, app_up, app_skip, app_skipn, know_mk, knowO_t, knowO_c, envFrom, reserve, keeps, LOp.isNew, State.prune, cellsQ, cellsT, AV.leaf, Heap.at, evLoad_ptr, evLoad_dptr, loadO_vec, loadO_dvec1, stepK_load_map, idx_I, idx_W, rowW, set_rowW, app_rowW, app_rowW0, rep_rowW0, rowB, set_rowB, rep_rowB, rowN, lens_W, lensA_W, scal_rowW, default_W, w_or, w_and, w_andNot, w_and1, w_shl, w_shl1, w_shr, w_sub1, w_neg, w_add, w_bit, w_eq0, w_eq1, w_eq, Bool.decide_eq_true, idx_Rat, idx_Loc, idx_Act, idx_Step, idx_Stamp, stepK_idx_ref, evStore_ptr, storeO_vec, stepK_store_map1, loadDT_f, rowI, RatG.row, LocG.row, ActG.row, StepG.row, StampG.row, ActG.av, ActG.eta, RatG.eta, LocG.eta, beq_true, beq_false, loadDT_t, set_rowI, app_rowI, rep_rowI, set_rowRat, app_rowRat, rep_rowRat, set_rowLoc, app_rowLoc, app_rowAct, app_rowStep, List.length_set, List.length_replicate, toNat_cast, Int.reduceToNat, evLen, evAppend, srcOf, Src.all, Src.len, Src.leaf, joinV, drows_rep1, drows_rep2, drows_rep3, drows_rep4, drows_rep5, drows_rep6, drows_rep7, drows_rep8, mkVec, drows, evMk, List.length_map, take_mapF, drop_mapF, List.take_length, List.take_left, List.length_append, Nat.le_add_right, ite_self, List.take_of_length_le, evSlice, intOr, intOpd, Option.isSome_none, Option.isSome_some, Nat.sub_zero, loadQ, loadT, evBin, evUn, evIdxArr_d, evIdxArr_p, binT, binQ, chk, apartF, List.contains_cons, List.contains_nil, Bool.or_false, Bool.false_or, Bool.and_self, resQ, resV, resT, pickV, evCallT, evCall, fnOf, viewsT, viewT, evInt2, evEq, eqV, eqK, eqC1, buildQ, buildT, buildRQ, buildRT, lens_I, lensA_I, lens_Rat, lensA_Rat, lens_Loc, lensA_Loc, lens_Act, lensA_Act, lens_Step, lensA_Step, lens_Stamp, lensA_Stamp, List.mem_cons, List.not_mem_nil, or_false, forall_eq, putRow, dcells, get_nil, RetS, RetF, RetD, AV.frz, AV.frzL, AV.freshP, AV.freshL, DV.less, scal_int, scal_bool, scal_nil, scal_rowI, scal_rowRat, scal_rowStep, Option.some.injEq, AV.tup.injEq, AV.agg.injEq, List.cons.injEq, DV.list.injEq, List.isEmpty_nil, Nat.le_refl, AV.d.injEq, DV.int.injEq, DV.bool.injEq, ↓reduceIte, Nat.reduceEqDiff, Nat.reduceAdd, Nat.reduceBEq, List.length_cons, List.length_nil, List.replicate_succ, List.replicate_zero, List.nil_append, List.cons_append, List.append_nil, List.foldl_cons, List.foldl_nil, List.map_cons, List.map_nil, List.all_cons, List.all_nil, List.set_cons_zero, List.set_cons_succ, List.getD_cons_zero, List.getD_cons_succ, List.drop_zero, List.drop_succ_cons, List.take_succ_cons, List.take_zero, List.flatten_cons, List.flatten_nil, Bool.true_and, Bool.and_true, Bool.not_true, Bool.not_false, true_and, and_true, true_or, or_true, Option.bind_some, Option.map_some, decide_true, decide_false, beq_self_eq_true, true_implies, false_implies, implies_true, not_true_eq_false, not_false_eq_true, and_self, Bool.and_false, Bool.false_and, Nat.reduceLT, Nat.reduceLeDiff, List.reverse_cons, List.reverse_nil, Nat.zero_add, Nat.add_zero, Bool.false_eq_true, List.getElem?_cons_zero, Nat.reduceMul, Nat.mul_one]
    refine ⟨⟨by omega, by omega, roomy_of (by omega) (by omega)⟩, ?_⟩
    have notbad : ofErr n l = if l.any (ofBad n) then 2 else 0 := by unfold ofErr; rw [if_neg (by omega)]
    have hn : n ≤ 64 := by omega
    refine Loop.fam [0, 1, 6, 7] (fun i : Nat => ⟨[(0, .d (.int .i64 n)), (1, .d (.list (l.map RatG.row) f)), (6, .ref 0 1 0 n true), (7, .d (.int .i64 i))],
        [.dvec 1 ((mkR n (ofP (l.take i))).map rowW)]⟩) (fun i => i ≤ l.length ∧ (l.take i).any (ofBad n) = false) (fun i => l.length - i) 0 [0] (by simp) (by simp) (by
          simp only [State.can, AV.can, AV.canL, HO.can, canRows, idx, get_hit, get_next, Heap.at, Nat.reduceBEq, ↓reduceIte, Nat.reduceEqDiff, Option.getD_some, Option.map_some, List.map_cons, List.map_nil, List.getD_cons_zero, List.getD_cons_succ]
          rw [mkR_zero (p := ofP (l.take 0)) (fun i k _ _ => by simp [ofP])]; rfl) ⟨by omega, by simp⟩ ?_
    rintro i ⟨hi, hb⟩
    simp only [↓vck_skip, ↓vck_ret, ↓vck_exit, ↓vck_region, ↓vck_nilq, ↓nilTo_to, nilG_d, nilG_r, ↓vck_seq, ↓vck_cond, ↓vck_block, ↓vck_loop, ↓vckTo_to, ↓thenK_n, ↓thenK_x, ↓thenK_r, ↓blockK_n, ↓blockK_x, ↓blockK_o, ↓blockK_r, ↓regK_to, ↓retK_r, ↓retK_n, ↓loopV_n, ↓loopV_x, ↓loopV_r, ↓famK_n, ↓famK_x, ↓famK_r, ↓boolK_true, ↓boolK_false, ↓boolK_not, ↓boolK_dec, ↓boolK_and, nf_mk, RGk_end_f, RGk_end_t, RGk_op, RGk_guard, opK_to, evN, evCallN, grow_mk, feet_f, feet_t, foot_mk, stepK_mk, stepK_v, stepK_no, guardG_t, guardG_f, guardG_no, condG_b, evT, Opd.ev, get_hit, get_next, app_to, app_no, app_up, app_skip, app_skipn, know_mk, knowO_t, knowO_c, envFrom, reserve, keeps, LOp.isNew, State.prune, cellsQ, cellsT, AV.leaf, Heap.at, evLoad_ptr, evLoad_dptr, loadO_vec, loadO_dvec1, stepK_load_map, idx_I, idx_W, rowW, set_rowW, app_rowW, app_rowW0, rep_rowW0, rowB, set_rowB, rep_rowB, rowN, lens_W, lensA_W, scal_rowW, default_W, w_or, w_and, w_andNot, w_and1, w_shl, w_shl1, w_shr, w_sub1, w_neg, w_add, w_bit, w_eq0, w_eq1, w_eq, Bool.decide_eq_true, idx_Rat, idx_Loc, idx_Act, idx_Step, idx_Stamp, stepK_idx_ref, evStore_ptr, storeO_vec, stepK_store_map1, loadDT_f, rowI, RatG.row, LocG.row, ActG.row, StepG.row, StampG.row, ActG.av, ActG.eta, RatG.eta, LocG.eta, beq_true, beq_false, loadDT_t, set_rowI, app_rowI, rep_rowI, set_rowRat, app_rowRat, rep_rowRat, set_rowLoc, app_rowLoc, app_rowAct, app_rowStep, List.length_set, List.length_replicate, toNat_cast, Int.reduceToNat, evLen, evAppend, srcOf, Src.all, Src.len, Src.leaf, joinV, drows_rep1, drows_rep2, drows_rep3, drows_rep4, drows_rep5, drows_rep6, drows_rep7, drows_rep8, mkVec, drows, evMk, List.length_map, take_mapF, drop_mapF, List.take_length, List.take_left, List.length_append, Nat.le_add_right, ite_self, List.take_of_length_le, evSlice, intOr, intOpd, Option.isSome_none, Option.isSome_some, Nat.sub_zero, loadQ, loadT, evBin, evUn, evIdxArr_d, evIdxArr_p, binT, binQ, chk, apartF, List.contains_cons, List.contains_nil, Bool.or_false, Bool.false_or, Bool.and_self, resQ, resV, resT, pickV, evCallT, evCall, fnOf, viewsT, viewT, evInt2, evEq, eqV, eqK, eqC1, buildQ, buildT, buildRQ, buildRT, lens_I, lensA_I, lens_Rat, lensA_Rat, lens_Loc, lensA_Loc, lens_Act, lensA_Act, lens_Step, lensA_Step, lens_Stamp, lensA_Stamp, List.mem_cons, List.not_mem_nil, or_false, forall_eq, putRow, dcells, get_nil, RetS, RetF, RetD, AV.frz, AV.frzL, AV.freshP, AV.freshL, DV.less, scal_int, scal_bool, scal_nil, scal_rowI, scal_rowRat, scal_rowStep, Option.some.injEq, AV.tup.injEq, AV.agg.injEq, List.cons.injEq, DV.list.injEq, List.isEmpty_nil, Nat.le_refl, AV.d.injEq, DV.int.injEq, DV.bool.injEq, ↓reduceIte, Nat.reduceEqDiff, Nat.reduceAdd, Nat.reduceBEq, List.length_cons, List.length_nil, List.replicate_succ, List.replicate_zero, List.nil_append, List.cons_append, List.append_nil, List.foldl_cons, List.foldl_nil, List.map_cons, List.map_nil, List.all_cons, List.all_nil, List.set_cons_zero, List.set_cons_succ, List.getD_cons_zero, List.getD_cons_succ, List.drop_zero, List.drop_succ_cons, List.take_succ_cons, List.take_zero, List.flatten_cons, List.flatten_nil, Bool.true_and, Bool.and_true, Bool.not_true, Bool.not_false, true_and, and_true, true_or, or_true, Option.bind_some, Option.map_some, decide_true, decide_false, beq_self_eq_true, true_implies, false_implies, implies_true, not_true_eq_false, not_false_eq_true, and_self, Bool.and_false, Bool.false_and, Nat.reduceLT, Nat.reduceLeDiff, List.reverse_cons, List.reverse_nil, Nat.zero_add, Nat.add_zero, Bool.false_eq_true, List.getElem?_cons_zero, Nat.reduceMul, Nat.mul_one, G1, at_Put, putE_d, mkR_len, szR_mk' hn]
    refine ⟨fun g => ?_, fun g => ?_⟩
    · have g' : i < l.length := by omega
      have e1 := any_take_succ (q := ofBad n) (d := default) g'
      have e2 : ∀ a b, _ := fun a b => ofP_take (a := a) (b := b) g'
      have out : ofBad n (l.getD i default) = true → ofErr n l = 2 ∧ ofG n l = [] := fun h => by
        have h2 : l.any (ofBad n) = true := by
          rw [List.any_eq_true]
          refine ⟨l.getD i default, ?_, h⟩
          rw [getD_lt g']; exact List.getElem_mem g'
        have : ofErr n l = 2 := by rw [notbad, if_pos h2]
        exact ⟨this, by unfold ofG; rw [this]; rfl⟩
      generalize l.getD i default = x at *
      simp only [wrap_succ g' h1]
      have isbad : ∀ q : ofBad n x = true, ([] : List (List DV)) = List.map rowW (ofG n l) ∧ (2 : Int) = ofErr n l := fun q => by
        obtain ⟨o1, o2⟩ := out q
        rw [o1, o2]; simp
      refine ⟨by omega, by omega, by omega, by omega, fun b1 => isbad (by simp [ofBad, b1]), fun b1 => ⟨fun b2 => isbad (by simp [ofBad, b2]), fun b2 => ⟨fun b3 => isbad (by simp [ofBad, b3]), fun b3 => ⟨fun b4 => isbad (by simp [ofBad, b4]), fun b4 => ?_⟩⟩⟩⟩
      have nb : ofBad n x = false := by simp [ofBad]; omega
      obtain ⟨a, ha⟩ := Int.eq_ofNat_of_zero_le (by omega : 0 ≤ x.num)
      obtain ⟨b, hb2⟩ := Int.eq_ofNat_of_zero_le (by omega : 0 ≤ x.den)
      simp only [ha, hb2] at e2 b2 b3 b4 ⊢
      simp only [toNat_cast]
      have han : a < n := by omega
      have hbn : b < n := by omega
      rw [putR_mk hn han hbn]
      refine ⟨by omega, ?_⟩
      refine FamNext.mk [0] (i + 1) (by simp) (by simp) ?_ ⟨by omega, by rw [e1, hb, nb]; rfl⟩ (by omega)
      rw [show mkR n (ofP (l.take (i + 1))) = mkR n (fun p q => ofP (l.take i) p q || (decide (p = a) && decide (q = b))) from mkR_congr fun p q _ _ => by
        rw [e2]
        rw [decide_cast, decide_cast]]
      simp only [State.can, AV.can, AV.canL, HO.can, canRows, idx, get_hit, get_next, Heap.at, Nat.reduceBEq, ↓reduceIte, Nat.reduceEqDiff, Option.getD_some, Option.map_some, List.map_cons, List.map_nil, List.getD_cons_zero, List.getD_cons_succ]
    · have : i = l.length := by omega
      subst this
      rw [List.take_length] at hb ⊢
      have e1 : ofErr n l = 0 := by rw [notbad, hb]; rfl
      have e2 : ofG n l = mkR n (ofP l) := by unfold ofG; rw [e1, if_pos rfl]; rfl
      rw [e1, e2]
      simp [mkR_len, List.take_of_length_le]
end Go.Ago

/- Contracts of the reference of layer 2: Lay, Then, Back. Conditions: none. -/
set_option maxRecDepth 100000
set_option linter.unusedSimpArgs false
set_option linter.unusedVariables false
namespace Go.Ago

/-! Row by row, place by place: what lies ahead of (i, k). -/
def dn (i k a b : Nat) : Bool := decide (a < i) || decide (a = i) && decide (b < k)
theorem dn_step {i k a b : Nat} : dn i (k + 1) a b = (dn i k a b || (decide (a = i) && decide (b = k))) := by
  unfold dn
  by_cases h1 : a < i <;> by_cases h2 : a = i <;> by_cases h3 : b < k <;> by_cases h4 : b = k <;> simp [h1, h2, h3, h4] <;> omega
theorem dn_next {i n a b : Nat} (hb : b < n) : dn i n a b = dn (i + 1) 0 a b := by
  unfold dn
  by_cases h1 : a < i
  · have : a < i + 1 := by omega
    simp [h1, this]
  · by_cases h2 : a = i
    · subst h2; simp [hb]
    · have : ¬ a < i + 1 := by omega
      simp [h1, h2, this]
theorem dn_start {a b : Nat} : dn 0 0 a b = false := by unfold dn; simp
theorem dn_end {n a b : Nat} (ha : a < n) : dn n 0 a b = true := by unfold dn; simp [ha]
theorem dn_put {q : Nat → Nat → Bool} {i k : Nat} (h : q i k = true) (a b : Nat) : (dn i (k + 1) a b && q a b) = ((dn i k a b && q a b) || (decide (a = i) && decide (b = k))) := by
  rw [dn_step]
  by_cases h1 : a = i
  · by_cases h2 : b = k
    · subst h1; subst h2; simp [h]
    · simp [h1, h2]
  · simp [h1]
theorem dn_no {q : Nat → Nat → Bool} {i k : Nat} (h : q i k = false) (a b : Nat) : (dn i (k + 1) a b && q a b) = (dn i k a b && q a b) := by
  rw [dn_step]
  by_cases h1 : a = i
  · by_cases h2 : b = k
    · subst h1; subst h2; simp [h]
    · simp [h1, h2]
  · simp [h1]

/-! ### Lay -/
def layQ (how : Int) (x y : Bool) : Bool := decide (how = 0) && (x || y) || decide (how = 1) && x && y || decide (how = 2) && x && !y
def sp_layR : Sp := ⟨List W × Bool × List W × Bool × Int, fun x => [.d (.list (x.1.map rowW) x.2.1), .d (.list (x.2.2.1.map rowW) x.2.2.2.1), .d (.int .i64 x.2.2.2.2)], fun x => .rows (x.1.length ≤ maxLen ∧ x.2.2.1.length ≤ maxLen) 1 ((lay2 (layQ x.2.2.2.2) x.1 x.2.2.1).map rowW)⟩
theorem at_layR (A B : List W) (e f : Bool) (how : Int) : sp_layR.at [.d (.list (A.map rowW) e), .d (.list (B.map rowW) f), .d (.int .i64 how)] = .rows (A.length ≤ maxLen ∧ B.length ≤ maxLen) 1 ((lay2 (layQ how) A B).map rowW) :=
  Sp.at_enc (s := sp_layR) (fun x y h => by
    obtain ⟨a, b, c, d, e⟩ := x; obtain ⟨a', b', c', d', e'⟩ := y
    simp only [sp_layR, List.cons.injEq, AV.d.injEq, DV.list.injEq, DV.int.injEq, and_true, true_and] at h
    rw [rows_inj rowW_inj h.1.1, h.1.2, rows_inj rowW_inj h.2.1.1, h.2.1.2, h.2.2]) (A, e, B, f, how)
theorem lay2_or (A B : List W) : lay2 (layQ 0) A B = lay2 qOr A B := by
  apply mkR_congr; intro i k _ _; unfold layQ qOr; simp
theorem lay2_and (A B : List W) : lay2 (layQ 1) A B = lay2 qAnd A B := by
  apply mkR_congr; intro i k _ _; unfold layQ qAnd; simp
theorem lay2_minus (A B : List W) : lay2 (layQ 2) A B = lay2 qMinus A B := by
  apply mkR_congr; intro i k _ _; unfold layQ qMinus; simp
theorem body_ref02_Lay {T : Tab} {n1 n2 n3 : Nat} (k1 : Knows T n1 sp_Has) (k2 : KnowsG T n2 ef_Put.at) (k3 : Knows T n3 sp_most) : sp_layR.Body T V_ref02_Lay (L_ref02_Lay n1 n2 n3) R_ref02_Lay := by
  have F1 := k1.F; have G1 := k1.G; have G2 := k2.G; have F3 := k3.F; have G3 := k3.G
  rintro ⟨A, e, B, f, how⟩ ⟨h1, h2⟩
  have h1 : A.length ≤ maxLen := h1
  have h2 : B.length ≤ maxLen := h2
  refine ⟨rows_len (f := rowW) (fun _ => rfl) _, ?_⟩
  unfold V_ref02_Lay L_ref02_Lay R_ref02_Lay
  simp only [↓vck_skip, ↓vck_ret, ↓vck_exit, ↓vck_region, ↓vck_nilq, ↓nilTo_to, nilG_d, nilG_r, ↓vck_seq, ↓vck_cond, ↓vck_block, ↓vck_loop, ↓vckTo_to, ↓thenK_n, ↓thenK_x, ↓thenK_r, ↓blockK_n, ↓blockK_x, ↓blockK_o, ↓blockK_r, ↓regK_to, ↓retK_r, ↓retK_n, ↓loopV_n, ↓loopV_x, ↓loopV_r, ↓famK_n, ↓famK_x, ↓famK_r, ↓boolK_true, ↓boolK_false, ↓boolK_not, ↓boolK_dec, ↓boolK_and, nf_mk, RGk_end_f, RGk_end_t, RGk_op, RGk_guard, opK_to, evN, evCallN, grow_mk, feet_f, feet_t, foot_mk, stepK_mk, stepK_v, stepK_no, guardG_t, guardG_f, guardG_no, condG_b, evT, Opd.ev, get_hit, get_next, app_to, app_no, app_up, app_skip, app_skipn, know_mk, knowO_t, knowO_c, envFrom, reserve, keeps, LOp.isNew, State.prune, cellsQ, cellsT, AV.leaf, Heap.at, evLoad_ptr, evLoad_dptr, loadO_vec, loadO_dvec1, stepK_load_map, idx_I, idx_W, rowW, set_rowW, app_rowW, app_rowW0, rep_rowW0, rowB, set_rowB, rep_rowB, rowN, lens_W, lensA_W, scal_rowW, default_W, w_or, w_and, w_andNot, w_and1, w_shl, w_shl1, w_shr, w_sub1, w_neg, w_add, w_bit, w_eq0, w_eq1, w_eq, Bool.decide_eq_true, idx_Rat, idx_Loc, idx_Act, idx_Step, idx_Stamp, stepK_idx_ref, evStore_ptr, storeO_vec, stepK_store_map1, loadDT_f, rowI, RatG.row, LocG.row, ActG.row, StepG.row, StampG.row, ActG.av, ActG.eta, RatG.eta, LocG.eta, beq_true, beq_false, loadDT_t, set_rowI, app_rowI, rep_rowI, set_rowRat, app_rowRat, rep_rowRat, set_rowLoc, app_rowLoc, app_rowAct, app_rowStep, List.length_set, List.length_replicate, toNat_cast, Int.reduceToNat, evLen, evAppend, srcOf, Src.all, Src.len, Src.leaf, joinV, drows_rep1, drows_rep2, drows_rep3, drows_rep4, drows_rep5, drows_rep6, drows_rep7, drows_rep8, mkVec, drows, evMk, List.length_map, take_mapF, drop_mapF, List.take_length, List.take_left, List.length_append, Nat.le_add_right, ite_self, List.take_of_length_le, evSlice, intOr, intOpd, Option.isSome_none, Option.isSome_some, Nat.sub_zero, loadQ, loadT, evBin, evUn, evIdxArr_d, evIdxArr_p, binT, binQ, chk, apartF, List.contains_cons, List.contains_nil, Bool.or_false, Bool.false_or, Bool.and_self, resQ, resV, resT, pickV, evCallT, evCall, fnOf, viewsT, viewT, evInt2, evEq, eqV, eqK, eqC1, buildQ, buildT, buildRQ, buildRT, lens_I, lensA_I, lens_Rat, lensA_Rat, lens_Loc, lensA_Loc, lens_Act, lensA_Act, lens_Step, lensA_Step, lens_Stamp, lensA_Stamp, List.mem_cons, List.not_mem_nil, or_false, forall_eq, putRow, dcells, get_nil, RetS, RetF, RetD, AV.frz, AV.frzL, AV.freshP, AV.freshL, DV.less, scal_int, scal_bool, scal_nil, scal_rowI, scal_rowRat, scal_rowStep, Option.some.injEq, AV.tup.injEq, AV.agg.injEq, List.cons.injEq, DV.list.injEq, List.isEmpty_nil, Nat.le_refl, AV.d.injEq, DV.int.injEq, DV.bool.injEq, ↓reduceIte, Nat.reduceEqDiff, Nat.reduceAdd, Nat.reduceBEq, List.length_cons, List.length_nil, List.replicate_succ, List.replicate_zero, List.nil_append, List.cons_append, List.append_nil, List.foldl_cons, List.foldl_nil, List.map_cons, List.map_nil, List.all_cons, List.all_nil, List.set_cons_zero, List.set_cons_succ, List.getD_cons_zero, List.getD_cons_succ, List.drop_zero, List.drop_succ_cons, List.take_succ_cons, List.take_zero, List.flatten_cons, List.flatten_nil, Bool.true_and, Bool.and_true, Bool.not_true, Bool.not_false, true_and, and_true, true_or, or_true, Option.bind_some, Option.map_some, decide_true, decide_false, beq_self_eq_true, true_implies, false_implies, implies_true, not_true_eq_false, not_false_eq_true, and_self, Bool.and_false, Bool.false_and, Nat.reduceLT, Nat.reduceLeDiff, List.reverse_cons, List.reverse_nil, Nat.zero_add, Nat.add_zero, Bool.false_eq_true, List.getElem?_cons_zero, Nat.reduceMul, Nat.mul_one, sp_layR, F1, G1, G2, F3, G3, at_Has, at_Put, at_most']
  have hle := mxR_le A B
  obtain ⟨q, hq⟩ : ∃ q : Nat → Nat → Bool, ∀ a b, q a b = layQ how (hasN A a b) (hasN B a b) := ⟨_, fun _ _ => rfl⟩
  have hfin : lay2 (layQ how) A B = mkR (mxR A B) q := mkR_congr fun a b _ _ => (hq a b).symm
  rw [hfin]
  generalize mxR A B = n at *
  refine ⟨⟨h1, h2⟩, ⟨by omega, by omega, roomy_of (by omega) (by omega)⟩, ?_⟩
  refine Loop.fam [0, 1, 2, 7, 8, 9] (fun i : Nat => ⟨[(0, .d (.list (A.map rowW) e)), (1, .d (.list (B.map rowW) f)), (2, .d (.int .i64 how)), (7, .d (.int .i64 n)), (8, .ref 0 1 0 n true), (9, .d (.int .i64 i))],
      [.dvec 1 ((mkR n (fun a b => dn i 0 a b && q a b)).map rowW)]⟩) (fun i => i ≤ n) (fun i => n - i) 0 [0] (by simp) (by simp) (by
        simp only [State.can, AV.can, AV.canL, HO.can, canRows, idx, get_hit, get_next, Heap.at, Nat.reduceBEq, ↓reduceIte, Nat.reduceEqDiff, Option.getD_some, Option.map_some, List.map_cons, List.map_nil, List.getD_cons_zero, List.getD_cons_succ]
        rw [mkR_zero (p := fun a b => dn 0 0 a b && q a b) (fun a b _ _ => by simp [dn_start])]; rfl) (by omega) ?_
  intro i hi
  simp only [↓vck_skip, ↓vck_ret, ↓vck_exit, ↓vck_region, ↓vck_nilq, ↓nilTo_to, nilG_d, nilG_r, ↓vck_seq, ↓vck_cond, ↓vck_block, ↓vck_loop, ↓vckTo_to, ↓thenK_n, ↓thenK_x, ↓thenK_r, ↓blockK_n, ↓blockK_x, ↓blockK_o, ↓blockK_r, ↓regK_to, ↓retK_r, ↓retK_n, ↓loopV_n, ↓loopV_x, ↓loopV_r, ↓famK_n, ↓famK_x, ↓famK_r, ↓boolK_true, ↓boolK_false, ↓boolK_not, ↓boolK_dec, ↓boolK_and, nf_mk, RGk_end_f, RGk_end_t, RGk_op, RGk_guard, opK_to, evN, evCallN, grow_mk, feet_f, feet_t, foot_mk, stepK_mk, stepK_v, stepK_no, guardG_t, guardG_f, guardG_no, condG_b, evT, Opd.ev, get_hit, get_next, app_to, app_no, app_up, app_skip, app_skipn, know_mk, knowO_t, knowO_c, envFrom, reserve, keeps, LOp.isNew, State.prune, cellsQ, cellsT, AV.leaf, Heap.at, evLoad_ptr, evLoad_dptr, loadO_vec, loadO_dvec1, stepK_load_map, idx_I, idx_W, rowW, set_rowW, app_rowW, app_rowW0, rep_rowW0, rowB, set_rowB, rep_rowB, rowN, lens_W, lensA_W, scal_rowW, default_W, w_or, w_and, w_andNot, w_and1, w_shl, w_shl1, w_shr, w_sub1, w_neg, w_add, w_bit, w_eq0, w_eq1, w_eq, Bool.decide_eq_true, idx_Rat, idx_Loc, idx_Act, idx_Step, idx_Stamp, stepK_idx_ref, evStore_ptr, storeO_vec, stepK_store_map1, loadDT_f, rowI, RatG.row, LocG.row, ActG.row, StepG.row, StampG.row, ActG.av, ActG.eta, RatG.eta, LocG.eta, beq_true, beq_false, loadDT_t, set_rowI, app_rowI, rep_rowI, set_rowRat, app_rowRat, rep_rowRat, set_rowLoc, app_rowLoc, app_rowAct, app_rowStep, List.length_set, List.length_replicate, toNat_cast, Int.reduceToNat, evLen, evAppend, srcOf, Src.all, Src.len, Src.leaf, joinV, drows_rep1, drows_rep2, drows_rep3, drows_rep4, drows_rep5, drows_rep6, drows_rep7, drows_rep8, mkVec, drows, evMk, List.length_map, take_mapF, drop_mapF, List.take_length, List.take_left, List.length_append, Nat.le_add_right, ite_self, List.take_of_length_le, evSlice, intOr, intOpd, Option.isSome_none, Option.isSome_some, Nat.sub_zero, loadQ, loadT, evBin, evUn, evIdxArr_d, evIdxArr_p, binT, binQ, chk, apartF, List.contains_cons, List.contains_nil, Bool.or_false, Bool.false_or, Bool.and_self, resQ, resV, resT, pickV, evCallT, evCall, fnOf, viewsT, viewT, evInt2, evEq, eqV, eqK, eqC1, buildQ, buildT, buildRQ, buildRT, lens_I, lensA_I, lens_Rat, lensA_Rat, lens_Loc, lensA_Loc, lens_Act, lensA_Act, lens_Step, lensA_Step, lens_Stamp, lensA_Stamp, List.mem_cons, List.not_mem_nil, or_false, forall_eq, putRow, dcells, get_nil, RetS, RetF, RetD, AV.frz, AV.frzL, AV.freshP, AV.freshL, DV.less, scal_int, scal_bool, scal_nil, scal_rowI, scal_rowRat, scal_rowStep, Option.some.injEq, AV.tup.injEq, AV.agg.injEq, List.cons.injEq, DV.list.injEq, List.isEmpty_nil, Nat.le_refl, AV.d.injEq, DV.int.injEq, DV.bool.injEq, ↓reduceIte, Nat.reduceEqDiff, Nat.reduceAdd, Nat.reduceBEq, List.length_cons, List.length_nil, List.replicate_succ, List.replicate_zero, List.nil_append, List.cons_append, List.append_nil, List.foldl_cons, List.foldl_nil, List.map_cons, List.map_nil, List.all_cons, List.all_nil, List.set_cons_zero, List.set_cons_succ, List.getD_cons_zero, List.getD_cons_succ, List.drop_zero, List.drop_succ_cons, List.take_succ_cons, List.take_zero, List.flatten_cons, List.flatten_nil, Bool.true_and, Bool.and_true, Bool.not_true, Bool.not_false, true_and, and_true, true_or, or_true, Option.bind_some, Option.map_some, decide_true, decide_false, beq_self_eq_true, true_implies, false_implies, implies_true, not_true_eq_false, not_false_eq_true, and_self, Bool.and_false, Bool.false_and, Nat.reduceLT, Nat.reduceLeDiff, List.reverse_cons, List.reverse_nil, Nat.zero_add, Nat.add_zero, Bool.false_eq_true, List.getElem?_cons_zero, Nat.reduceMul, Nat.mul_one, F1, G1, G2, F3, G3, at_Has, at_Put, at_most']
  refine ⟨fun c => ?_, fun c => ?_⟩
  · have c' : i < n := by omega
    refine Loop.fam [0, 1, 2, 7, 8, 9, 10] (fun k : Nat => ⟨[(0, .d (.list (A.map rowW) e)), (1, .d (.list (B.map rowW) f)), (2, .d (.int .i64 how)), (7, .d (.int .i64 n)), (8, .ref 0 1 0 n true), (9, .d (.int .i64 i)), (10, .d (.int .i64 k))],
      [.dvec 1 ((mkR n (fun a b => dn i k a b && q a b)).map rowW)]⟩) (fun k => k ≤ n) (fun k => n - k) 0 [0] (by simp) (by simp) (by simp only [State.can, AV.can, AV.canL, HO.can, canRows, idx, get_hit, get_next, Heap.at, Nat.reduceBEq, ↓reduceIte, Nat.reduceEqDiff, Option.getD_some, Option.map_some, List.map_cons, List.map_nil, List.getD_cons_zero, List.getD_cons_succ]; rfl) (by omega) ?_
    intro k hk
    have hx : hasI A i k = hasN A i k := hasI_nat
    have hy : hasI B i k = hasN B i k := hasI_nat
    have hqik := hq i k
    simp only [↓vck_skip, ↓vck_ret, ↓vck_exit, ↓vck_region, ↓vck_nilq, ↓nilTo_to, nilG_d, nilG_r, ↓vck_seq, ↓vck_cond, ↓vck_block, ↓vck_loop, ↓vckTo_to, ↓thenK_n, ↓thenK_x, ↓thenK_r, ↓blockK_n, ↓blockK_x, ↓blockK_o, ↓blockK_r, ↓regK_to, ↓retK_r, ↓retK_n, ↓loopV_n, ↓loopV_x, ↓loopV_r, ↓famK_n, ↓famK_x, ↓famK_r, ↓boolK_true, ↓boolK_false, ↓boolK_not, ↓boolK_dec, ↓boolK_and, nf_mk, RGk_end_f, RGk_end_t, RGk_op, RGk_guard, opK_to, evN, evCallN, grow_mk, feet_f, feet_t, foot_mk, stepK_mk, stepK_v, stepK_no, guardG_t, guardG_f, guardG_no, condG_b, evT, Opd.ev, get_hit, get_next, app_to, app_no, app_up, app_skip, app_skipn, know_mk, knowO_t, knowO_c, envFrom, reserve, keeps, LOp.isNew, State.prune, cellsQ, cellsT, AV.leaf, Heap.at, evLoad_ptr, evLoad_dptr, loadO_vec, loadO_dvec1, stepK_load_map, idx_I, idx_W, rowW, set_rowW, app_rowW, app_rowW0, rep_rowW0, rowB, set_rowB, rep_rowB, rowN, lens_W, lensA_W, scal_rowW, default_W, w_or, w_and, w_andNot, w_and1, w_shl, w_shl1, w_shr, w_sub1, w_neg, w_add, w_bit, w_eq0, w_eq1, w_eq, Bool.decide_eq_true, idx_Rat, idx_Loc, idx_Act, idx_Step, idx_Stamp, stepK_idx_ref, evStore_ptr, storeO_vec, stepK_store_map1, loadDT_f, rowI, RatG.row, LocG.row, ActG.row, StepG.row, StampG.row, ActG.av, ActG.eta, RatG.eta, LocG.eta, beq_true, beq_false, loadDT_t, set_rowI, app_rowI, rep_rowI, set_rowRat, app_rowRat, rep_rowRat, set_rowLoc, app_rowLoc, app_rowAct, app_rowStep, List.length_set, List.length_replicate, toNat_cast, Int.reduceToNat, evLen, evAppend, srcOf, Src.all, Src.len, Src.leaf, joinV, drows_rep1, drows_rep2, drows_rep3, drows_rep4, drows_rep5, drows_rep6, drows_rep7, drows_rep8, mkVec, drows, evMk, List.length_map, take_mapF, drop_mapF, List.take_length, List.take_left, List.length_append, Nat.le_add_right, ite_self, List.take_of_length_le, evSlice, intOr, intOpd, Option.isSome_none, Option.isSome_some, Nat.sub_zero, loadQ, loadT, evBin, evUn, evIdxArr_d, evIdxArr_p, binT, binQ, chk, apartF, List.contains_cons, List.contains_nil, Bool.or_false, Bool.false_or, Bool.and_self, resQ, resV, resT, pickV, evCallT, evCall, fnOf, viewsT, viewT, evInt2, evEq, eqV, eqK, eqC1, buildQ, buildT, buildRQ, buildRT, lens_I, lensA_I, lens_Rat, lensA_Rat, lens_Loc, lensA_Loc, lens_Act, lensA_Act, lens_Step, lensA_Step, lens_Stamp, lensA_Stamp, List.mem_cons, List.not_mem_nil, or_false, forall_eq, putRow, dcells, get_nil, RetS, RetF, RetD, AV.frz, AV.frzL, AV.freshP, AV.freshL, DV.less, scal_int, scal_bool, scal_nil, scal_rowI, scal_rowRat, scal_rowStep, Option.some.injEq, AV.tup.injEq, AV.agg.injEq, List.cons.injEq, DV.list.injEq, List.isEmpty_nil, Nat.le_refl, AV.d.injEq, DV.int.injEq, DV.bool.injEq, ↓reduceIte, Nat.reduceEqDiff, Nat.reduceAdd, Nat.reduceBEq, List.length_cons, List.length_nil, List.replicate_succ, List.replicate_zero, List.nil_append, List.cons_append, List.append_nil, List.foldl_cons, List.foldl_nil, List.map_cons, List.map_nil, List.all_cons, List.all_nil, List.set_cons_zero, List.set_cons_succ, List.getD_cons_zero, List.getD_cons_succ, List.drop_zero, List.drop_succ_cons, List.take_succ_cons, List.take_zero, List.flatten_cons, List.flatten_nil, Bool.true_and, Bool.and_true, Bool.not_true, Bool.not_false, true_and, and_true, true_or, or_true, Option.bind_some, Option.map_some, decide_true, decide_false, beq_self_eq_true, true_implies, false_implies, implies_true, not_true_eq_false, not_false_eq_true, and_self, Bool.and_false, Bool.false_and, Nat.reduceLT, Nat.reduceLeDiff, List.reverse_cons, List.reverse_nil, Nat.zero_add, Nat.add_zero, Bool.false_eq_true, List.getElem?_cons_zero, Nat.reduceMul, Nat.mul_one, F1, G1, G2, F3, G3, at_Has, at_Put, at_most', putE_d, mkR_len, szR_mk' hle, hx, hy]
    refine ⟨fun g => ?_, fun g => ?_⟩
    · have g' : k < n := by omega
      simp only [wrap_succ g' (by unfold maxLen; omega)]
      rw [putR_mk hle c' g']
      have eput : q i k = true → mkR n (fun a b => dn i (k + 1) a b && q a b) = mkR n (fun a b => (dn i k a b && q a b) || (decide (a = i) && decide (b = k))) := fun h => mkR_congr fun a b _ _ => dn_put h a b
      have eno : q i k = false → mkR n (fun a b => dn i (k + 1) a b && q a b) = mkR n (fun a b => dn i k a b && q a b) := fun h => mkR_congr fun a b _ _ => dn_no h a b
      refine ⟨h1, h2, ?_⟩
      cases hxv : hasN A i k <;> cases hyv : hasN B i k <;> simp only [↓vck_skip, ↓vck_ret, ↓vck_exit, ↓vck_region, ↓vck_nilq, ↓nilTo_to, nilG_d, nilG_r, ↓vck_seq, ↓vck_cond, ↓vck_block, ↓vck_loop, ↓vckTo_to, ↓thenK_n, ↓thenK_x, ↓thenK_r, ↓blockK_n, ↓blockK_x, ↓blockK_o, ↓blockK_r, ↓regK_to, ↓retK_r, ↓retK_n, ↓loopV_n, ↓loopV_x, ↓loopV_r, ↓famK_n, ↓famK_x, ↓famK_r, ↓boolK_true, ↓boolK_false, ↓boolK_not, ↓boolK_dec, ↓boolK_and, nf_mk, RGk_end_f, RGk_end_t, RGk_op, RGk_guard, opK_to, evN, evCallN, grow_mk, feet_f, feet_t, foot_mk, stepK_mk, stepK_v, stepK_no, guardG_t, guardG_f, guardG_no, condG_b, evT, Opd.ev, get_hit, get_next, app_to, app_no, app_up, app_skip, app_skipn, know_mk, knowO_t, knowO_c, envFrom, reserve, keeps, LOp.isNew, State.prune, cellsQ, cellsT, AV.leaf, Heap.at, evLoad_ptr, evLoad_dptr, loadO_vec, loadO_dvec1, stepK_load_map, idx_I, idx_W, rowW, set_rowW, app_rowW, app_rowW0, rep_rowW0, rowB, set_rowB, rep_rowB, rowN, lens_W, lensA_W, scal_rowW, default_W, w_or, w_and, w_andNot, w_and1, w_shl, w_shl1, w_shr, w_sub1, w_neg, w_add, w_bit, w_eq0, w_eq1, w_eq, Bool.decide_eq_true, idx_Rat, idx_Loc, idx_Act, idx_Step, idx_Stamp, stepK_idx_ref, evStore_ptr, storeO_vec, stepK_store_map1, loadDT_f, rowI, RatG.row, LocG.row, ActG.row, StepG.row, StampG.row, ActG.av, ActG.eta, RatG.eta, LocG.eta, beq_true, beq_false, loadDT_t, set_rowI, app_rowI, rep_rowI, set_rowRat, app_rowRat, rep_rowRat, set_rowLoc, app_rowLoc, app_rowAct, app_rowStep, List.length_set, List.length_replicate, toNat_cast, Int.reduceToNat, evLen, evAppend, srcOf, Src.all, Src.len, Src.leaf, joinV, drows_rep1, drows_rep2, drows_rep3, drows_rep4, drows_rep5, drows_rep6, drows_rep7, drows_rep8, mkVec, drows, evMk, List.length_map, take_mapF, drop_mapF, List.take_length, List.take_left, List.length_append, Nat.le_add_right, ite_self, List.take_of_length_le, evSlice, intOr, intOpd, Option.isSome_none, Option.isSome_some, Nat.sub_zero, loadQ, loadT, evBin, evUn, evIdxArr_d, evIdxArr_p, binT, binQ, chk, apartF, List.contains_cons, List.contains_nil, Bool.or_false, Bool.false_or, Bool.and_self, resQ, resV, resT, pickV, evCallT, evCall, fnOf, viewsT, viewT, evInt2, evEq, eqV, eqK, eqC1, buildQ, buildT, buildRQ, buildRT, lens_I, lensA_I, lens_Rat, lensA_Rat, lens_Loc, lensA_Loc, lens_Act, lensA_Act, lens_Step, lensA_Step, lens_Stamp, lensA_Stamp, List.mem_cons, List.not_mem_nil, or_false, forall_eq, putRow, dcells, get_nil, RetS, RetF, RetD, AV.frz, AV.frzL, AV.freshP, AV.freshL, DV.less, scal_int, scal_bool, scal_nil, scal_rowI, scal_rowRat, scal_rowStep, Option.some.injEq, AV.tup.injEq, AV.agg.injEq, List.cons.injEq, DV.list.injEq, List.isEmpty_nil, Nat.le_refl, AV.d.injEq, DV.int.injEq, DV.bool.injEq, ↓reduceIte, Nat.reduceEqDiff, Nat.reduceAdd, Nat.reduceBEq, List.length_cons, List.length_nil, List.replicate_succ, List.replicate_zero, List.nil_append, List.cons_append, List.append_nil, List.foldl_cons, List.foldl_nil, List.map_cons, List.map_nil, List.all_cons, List.all_nil, List.set_cons_zero, List.set_cons_succ, List.getD_cons_zero, List.getD_cons_succ, List.drop_zero, List.drop_succ_cons, List.take_succ_cons, List.take_zero, List.flatten_cons, List.flatten_nil, Bool.true_and, Bool.and_true, Bool.not_true, Bool.not_false, true_and, and_true, true_or, or_true, Option.bind_some, Option.map_some, decide_true, decide_false, beq_self_eq_true, true_implies, false_implies, implies_true, not_true_eq_false, not_false_eq_true, and_self, Bool.and_false, Bool.false_and, Nat.reduceLT, Nat.reduceLeDiff, List.reverse_cons, List.reverse_nil, Nat.zero_add, Nat.add_zero, Bool.false_eq_true, List.getElem?_cons_zero, Nat.reduceMul, Nat.mul_one]
      all_goals (repeat' (first | intro _ | apply And.intro))
      all_goals first
        | omega
        | (refine FamNext.mk [0] (k + 1) (by simp) (by simp) ?_ (by show k + 1 ≤ n; omega) (by show n - (k + 1) < n - k; omega)
           simp only [State.can, AV.can, AV.canL, HO.can, canRows, idx, get_hit, get_next, Heap.at, Nat.reduceBEq, ↓reduceIte, Nat.reduceEqDiff, Option.getD_some, Option.map_some, List.map_cons, List.map_nil, List.getD_cons_zero, List.getD_cons_succ]
           rw [eno]
           rw [hqik]
           simp [layQ, *]
           done)
        | (refine FamNext.mk [0] (k + 1) (by simp) (by simp) ?_ (by show k + 1 ≤ n; omega) (by show n - (k + 1) < n - k; omega)
           simp only [State.can, AV.can, AV.canL, HO.can, canRows, idx, get_hit, get_next, Heap.at, Nat.reduceBEq, ↓reduceIte, Nat.reduceEqDiff, Option.getD_some, Option.map_some, List.map_cons, List.map_nil, List.getD_cons_zero, List.getD_cons_succ]
           rw [eput]
           rw [hqik]
           simp [layQ, *]
           done)
    · have : k = n := by omega
      subst this
      simp only [wrap_succ c' (by unfold maxLen; omega)]
      refine FamNext.mk [0] (i + 1) (by simp) (by simp) ?_ (by show i + 1 ≤ k; omega) (by show k - (i + 1) < k - i; omega)
      rw [show mkR k (fun a b => dn i k a b && q a b) = mkR k (fun a b => dn (i + 1) 0 a b && q a b) from mkR_congr fun a b _ hb => by rw [dn_next hb]]
      simp only [State.can, AV.can, AV.canL, HO.can, canRows, idx, get_hit, get_next, Heap.at, Nat.reduceBEq, ↓reduceIte, Nat.reduceEqDiff, Option.getD_some, Option.map_some, List.map_cons, List.map_nil, List.getD_cons_zero, List.getD_cons_succ]
  · have : i = n := by omega
    subst this
    rw [show mkR i (fun a b => dn i 0 a b && q a b) = mkR i q from mkR_congr fun a b ha _ => by rw [dn_end ha]; rfl]
    exact .inl ⟨0, true, by simp [mkR_len], rfl⟩

/-! ### Back -/
theorem body_ref02_Back {T : Tab} {n1 n2 n3 : Nat} (k1 : Knows T n1 sp_Has) (k2 : KnowsG T n2 ef_Put.at) (k3 : Knows T n3 sp_size) : sp_Back.Body T V_ref02_Back (L_ref02_Back n1 n2 n3) R_ref02_Back := by
  have F1 := k1.F; have G1 := k1.G; have G2 := k2.G; have F3 := k3.F; have G3 := k3.G
  rintro ⟨A, e⟩ h1
  have h1 : A.length ≤ maxLen := h1
  refine ⟨rows_len (f := rowW) (fun _ => rfl) _, ?_⟩
  unfold V_ref02_Back L_ref02_Back R_ref02_Back
  simp only [↓vck_skip, ↓vck_ret, ↓vck_exit, ↓vck_region, ↓vck_nilq, ↓nilTo_to, nilG_d, nilG_r, ↓vck_seq, ↓vck_cond, ↓vck_block, ↓vck_loop, ↓vckTo_to, ↓thenK_n, ↓thenK_x, ↓thenK_r, ↓blockK_n, ↓blockK_x, ↓blockK_o, ↓blockK_r, ↓regK_to, ↓retK_r, ↓retK_n, ↓loopV_n, ↓loopV_x, ↓loopV_r, ↓famK_n, ↓famK_x, ↓famK_r, ↓boolK_true, ↓boolK_false, ↓boolK_not, ↓boolK_dec, ↓boolK_and, nf_mk, RGk_end_f, RGk_end_t, RGk_op, RGk_guard, opK_to, evN, evCallN, grow_mk, feet_f, feet_t, foot_mk, stepK_mk, stepK_v, stepK_no, guardG_t, guardG_f, guardG_no, condG_b, evT, Opd.ev, get_hit, get_next, app_to, app_no, app_up, app_skip, app_skipn, know_mk, knowO_t, knowO_c, envFrom, reserve, keeps, LOp.isNew, State.prune, cellsQ, cellsT, AV.leaf, Heap.at, evLoad_ptr, evLoad_dptr, loadO_vec, loadO_dvec1, stepK_load_map, idx_I, idx_W, rowW, set_rowW, app_rowW, app_rowW0, rep_rowW0, rowB, set_rowB, rep_rowB, rowN, lens_W, lensA_W, scal_rowW, default_W, w_or, w_and, w_andNot, w_and1, w_shl, w_shl1, w_shr, w_sub1, w_neg, w_add, w_bit, w_eq0, w_eq1, w_eq, Bool.decide_eq_true, idx_Rat, idx_Loc, idx_Act, idx_Step, idx_Stamp, stepK_idx_ref, evStore_ptr, storeO_vec, stepK_store_map1, loadDT_f, rowI, RatG.row, LocG.row, ActG.row, StepG.row, StampG.row, ActG.av, ActG.eta, RatG.eta, LocG.eta, beq_true, beq_false, loadDT_t, set_rowI, app_rowI, rep_rowI, set_rowRat, app_rowRat, rep_rowRat, set_rowLoc, app_rowLoc, app_rowAct, app_rowStep, List.length_set, List.length_replicate, toNat_cast, Int.reduceToNat, evLen, evAppend, srcOf, Src.all, Src.len, Src.leaf, joinV, drows_rep1, drows_rep2, drows_rep3, drows_rep4, drows_rep5, drows_rep6, drows_rep7, drows_rep8, mkVec, drows, evMk, List.length_map, take_mapF, drop_mapF, List.take_length, List.take_left, List.length_append, Nat.le_add_right, ite_self, List.take_of_length_le, evSlice, intOr, intOpd, Option.isSome_none, Option.isSome_some, Nat.sub_zero, loadQ, loadT, evBin, evUn, evIdxArr_d, evIdxArr_p, binT, binQ, chk, apartF, List.contains_cons, List.contains_nil, Bool.or_false, Bool.false_or, Bool.and_self, resQ, resV, resT, pickV, evCallT, evCall, fnOf, viewsT, viewT, evInt2, evEq, eqV, eqK, eqC1, buildQ, buildT, buildRQ, buildRT, lens_I, lensA_I, lens_Rat, lensA_Rat, lens_Loc, lensA_Loc, lens_Act, lensA_Act, lens_Step, lensA_Step, lens_Stamp, lensA_Stamp, List.mem_cons, List.not_mem_nil, or_false, forall_eq, putRow, dcells, get_nil, RetS, RetF, RetD, AV.frz, AV.frzL, AV.freshP, AV.freshL, DV.less, scal_int, scal_bool, scal_nil, scal_rowI, scal_rowRat, scal_rowStep, Option.some.injEq, AV.tup.injEq, AV.agg.injEq, List.cons.injEq, DV.list.injEq, List.isEmpty_nil, Nat.le_refl, AV.d.injEq, DV.int.injEq, DV.bool.injEq, ↓reduceIte, Nat.reduceEqDiff, Nat.reduceAdd, Nat.reduceBEq, List.length_cons, List.length_nil, List.replicate_succ, List.replicate_zero, List.nil_append, List.cons_append, List.append_nil, List.foldl_cons, List.foldl_nil, List.map_cons, List.map_nil, List.all_cons, List.all_nil, List.set_cons_zero, List.set_cons_succ, List.getD_cons_zero, List.getD_cons_succ, List.drop_zero, List.drop_succ_cons, List.take_succ_cons, List.take_zero, List.flatten_cons, List.flatten_nil, Bool.true_and, Bool.and_true, Bool.not_true, Bool.not_false, true_and, and_true, true_or, or_true, Option.bind_some, Option.map_some, decide_true, decide_false, beq_self_eq_true, true_implies, false_implies, implies_true, not_true_eq_false, not_false_eq_true, and_self, Bool.and_false, Bool.false_and, Nat.reduceLT, Nat.reduceLeDiff, List.reverse_cons, List.reverse_nil, Nat.zero_add, Nat.add_zero, Bool.false_eq_true, List.getElem?_cons_zero, Nat.reduceMul, Nat.mul_one, sp_Back, F1, G1, G2, F3, G3, at_Has, at_Put, at_size]
  have hle := szR_le A
  have hfin : backG A = mkR (szR A) (fun a b => hasN A b a) := rfl
  rw [hfin]
  generalize szR A = n at *
  refine ⟨h1, ⟨by omega, by omega, roomy_of (by omega) (by omega)⟩, ?_⟩
  refine Loop.fam [0, 3, 4, 5] (fun i : Nat => ⟨[(0, .d (.list (A.map rowW) e)), (3, .d (.int .i64 n)), (4, .ref 0 1 0 n true), (5, .d (.int .i64 i))],
      [.dvec 1 ((mkR n (fun a b => dn i 0 b a && hasN A b a)).map rowW)]⟩) (fun i => i ≤ n) (fun i => n - i) 0 [0] (by simp) (by simp) (by
        simp only [State.can, AV.can, AV.canL, HO.can, canRows, idx, get_hit, get_next, Heap.at, Nat.reduceBEq, ↓reduceIte, Nat.reduceEqDiff, Option.getD_some, Option.map_some, List.map_cons, List.map_nil, List.getD_cons_zero, List.getD_cons_succ]
        rw [mkR_zero (p := fun a b => dn 0 0 b a && hasN A b a) (fun a b _ _ => by simp [dn_start])]; rfl) (by omega) ?_
  intro i hi
  simp only [↓vck_skip, ↓vck_ret, ↓vck_exit, ↓vck_region, ↓vck_nilq, ↓nilTo_to, nilG_d, nilG_r, ↓vck_seq, ↓vck_cond, ↓vck_block, ↓vck_loop, ↓vckTo_to, ↓thenK_n, ↓thenK_x, ↓thenK_r, ↓blockK_n, ↓blockK_x, ↓blockK_o, ↓blockK_r, ↓regK_to, ↓retK_r, ↓retK_n, ↓loopV_n, ↓loopV_x, ↓loopV_r, ↓famK_n, ↓famK_x, ↓famK_r, ↓boolK_true, ↓boolK_false, ↓boolK_not, ↓boolK_dec, ↓boolK_and, nf_mk, RGk_end_f, RGk_end_t, RGk_op, RGk_guard, opK_to, evN, evCallN, grow_mk, feet_f, feet_t, foot_mk, stepK_mk, stepK_v, stepK_no, guardG_t, guardG_f, guardG_no, condG_b, evT, Opd.ev, get_hit, get_next, app_to, app_no, app_up, app_skip, app_skipn, know_mk, knowO_t, knowO_c, envFrom, reserve, keeps, LOp.isNew, State.prune, cellsQ, cellsT, AV.leaf, Heap.at, evLoad_ptr, evLoad_dptr, loadO_vec, loadO_dvec1, stepK_load_map, idx_I, idx_W, rowW, set_rowW, app_rowW, app_rowW0, rep_rowW0, rowB, set_rowB, rep_rowB, rowN, lens_W, lensA_W, scal_rowW, default_W, w_or, w_and, w_andNot, w_and1, w_shl, w_shl1, w_shr, w_sub1, w_neg, w_add, w_bit, w_eq0, w_eq1, w_eq, Bool.decide_eq_true, idx_Rat, idx_Loc, idx_Act, idx_Step, idx_Stamp, stepK_idx_ref, evStore_ptr, storeO_vec, stepK_store_map1, loadDT_f, rowI, RatG.row, LocG.row, ActG.row, StepG.row, StampG.row, ActG.av, ActG.eta, RatG.eta, LocG.eta, beq_true, beq_false, loadDT_t, set_rowI, app_rowI, rep_rowI, set_rowRat, app_rowRat, rep_rowRat, set_rowLoc, app_rowLoc, app_rowAct, app_rowStep, List.length_set, List.length_replicate, toNat_cast, Int.reduceToNat, evLen, evAppend, srcOf, Src.all, Src.len, Src.leaf, joinV, drows_rep1, drows_rep2, drows_rep3, drows_rep4, drows_rep5, drows_rep6, drows_rep7, drows_rep8, mkVec, drows, evMk, List.length_map, take_mapF, drop_mapF, List.take_length, List.take_left, List.length_append, Nat.le_add_right, ite_self, List.take_of_length_le, evSlice, intOr, intOpd, Option.isSome_none, Option.isSome_some, Nat.sub_zero, loadQ, loadT, evBin, evUn, evIdxArr_d, evIdxArr_p, binT, binQ, chk, apartF, List.contains_cons, List.contains_nil, Bool.or_false, Bool.false_or, Bool.and_self, resQ, resV, resT, pickV, evCallT, evCall, fnOf, viewsT, viewT, evInt2, evEq, eqV, eqK, eqC1, buildQ, buildT, buildRQ, buildRT, lens_I, lensA_I, lens_Rat, lensA_Rat, lens_Loc, lensA_Loc, lens_Act, lensA_Act, lens_Step, lensA_Step, lens_Stamp, lensA_Stamp, List.mem_cons, List.not_mem_nil, or_false, forall_eq, putRow, dcells, get_nil, RetS, RetF, RetD, AV.frz, AV.frzL, AV.freshP, AV.freshL, DV.less, scal_int, scal_bool, scal_nil, scal_rowI, scal_rowRat, scal_rowStep, Option.some.injEq, AV.tup.injEq, AV.agg.injEq, List.cons.injEq, DV.list.injEq, List.isEmpty_nil, Nat.le_refl, AV.d.injEq, DV.int.injEq, DV.bool.injEq, ↓reduceIte, Nat.reduceEqDiff, Nat.reduceAdd, Nat.reduceBEq, List.length_cons, List.length_nil, List.replicate_succ, List.replicate_zero, List.nil_append, List.cons_append, List.append_nil, List.foldl_cons, List.foldl_nil, List.map_cons, List.map_nil, List.all_cons, List.all_nil, List.set_cons_zero, List.set_cons_succ, List.getD_cons_zero, List.getD_cons_succ, List.drop_zero, List.drop_succ_cons, List.take_succ_cons, List.take_zero, List.flatten_cons, List.flatten_nil, Bool.true_and, Bool.and_true, Bool.not_true, Bool.not_false, true_and, and_true, true_or, or_true, Option.bind_some, Option.map_some, decide_true, decide_false, beq_self_eq_true, true_implies, false_implies, implies_true, not_true_eq_false, not_false_eq_true, and_self, Bool.and_false, Bool.false_and, Nat.reduceLT, Nat.reduceLeDiff, List.reverse_cons, List.reverse_nil, Nat.zero_add, Nat.add_zero, Bool.false_eq_true, List.getElem?_cons_zero, Nat.reduceMul, Nat.mul_one, F1, G1, G2, F3, G3, at_Has, at_Put, at_size]
  refine ⟨fun c => ?_, fun c => ?_⟩
  · have c' : i < n := by omega
    refine Loop.fam [0, 3, 4, 5, 6] (fun k : Nat => ⟨[(0, .d (.list (A.map rowW) e)), (3, .d (.int .i64 n)), (4, .ref 0 1 0 n true), (5, .d (.int .i64 i)), (6, .d (.int .i64 k))],
      [.dvec 1 ((mkR n (fun a b => dn i k b a && hasN A b a)).map rowW)]⟩) (fun k => k ≤ n) (fun k => n - k) 0 [0] (by simp) (by simp) (by simp only [State.can, AV.can, AV.canL, HO.can, canRows, idx, get_hit, get_next, Heap.at, Nat.reduceBEq, ↓reduceIte, Nat.reduceEqDiff, Option.getD_some, Option.map_some, List.map_cons, List.map_nil, List.getD_cons_zero, List.getD_cons_succ]; rfl) (by omega) ?_
    intro k hk
    have hx : hasI A i k = hasN A i k := hasI_nat
    simp only [↓vck_skip, ↓vck_ret, ↓vck_exit, ↓vck_region, ↓vck_nilq, ↓nilTo_to, nilG_d, nilG_r, ↓vck_seq, ↓vck_cond, ↓vck_block, ↓vck_loop, ↓vckTo_to, ↓thenK_n, ↓thenK_x, ↓thenK_r, ↓blockK_n, ↓blockK_x, ↓blockK_o, ↓blockK_r, ↓regK_to, ↓retK_r, ↓retK_n, ↓loopV_n, ↓loopV_x, ↓loopV_r, ↓famK_n, ↓famK_x, ↓famK_r, ↓boolK_true, ↓boolK_false, ↓boolK_not, ↓boolK_dec, ↓boolK_and, nf_mk, RGk_end_f, RGk_end_t, RGk_op, RGk_guard, opK_to, evN, evCallN, grow_mk, feet_f, feet_t, foot_mk, stepK_mk, stepK_v, stepK_no, guardG_t, guardG_f, guardG_no, condG_b, evT, Opd.ev, get_hit, get_next, app_to, app_no, app_up, app_skip, app_skipn, know_mk, knowO_t, knowO_c, envFrom, reserve, keeps, LOp.isNew, State.prune, cellsQ, cellsT, AV.leaf, Heap.at, evLoad_ptr, evLoad_dptr, loadO_vec, loadO_dvec1, stepK_load_map, idx_I, idx_W, rowW, set_rowW, app_rowW, app_rowW0, rep_rowW0, rowB, set_rowB, rep_rowB, rowN, lens_W, lensA_W, scal_rowW, default_W, w_or, w_and, w_andNot, w_and1, w_shl, w_shl1, w_shr, w_sub1, w_neg, w_add, w_bit, w_eq0, w_eq1, w_eq, Bool.decide_eq_true, idx_Rat, idx_Loc, idx_Act, idx_Step, idx_Stamp, stepK_idx_ref, evStore_ptr, storeO_vec, stepK_store_map1, loadDT_f, rowI, RatG.row, LocG.row, ActG.row, StepG.row, StampG.row, ActG.av, ActG.eta, RatG.eta, LocG.eta, beq_true, beq_false, loadDT_t, set_rowI, app_rowI, rep_rowI, set_rowRat, app_rowRat, rep_rowRat, set_rowLoc, app_rowLoc, app_rowAct, app_rowStep, List.length_set, List.length_replicate, toNat_cast, Int.reduceToNat, evLen, evAppend, srcOf, Src.all, Src.len, Src.leaf, joinV, drows_rep1, drows_rep2, drows_rep3, drows_rep4, drows_rep5, drows_rep6, drows_rep7, drows_rep8, mkVec, drows, evMk, List.length_map, take_mapF, drop_mapF, List.take_length, List.take_left, List.length_append, Nat.le_add_right, ite_self, List.take_of_length_le, evSlice, intOr, intOpd, Option.isSome_none, Option.isSome_some, Nat.sub_zero, loadQ, loadT, evBin, evUn, evIdxArr_d, evIdxArr_p, binT, binQ, chk, apartF, List.contains_cons, List.contains_nil, Bool.or_false, Bool.false_or, Bool.and_self, resQ, resV, resT, pickV, evCallT, evCall, fnOf, viewsT, viewT, evInt2, evEq, eqV, eqK, eqC1, buildQ, buildT, buildRQ, buildRT, lens_I, lensA_I, lens_Rat, lensA_Rat, lens_Loc, lensA_Loc, lens_Act, lensA_Act, lens_Step, lensA_Step, lens_Stamp, lensA_Stamp, List.mem_cons, List.not_mem_nil, or_false, forall_eq, putRow, dcells, get_nil, RetS, RetF, RetD, AV.frz, AV.frzL, AV.freshP, AV.freshL, DV.less, scal_int, scal_bool, scal_nil, scal_rowI, scal_rowRat, scal_rowStep, Option.some.injEq, AV.tup.injEq, AV.agg.injEq, List.cons.injEq, DV.list.injEq, List.isEmpty_nil, Nat.le_refl, AV.d.injEq, DV.int.injEq, DV.bool.injEq, ↓reduceIte, Nat.reduceEqDiff, Nat.reduceAdd, Nat.reduceBEq, List.length_cons, List.length_nil, List.replicate_succ, List.replicate_zero, List.nil_append, List.cons_append, List.append_nil, List.foldl_cons, List.foldl_nil, List.map_cons, List.map_nil, List.all_cons, List.all_nil, List.set_cons_zero, List.set_cons_succ, List.getD_cons_zero, List.getD_cons_succ, List.drop_zero, List.drop_succ_cons, List.take_succ_cons, List.take_zero, List.flatten_cons, List.flatten_nil, Bool.true_and, Bool.and_true, Bool.not_true, Bool.not_false, true_and, and_true, true_or, or_true, Option.bind_some, Option.map_some, decide_true, decide_false, beq_self_eq_true, true_implies, false_implies, implies_true, not_true_eq_false, not_false_eq_true, and_self, Bool.and_false, Bool.false_and, Nat.reduceLT, Nat.reduceLeDiff, List.reverse_cons, List.reverse_nil, Nat.zero_add, Nat.add_zero, Bool.false_eq_true, List.getElem?_cons_zero, Nat.reduceMul, Nat.mul_one, F1, G1, G2, F3, G3, at_Has, at_Put, at_size, putE_d, mkR_len, szR_mk' hle, hx]
    refine ⟨fun g => ?_, fun g => ?_⟩
    · have g' : k < n := by omega
      simp only [wrap_succ g' (by unfold maxLen; omega)]
      rw [putR_mk hle g' c']
      refine ⟨h1, fun hb => ⟨by omega, ?_⟩, fun hb => ?_⟩
      · exact FamNext.mk [0] (k + 1) (by simp) (by simp) (by
          simp only [State.can, AV.can, AV.canL, HO.can, canRows, idx, get_hit, get_next, Heap.at, Nat.reduceBEq, ↓reduceIte, Nat.reduceEqDiff, Option.getD_some, Option.map_some, List.map_cons, List.map_nil, List.getD_cons_zero, List.getD_cons_succ]
          rw [show mkR n (fun a b => dn i (k + 1) b a && hasN A b a) = mkR n (fun a b => (dn i k b a && hasN A b a) || (decide (a = k) && decide (b = i))) from mkR_congr fun a b _ _ => by
            rw [dn_put (q := hasN A) hb b a, Bool.and_comm (decide (b = i))]]) (by show k + 1 ≤ n; omega) (by show n - (k + 1) < n - k; omega)
      · exact FamNext.mk [0] (k + 1) (by simp) (by simp) (by
          simp only [State.can, AV.can, AV.canL, HO.can, canRows, idx, get_hit, get_next, Heap.at, Nat.reduceBEq, ↓reduceIte, Nat.reduceEqDiff, Option.getD_some, Option.map_some, List.map_cons, List.map_nil, List.getD_cons_zero, List.getD_cons_succ]
          rw [show mkR n (fun a b => dn i (k + 1) b a && hasN A b a) = mkR n (fun a b => (dn i k b a && hasN A b a)) from mkR_congr fun a b _ _ => dn_no (q := hasN A) hb b a]) (by show k + 1 ≤ n; omega) (by show n - (k + 1) < n - k; omega)
    · have : k = n := by omega
      subst this
      simp only [wrap_succ c' (by unfold maxLen; omega)]
      refine FamNext.mk [0] (i + 1) (by simp) (by simp) ?_ (by show i + 1 ≤ k; omega) (by show k - (i + 1) < k - i; omega)
      rw [show mkR k (fun a b => dn i k b a && hasN A b a) = mkR k (fun a b => dn (i + 1) 0 b a && hasN A b a) from mkR_congr fun a b ha _ => by rw [dn_next ha]]
      simp only [State.can, AV.can, AV.canL, HO.can, canRows, idx, get_hit, get_next, Heap.at, Nat.reduceBEq, ↓reduceIte, Nat.reduceEqDiff, Option.getD_some, Option.map_some, List.map_cons, List.map_nil, List.getD_cons_zero, List.getD_cons_succ]
  · have : i = n := by omega
    subst this
    rw [show mkR i (fun a b => dn i 0 b a && hasN A b a) = mkR i (fun a b => hasN A b a) from mkR_congr fun a b _ hb => by rw [dn_end hb]; rfl]
    exact .inl ⟨0, true, by simp [mkR_len], rfl⟩

/-! ### Then -/
def thenB (A B : List W) (i j a b : Nat) : Bool := decide (a < i) && thenP A B a b || decide (a = i) && (List.range j).any fun c => hasN A i c && hasN B c b
theorem thenB_step {A B : List W} {i j a b : Nat} : thenB A B i (j + 1) a b = (thenB A B i j a b || (decide (a = i) && (hasN A i j && hasN B j b))) := by
  unfold thenB
  rw [List.range_succ, List.any_append, List.any_cons, List.any_nil, Bool.or_false]
  by_cases h1 : a = i <;> simp [h1]
theorem thenB_next {A B : List W} {i n a b : Nat} (hA : szR A ≤ n) (hn : n ≤ 64) : thenB A B i n a b = thenB A B (i + 1) 0 a b := by
  unfold thenB
  by_cases h1 : a < i
  · have h2 : ¬ a = i := by omega
    have h3 : a < i + 1 := by omega
    simp [h1, h2, h3]
  · by_cases h2 : a = i
    · subst h2
      have h3 : a < a + 1 := by omega
      simp only [h1, h3, decide_true, decide_false, Bool.true_and, Bool.false_and, Bool.false_or, List.range_zero, List.any_nil, Bool.and_false, Bool.or_false]
      apply beq_of_iff
      rw [thenP_iff, List.any_eq_true]
      constructor
      · rintro ⟨c, _, hc⟩
        rw [Bool.and_eq_true] at hc
        exact ⟨c, hc⟩
      · rintro ⟨c, hc1, hc2⟩
        have := hasN_lt hc1
        exact ⟨c, by simp; omega, by rw [hc1, hc2]; rfl⟩
    · have h3 : ¬ a < i + 1 := by omega
      simp [h1, h2, h3]
theorem body_ref02_Then {T : Tab} {n1 n2 n3 : Nat} (k1 : Knows T n1 sp_Has) (k2 : KnowsG T n2 ef_Put.at) (k3 : Knows T n3 sp_most) : sp_Then.Body T V_ref02_Then (L_ref02_Then n1 n2 n3) R_ref02_Then := by
  have F1 := k1.F; have G1 := k1.G; have G2 := k2.G; have F3 := k3.F; have G3 := k3.G
  rintro ⟨A, e, B, f⟩ ⟨h1, h2⟩
  have h1 : A.length ≤ maxLen := h1
  have h2 : B.length ≤ maxLen := h2
  refine ⟨rows_len (f := rowW) (fun _ => rfl) _, ?_⟩
  unfold V_ref02_Then L_ref02_Then R_ref02_Then
  simp only [↓vck_skip, ↓vck_ret, ↓vck_exit, ↓vck_region, ↓vck_nilq, ↓nilTo_to, nilG_d, nilG_r, ↓vck_seq, ↓vck_cond, ↓vck_block, ↓vck_loop, ↓vckTo_to, ↓thenK_n, ↓thenK_x, ↓thenK_r, ↓blockK_n, ↓blockK_x, ↓blockK_o, ↓blockK_r, ↓regK_to, ↓retK_r, ↓retK_n, ↓loopV_n, ↓loopV_x, ↓loopV_r, ↓famK_n, ↓famK_x, ↓famK_r, ↓boolK_true, ↓boolK_false, ↓boolK_not, ↓boolK_dec, ↓boolK_and, nf_mk, RGk_end_f, RGk_end_t, RGk_op, RGk_guard, opK_to, evN, evCallN, grow_mk, feet_f, feet_t, foot_mk, stepK_mk, stepK_v, stepK_no, guardG_t, guardG_f, guardG_no, condG_b, evT, Opd.ev, get_hit, get_next, app_to, app_no, app_up, app_skip, app_skipn, know_mk, knowO_t, knowO_c, envFrom, reserve, keeps, LOp.isNew, State.prune, cellsQ, cellsT, AV.leaf, Heap.at, evLoad_ptr, evLoad_dptr, loadO_vec, loadO_dvec1, stepK_load_map, idx_I, idx_W, rowW, set_rowW, app_rowW, app_rowW0, rep_rowW0, rowB, set_rowB, rep_rowB, rowN, lens_W, lensA_W, scal_rowW, default_W, w_or, w_and, w_andNot, w_and1, w_shl, w_shl1, w_shr, w_sub1, w_neg, w_add, w_bit, w_eq0, w_eq1, w_eq, Bool.decide_eq_true, idx_Rat, idx_Loc, idx_Act, idx_Step, idx_Stamp, stepK_idx_ref, evStore_ptr, storeO_vec, stepK_store_map1, loadDT_f, rowI, RatG.row, LocG.row, ActG.row, StepG.row, StampG.row, ActG.av, ActG.eta, RatG.eta, LocG.eta, beq_true, beq_false, loadDT_t, set_rowI, app_rowI, rep_rowI, set_rowRat, app_rowRat, rep_rowRat, set_rowLoc, app_rowLoc, app_rowAct, app_rowStep, List.length_set, List.length_replicate, toNat_cast, Int.reduceToNat, evLen, evAppend, srcOf, Src.all, Src.len, Src.leaf, joinV, drows_rep1, drows_rep2, drows_rep3, drows_rep4, drows_rep5, drows_rep6, drows_rep7, drows_rep8, mkVec, drows, evMk, List.length_map, take_mapF, drop_mapF, List.take_length, List.take_left, List.length_append, Nat.le_add_right, ite_self, List.take_of_length_le, evSlice, intOr, intOpd, Option.isSome_none, Option.isSome_some, Nat.sub_zero, loadQ, loadT, evBin, evUn, evIdxArr_d, evIdxArr_p, binT, binQ, chk, apartF, List.contains_cons, List.contains_nil, Bool.or_false, Bool.false_or, Bool.and_self, resQ, resV, resT, pickV, evCallT, evCall, fnOf, viewsT, viewT, evInt2, evEq, eqV, eqK, eqC1, buildQ, buildT, buildRQ, buildRT, lens_I, lensA_I, lens_Rat, lensA_Rat, lens_Loc, lensA_Loc, lens_Act, lensA_Act, lens_Step, lensA_Step, lens_Stamp, lensA_Stamp, List.mem_cons, List.not_mem_nil, or_false, forall_eq, putRow, dcells, get_nil, RetS, RetF, RetD, AV.frz, AV.frzL, AV.freshP, AV.freshL, DV.less, scal_int, scal_bool, scal_nil, scal_rowI, scal_rowRat, scal_rowStep, Option.some.injEq, AV.tup.injEq, AV.agg.injEq, List.cons.injEq, DV.list.injEq, List.isEmpty_nil, Nat.le_refl, AV.d.injEq, DV.int.injEq, DV.bool.injEq, ↓reduceIte, Nat.reduceEqDiff, Nat.reduceAdd, Nat.reduceBEq, List.length_cons, List.length_nil, List.replicate_succ, List.replicate_zero, List.nil_append, List.cons_append, List.append_nil, List.foldl_cons, List.foldl_nil, List.map_cons, List.map_nil, List.all_cons, List.all_nil, List.set_cons_zero, List.set_cons_succ, List.getD_cons_zero, List.getD_cons_succ, List.drop_zero, List.drop_succ_cons, List.take_succ_cons, List.take_zero, List.flatten_cons, List.flatten_nil, Bool.true_and, Bool.and_true, Bool.not_true, Bool.not_false, true_and, and_true, true_or, or_true, Option.bind_some, Option.map_some, decide_true, decide_false, beq_self_eq_true, true_implies, false_implies, implies_true, not_true_eq_false, not_false_eq_true, and_self, Bool.and_false, Bool.false_and, Nat.reduceLT, Nat.reduceLeDiff, List.reverse_cons, List.reverse_nil, Nat.zero_add, Nat.add_zero, Bool.false_eq_true, List.getElem?_cons_zero, Nat.reduceMul, Nat.mul_one, sp_Then, F1, G1, G2, F3, G3, at_Has, at_Put, at_most']
  have hle := mxR_le A B
  have hA : szR A ≤ mxR A B := by unfold mxR; omega
  have hfin : thenG A B = mkR (mxR A B) (thenP A B) := rfl
  rw [hfin]
  generalize mxR A B = n at *
  refine ⟨⟨h1, h2⟩, ⟨by omega, by omega, roomy_of (by omega) (by omega)⟩, ?_⟩
  refine Loop.fam [0, 1, 5, 6, 7] (fun i : Nat => ⟨[(0, .d (.list (A.map rowW) e)), (1, .d (.list (B.map rowW) f)), (5, .d (.int .i64 n)), (6, .ref 0 1 0 n true), (7, .d (.int .i64 i))],
      [.dvec 1 ((mkR n (thenB A B i 0)).map rowW)]⟩) (fun i => i ≤ n) (fun i => n - i) 0 [0] (by simp) (by simp) (by
        simp only [State.can, AV.can, AV.canL, HO.can, canRows, idx, get_hit, get_next, Heap.at, Nat.reduceBEq, ↓reduceIte, Nat.reduceEqDiff, Option.getD_some, Option.map_some, List.map_cons, List.map_nil, List.getD_cons_zero, List.getD_cons_succ]
        rw [mkR_zero (p := thenB A B 0 0) (fun a b _ _ => by simp [thenB])]; rfl) (by omega) ?_
  intro i hi
  simp only [↓vck_skip, ↓vck_ret, ↓vck_exit, ↓vck_region, ↓vck_nilq, ↓nilTo_to, nilG_d, nilG_r, ↓vck_seq, ↓vck_cond, ↓vck_block, ↓vck_loop, ↓vckTo_to, ↓thenK_n, ↓thenK_x, ↓thenK_r, ↓blockK_n, ↓blockK_x, ↓blockK_o, ↓blockK_r, ↓regK_to, ↓retK_r, ↓retK_n, ↓loopV_n, ↓loopV_x, ↓loopV_r, ↓famK_n, ↓famK_x, ↓famK_r, ↓boolK_true, ↓boolK_false, ↓boolK_not, ↓boolK_dec, ↓boolK_and, nf_mk, RGk_end_f, RGk_end_t, RGk_op, RGk_guard, opK_to, evN, evCallN, grow_mk, feet_f, feet_t, foot_mk, stepK_mk, stepK_v, stepK_no, guardG_t, guardG_f, guardG_no, condG_b, evT, Opd.ev, get_hit, get_next, app_to, app_no, app_up, app_skip, app_skipn, know_mk, knowO_t, knowO_c, envFrom, reserve, keeps, LOp.isNew, State.prune, cellsQ, cellsT, AV.leaf, Heap.at, evLoad_ptr, evLoad_dptr, loadO_vec, loadO_dvec1, stepK_load_map, idx_I, idx_W, rowW, set_rowW, app_rowW, app_rowW0, rep_rowW0, rowB, set_rowB, rep_rowB, rowN, lens_W, lensA_W, scal_rowW, default_W, w_or, w_and, w_andNot, w_and1, w_shl, w_shl1, w_shr, w_sub1, w_neg, w_add, w_bit, w_eq0, w_eq1, w_eq, Bool.decide_eq_true, idx_Rat, idx_Loc, idx_Act, idx_Step, idx_Stamp, stepK_idx_ref, evStore_ptr, storeO_vec, stepK_store_map1, loadDT_f, rowI, RatG.row, LocG.row, ActG.row, StepG.row, StampG.row, ActG.av, ActG.eta, RatG.eta, LocG.eta, beq_true, beq_false, loadDT_t, set_rowI, app_rowI, rep_rowI, set_rowRat, app_rowRat, rep_rowRat, set_rowLoc, app_rowLoc, app_rowAct, app_rowStep, List.length_set, List.length_replicate, toNat_cast, Int.reduceToNat, evLen, evAppend, srcOf, Src.all, Src.len, Src.leaf, joinV, drows_rep1, drows_rep2, drows_rep3, drows_rep4, drows_rep5, drows_rep6, drows_rep7, drows_rep8, mkVec, drows, evMk, List.length_map, take_mapF, drop_mapF, List.take_length, List.take_left, List.length_append, Nat.le_add_right, ite_self, List.take_of_length_le, evSlice, intOr, intOpd, Option.isSome_none, Option.isSome_some, Nat.sub_zero, loadQ, loadT, evBin, evUn, evIdxArr_d, evIdxArr_p, binT, binQ, chk, apartF, List.contains_cons, List.contains_nil, Bool.or_false, Bool.false_or, Bool.and_self, resQ, resV, resT, pickV, evCallT, evCall, fnOf, viewsT, viewT, evInt2, evEq, eqV, eqK, eqC1, buildQ, buildT, buildRQ, buildRT, lens_I, lensA_I, lens_Rat, lensA_Rat, lens_Loc, lensA_Loc, lens_Act, lensA_Act, lens_Step, lensA_Step, lens_Stamp, lensA_Stamp, List.mem_cons, List.not_mem_nil, or_false, forall_eq, putRow, dcells, get_nil, RetS, RetF, RetD, AV.frz, AV.frzL, AV.freshP, AV.freshL, DV.less, scal_int, scal_bool, scal_nil, scal_rowI, scal_rowRat, scal_rowStep, Option.some.injEq, AV.tup.injEq, AV.agg.injEq, List.cons.injEq, DV.list.injEq, List.isEmpty_nil, Nat.le_refl, AV.d.injEq, DV.int.injEq, DV.bool.injEq, ↓reduceIte, Nat.reduceEqDiff, Nat.reduceAdd, Nat.reduceBEq, List.length_cons, List.length_nil, List.replicate_succ, List.replicate_zero, List.nil_append, List.cons_append, List.append_nil, List.foldl_cons, List.foldl_nil, List.map_cons, List.map_nil, List.all_cons, List.all_nil, List.set_cons_zero, List.set_cons_succ, List.getD_cons_zero, List.getD_cons_succ, List.drop_zero, List.drop_succ_cons, List.take_succ_cons, List.take_zero, List.flatten_cons, List.flatten_nil, Bool.true_and, Bool.and_true, Bool.not_true, Bool.not_false, true_and, and_true, true_or, or_true, Option.bind_some, Option.map_some, decide_true, decide_false, beq_self_eq_true, true_implies, false_implies, implies_true, not_true_eq_false, not_false_eq_true, and_self, Bool.and_false, Bool.false_and, Nat.reduceLT, Nat.reduceLeDiff, List.reverse_cons, List.reverse_nil, Nat.zero_add, Nat.add_zero, Bool.false_eq_true, List.getElem?_cons_zero, Nat.reduceMul, Nat.mul_one, F1, G1, G2, F3, G3, at_Has, at_Put, at_most']
  refine ⟨fun c => ?_, fun c => ?_⟩
  · have c' : i < n := by omega
    refine Loop.fam [0, 1, 5, 6, 7, 8] (fun j : Nat => ⟨[(0, .d (.list (A.map rowW) e)), (1, .d (.list (B.map rowW) f)), (5, .d (.int .i64 n)), (6, .ref 0 1 0 n true), (7, .d (.int .i64 i)), (8, .d (.int .i64 j))],
      [.dvec 1 ((mkR n (thenB A B i j)).map rowW)]⟩) (fun j => j ≤ n) (fun j => n - j) 0 [0] (by simp) (by simp) (by simp only [State.can, AV.can, AV.canL, HO.can, canRows, idx, get_hit, get_next, Heap.at, Nat.reduceBEq, ↓reduceIte, Nat.reduceEqDiff, Option.getD_some, Option.map_some, List.map_cons, List.map_nil, List.getD_cons_zero, List.getD_cons_succ]; rfl) (by omega) ?_
    intro j hj
    have hx : hasI A i j = hasN A i j := hasI_nat
    simp only [↓vck_skip, ↓vck_ret, ↓vck_exit, ↓vck_region, ↓vck_nilq, ↓nilTo_to, nilG_d, nilG_r, ↓vck_seq, ↓vck_cond, ↓vck_block, ↓vck_loop, ↓vckTo_to, ↓thenK_n, ↓thenK_x, ↓thenK_r, ↓blockK_n, ↓blockK_x, ↓blockK_o, ↓blockK_r, ↓regK_to, ↓retK_r, ↓retK_n, ↓loopV_n, ↓loopV_x, ↓loopV_r, ↓famK_n, ↓famK_x, ↓famK_r, ↓boolK_true, ↓boolK_false, ↓boolK_not, ↓boolK_dec, ↓boolK_and, nf_mk, RGk_end_f, RGk_end_t, RGk_op, RGk_guard, opK_to, evN, evCallN, grow_mk, feet_f, feet_t, foot_mk, stepK_mk, stepK_v, stepK_no, guardG_t, guardG_f, guardG_no, condG_b, evT, Opd.ev, get_hit, get_next, app_to, app_no, app_up, app_skip, app_skipn, know_mk, knowO_t, knowO_c, envFrom, reserve, keeps, LOp.isNew, State.prune, cellsQ, cellsT, AV.leaf, Heap.at, evLoad_ptr, evLoad_dptr, loadO_vec, loadO_dvec1, stepK_load_map, idx_I, idx_W, rowW, set_rowW, app_rowW, app_rowW0, rep_rowW0, rowB, set_rowB, rep_rowB, rowN, lens_W, lensA_W, scal_rowW, default_W, w_or, w_and, w_andNot, w_and1, w_shl, w_shl1, w_shr, w_sub1, w_neg, w_add, w_bit, w_eq0, w_eq1, w_eq, Bool.decide_eq_true, idx_Rat, idx_Loc, idx_Act, idx_Step, idx_Stamp, stepK_idx_ref, evStore_ptr, storeO_vec, stepK_store_map1, loadDT_f, rowI, RatG.row, LocG.row, ActG.row, StepG.row, StampG.row, ActG.av, ActG.eta, RatG.eta, LocG.eta, beq_true, beq_false, loadDT_t, set_rowI, app_rowI, rep_rowI, set_rowRat, app_rowRat, rep_rowRat, set_rowLoc, app_rowLoc, app_rowAct, app_rowStep, List.length_set, List.length_replicate, toNat_cast, Int.reduceToNat, evLen, evAppend, srcOf, Src.all, Src.len, Src.leaf, joinV, drows_rep1, drows_rep2, drows_rep3, drows_rep4, drows_rep5, drows_rep6, drows_rep7, drows_rep8, mkVec, drows, evMk, List.length_map, take_mapF, drop_mapF, List.take_length, List.take_left, List.length_append, Nat.le_add_right, ite_self, List.take_of_length_le, evSlice, intOr, intOpd, Option.isSome_none, Option.isSome_some, Nat.sub_zero, loadQ, loadT, evBin, evUn, evIdxArr_d, evIdxArr_p, binT, binQ, chk, apartF, List.contains_cons, List.contains_nil, Bool.or_false, Bool.false_or, Bool.and_self, resQ, resV, resT, pickV, evCallT, evCall, fnOf, viewsT, viewT, evInt2, evEq, eqV, eqK, eqC1, buildQ, buildT, buildRQ, buildRT, lens_I, lensA_I, lens_Rat, lensA_Rat, lens_Loc, lensA_Loc, lens_Act, lensA_Act, lens_Step, lensA_Step, lens_Stamp, lensA_Stamp, List.mem_cons, List.not_mem_nil, or_false, forall_eq, putRow, dcells, get_nil, RetS, RetF, RetD, AV.frz, AV.frzL, AV.freshP, AV.freshL, DV.less, scal_int, scal_bool, scal_nil, scal_rowI, scal_rowRat, scal_rowStep, Option.some.injEq, AV.tup.injEq, AV.agg.injEq, List.cons.injEq, DV.list.injEq, List.isEmpty_nil, Nat.le_refl, AV.d.injEq, DV.int.injEq, DV.bool.injEq, ↓reduceIte, Nat.reduceEqDiff, Nat.reduceAdd, Nat.reduceBEq, List.length_cons, List.length_nil, List.replicate_succ, List.replicate_zero, List.nil_append, List.cons_append, List.append_nil, List.foldl_cons, List.foldl_nil, List.map_cons, List.map_nil, List.all_cons, List.all_nil, List.set_cons_zero, List.set_cons_succ, List.getD_cons_zero, List.getD_cons_succ, List.drop_zero, List.drop_succ_cons, List.take_succ_cons, List.take_zero, List.flatten_cons, List.flatten_nil, Bool.true_and, Bool.and_true, Bool.not_true, Bool.not_false, true_and, and_true, true_or, or_true, Option.bind_some, Option.map_some, decide_true, decide_false, beq_self_eq_true, true_implies, false_implies, implies_true, not_true_eq_false, not_false_eq_true, and_self, Bool.and_false, Bool.false_and, Nat.reduceLT, Nat.reduceLeDiff, List.reverse_cons, List.reverse_nil, Nat.zero_add, Nat.add_zero, Bool.false_eq_true, List.getElem?_cons_zero, Nat.reduceMul, Nat.mul_one, F1, G1, G2, F3, G3, at_Has, at_Put, at_most', hx]
    refine ⟨fun g => ?_, fun g => ?_⟩
    · have g' : j < n := by omega
      refine ⟨h1, fun hb => ?_, fun hb => ?_⟩
      · refine Loop.fam [0, 1, 5, 6, 7, 8, 9] (fun k : Nat => ⟨[(0, .d (.list (A.map rowW) e)), (1, .d (.list (B.map rowW) f)), (5, .d (.int .i64 n)), (6, .ref 0 1 0 n true), (7, .d (.int .i64 i)), (8, .d (.int .i64 j)), (9, .d (.int .i64 k))],
          [.dvec 1 ((mkR n (fun a b => thenB A B i j a b || (dn i k a b && (decide (a = i) && hasN B j b)))).map rowW)]⟩) (fun k => k ≤ n) (fun k => n - k) 0 [0] (by simp) (by simp) (by
            simp only [State.can, AV.can, AV.canL, HO.can, canRows, idx, get_hit, get_next, Heap.at, Nat.reduceBEq, ↓reduceIte, Nat.reduceEqDiff, Option.getD_some, Option.map_some, List.map_cons, List.map_nil, List.getD_cons_zero, List.getD_cons_succ]
            rw [show mkR n (fun a b => thenB A B i j a b || (dn i 0 a b && (decide (a = i) && hasN B j b))) = mkR n (thenB A B i j) from mkR_congr fun a b _ _ => by
              by_cases h : a = i
              · subst h; simp [dn]
              · simp [h]]
            rfl) (by omega) ?_
        intro k hk
        have hy : hasI B j k = hasN B j k := hasI_nat
        simp only [↓vck_skip, ↓vck_ret, ↓vck_exit, ↓vck_region, ↓vck_nilq, ↓nilTo_to, nilG_d, nilG_r, ↓vck_seq, ↓vck_cond, ↓vck_block, ↓vck_loop, ↓vckTo_to, ↓thenK_n, ↓thenK_x, ↓thenK_r, ↓blockK_n, ↓blockK_x, ↓blockK_o, ↓blockK_r, ↓regK_to, ↓retK_r, ↓retK_n, ↓loopV_n, ↓loopV_x, ↓loopV_r, ↓famK_n, ↓famK_x, ↓famK_r, ↓boolK_true, ↓boolK_false, ↓boolK_not, ↓boolK_dec, ↓boolK_and, nf_mk, RGk_end_f, RGk_end_t, RGk_op, RGk_guard, opK_to, evN, evCallN, grow_mk, feet_f, feet_t, foot_mk, stepK_mk, stepK_v, stepK_no, guardG_t, guardG_f, guardG_no, condG_b, evT, Opd.ev, get_hit, get_next, app_to, app_no, app_up, app_skip, app_skipn, know_mk, knowO_t, knowO_c, envFrom, reserve, keeps, LOp.isNew, State.prune, cellsQ, cellsT, AV.leaf, Heap.at, evLoad_ptr, evLoad_dptr, loadO_vec, loadO_dvec1, stepK_load_map, idx_I, idx_W, rowW, set_rowW, app_rowW, app_rowW0, rep_rowW0, rowB, set_rowB, rep_rowB, rowN, lens_W, lensA_W, scal_rowW, default_W, w_or, w_and, w_andNot, w_and1, w_shl, w_shl1, w_shr, w_sub1, w_neg, w_add, w_bit, w_eq0, w_eq1, w_eq, Bool.decide_eq_true, idx_Rat, idx_Loc, idx_Act, idx_Step, idx_Stamp, stepK_idx_ref, evStore_ptr, storeO_vec, stepK_store_map1, loadDT_f, rowI, RatG.row, LocG.row, ActG.row, StepG.row, StampG.row, ActG.av, ActG.eta, RatG.eta, LocG.eta, beq_true, beq_false, loadDT_t, set_rowI, app_rowI, rep_rowI, set_rowRat, app_rowRat, rep_rowRat, set_rowLoc, app_rowLoc, app_rowAct, app_rowStep, List.length_set, List.length_replicate, toNat_cast, Int.reduceToNat, evLen, evAppend, srcOf, Src.all, Src.len, Src.leaf, joinV, drows_rep1, drows_rep2, drows_rep3, drows_rep4, drows_rep5, drows_rep6, drows_rep7, drows_rep8, mkVec, drows, evMk, List.length_map, take_mapF, drop_mapF, List.take_length, List.take_left, List.length_append, Nat.le_add_right, ite_self, List.take_of_length_le, evSlice, intOr, intOpd, Option.isSome_none, Option.isSome_some, Nat.sub_zero, loadQ, loadT, evBin, evUn, evIdxArr_d, evIdxArr_p, binT, binQ, chk, apartF, List.contains_cons, List.contains_nil, Bool.or_false, Bool.false_or, Bool.and_self, resQ, resV, resT, pickV, evCallT, evCall, fnOf, viewsT, viewT, evInt2, evEq, eqV, eqK, eqC1, buildQ, buildT, buildRQ, buildRT, lens_I, lensA_I, lens_Rat, lensA_Rat, lens_Loc, lensA_Loc, lens_Act, lensA_Act, lens_Step, lensA_Step, lens_Stamp, lensA_Stamp, List.mem_cons, List.not_mem_nil, or_false, forall_eq, putRow, dcells, get_nil, RetS, RetF, RetD, AV.frz, AV.frzL, AV.freshP, AV.freshL, DV.less, scal_int, scal_bool, scal_nil, scal_rowI, scal_rowRat, scal_rowStep, Option.some.injEq, AV.tup.injEq, AV.agg.injEq, List.cons.injEq, DV.list.injEq, List.isEmpty_nil, Nat.le_refl, AV.d.injEq, DV.int.injEq, DV.bool.injEq, ↓reduceIte, Nat.reduceEqDiff, Nat.reduceAdd, Nat.reduceBEq, List.length_cons, List.length_nil, List.replicate_succ, List.replicate_zero, List.nil_append, List.cons_append, List.append_nil, List.foldl_cons, List.foldl_nil, List.map_cons, List.map_nil, List.all_cons, List.all_nil, List.set_cons_zero, List.set_cons_succ, List.getD_cons_zero, List.getD_cons_succ, List.drop_zero, List.drop_succ_cons, List.take_succ_cons, List.take_zero, List.flatten_cons, List.flatten_nil, Bool.true_and, Bool.and_true, Bool.not_true, Bool.not_false, true_and, and_true, true_or, or_true, Option.bind_some, Option.map_some, decide_true, decide_false, beq_self_eq_true, true_implies, false_implies, implies_true, not_true_eq_false, not_false_eq_true, and_self, Bool.and_false, Bool.false_and, Nat.reduceLT, Nat.reduceLeDiff, List.reverse_cons, List.reverse_nil, Nat.zero_add, Nat.add_zero, Bool.false_eq_true, List.getElem?_cons_zero, Nat.reduceMul, Nat.mul_one, F1, G1, G2, F3, G3, at_Has, at_Put, at_most', putE_d, mkR_len, szR_mk' hle, hy]
        refine ⟨fun g2 => ?_, fun g2 => ?_⟩
        · have g2' : k < n := by omega
          simp only [wrap_succ g2' (by unfold maxLen; omega)]
          rw [putR_mk hle c' g2']
          refine ⟨h2, fun hb2 => ⟨by omega, ?_⟩, fun hb2 => ?_⟩
          · exact FamNext.mk [0] (k + 1) (by simp) (by simp) (by
              simp only [State.can, AV.can, AV.canL, HO.can, canRows, idx, get_hit, get_next, Heap.at, Nat.reduceBEq, ↓reduceIte, Nat.reduceEqDiff, Option.getD_some, Option.map_some, List.map_cons, List.map_nil, List.getD_cons_zero, List.getD_cons_succ]
              rw [show mkR n (fun a b => thenB A B i j a b || (dn i (k + 1) a b && (decide (a = i) && hasN B j b))) = mkR n (fun a b => (thenB A B i j a b || (dn i k a b && (decide (a = i) && hasN B j b))) || (decide (a = i) && decide (b = k))) from mkR_congr fun a b _ _ => by
                rw [dn_put (q := fun a b => decide (a = i) && hasN B j b) (by simp [hb2]) a b, Bool.or_assoc]]) (by show k + 1 ≤ n; omega) (by show n - (k + 1) < n - k; omega)
          · exact FamNext.mk [0] (k + 1) (by simp) (by simp) (by
              simp only [State.can, AV.can, AV.canL, HO.can, canRows, idx, get_hit, get_next, Heap.at, Nat.reduceBEq, ↓reduceIte, Nat.reduceEqDiff, Option.getD_some, Option.map_some, List.map_cons, List.map_nil, List.getD_cons_zero, List.getD_cons_succ]
              rw [show mkR n (fun a b => thenB A B i j a b || (dn i (k + 1) a b && (decide (a = i) && hasN B j b))) = mkR n (fun a b => thenB A B i j a b || (dn i k a b && (decide (a = i) && hasN B j b))) from mkR_congr fun a b _ _ => by
                rw [dn_no (q := fun a b => decide (a = i) && hasN B j b) (by simp [hb2]) a b]]) (by show k + 1 ≤ n; omega) (by show n - (k + 1) < n - k; omega)
        · have : k = n := by omega
          subst this
          simp only [wrap_succ g' (by unfold maxLen; omega)]
          exact FamNext.mk [0] (j + 1) (by simp) (by simp) (by
            simp only [State.can, AV.can, AV.canL, HO.can, canRows, idx, get_hit, get_next, Heap.at, Nat.reduceBEq, ↓reduceIte, Nat.reduceEqDiff, Option.getD_some, Option.map_some, List.map_cons, List.map_nil, List.getD_cons_zero, List.getD_cons_succ]
            rw [show mkR k (thenB A B i (j + 1)) = mkR k (fun a b => thenB A B i j a b || (dn i k a b && (decide (a = i) && hasN B j b))) from mkR_congr fun a b _ hbk => by
              rw [thenB_step, hb]
              by_cases h : a = i
              · subst h; simp [dn, hbk]
              · simp [h]]) (by show j + 1 ≤ k; omega) (by show k - (j + 1) < k - j; omega)
      · simp only [wrap_succ g' (by unfold maxLen; omega)]
        exact FamNext.mk [0] (j + 1) (by simp) (by simp) (by
          simp only [State.can, AV.can, AV.canL, HO.can, canRows, idx, get_hit, get_next, Heap.at, Nat.reduceBEq, ↓reduceIte, Nat.reduceEqDiff, Option.getD_some, Option.map_some, List.map_cons, List.map_nil, List.getD_cons_zero, List.getD_cons_succ]
          rw [show mkR n (thenB A B i (j + 1)) = mkR n (thenB A B i j) from mkR_congr fun a b _ _ => by rw [thenB_step, hb]; simp]) (by show j + 1 ≤ n; omega) (by show n - (j + 1) < n - j; omega)
    · have : j = n := by omega
      subst this
      simp only [wrap_succ c' (by unfold maxLen; omega)]
      refine FamNext.mk [0] (i + 1) (by simp) (by simp) ?_ (by show i + 1 ≤ j; omega) (by show j - (i + 1) < j - i; omega)
      rw [show mkR j (thenB A B i j) = mkR j (thenB A B (i + 1) 0) from mkR_congr fun a b _ _ => thenB_next hA hle]
      simp only [State.can, AV.can, AV.canL, HO.can, canRows, idx, get_hit, get_next, Heap.at, Nat.reduceBEq, ↓reduceIte, Nat.reduceEqDiff, Option.getD_some, Option.map_some, List.map_cons, List.map_nil, List.getD_cons_zero, List.getD_cons_succ]
  · have : i = n := by omega
    subst this
    rw [show mkR i (thenB A B i 0) = mkR i (thenP A B) from mkR_congr fun a b ha _ => by simp [thenB, ha]]
    exact .inl ⟨0, true, by simp [mkR_len], rfl⟩
end Go.Ago

/- Ways: what is reached from where. Conditions: none. -/
set_option linter.unusedSimpArgs false
set_option linter.unusedVariables false
namespace Go.Ago

section
variable {p : Nat → Nat → Bool}
theorem way_up {m i k : Nat} (h : way p m i k = true) : way p (m + 1) i k = true := by simp only [way, h, Bool.true_or]
theorem way_mono {m m' i k : Nat} (hm : m ≤ m') (h : way p m i k = true) : way p m' i k = true := by
  induction hm with
  | refl => exact h
  | step _ ih => exact way_up ih
theorem way_of {m i k : Nat} (h : p i k = true) : way p m i k = true := way_mono (Nat.zero_le m) (by simpa only [way] using h)
theorem way_trans {m i j k : Nat} (hj : j < m) (h1 : way p m i j = true) (h2 : way p m j k = true) : way p m i k = true := by
  induction m generalizing i j k with
  | zero => omega
  | succ m ih =>
    simp only [way, Bool.or_eq_true, Bool.and_eq_true] at h1 h2 ⊢
    by_cases e : j = m
    · subst e
      have g1 : way p j i j = true := by rcases h1 with h | h; exact h; exact h.1
      have g2 : way p j j k = true := by rcases h2 with h | h; exact h; exact h.2
      exact .inr ⟨g1, g2⟩
    · have hj' : j < m := by omega
      rcases h1 with h1 | ⟨h1, h1'⟩
      · rcases h2 with h2 | ⟨h2, h2'⟩
        · exact .inl (ih hj' h1 h2)
        · exact .inr ⟨ih hj' h1 h2, h2'⟩
      · rcases h2 with h2 | ⟨h2, h2'⟩
        · exact .inr ⟨h1, ih hj' h1' h2⟩
        · exact .inr ⟨h1, h2'⟩
/-- The least that is closed. -/
theorem way_min {V : Nat → Bool} (hc : ∀ b c, V b = true → p b c = true → V c = true) {m i : Nat} (hs : ∀ b, p i b = true → V b = true) : ∀ {k : Nat}, way p m i k = true → V k = true := by
  suffices h : ∀ m a k, (V a = true ∨ a = i) → way p m a k = true → V k = true from fun {k} hk => h m i k (.inr rfl) hk
  intro m
  induction m with
  | zero =>
    intro a k ha hk
    simp only [way] at hk
    rcases ha with ha | ha
    · exact hc a k ha hk
    · subst ha; exact hs k hk
  | succ m ih =>
    intro a k ha hk
    simp only [way, Bool.or_eq_true, Bool.and_eq_true] at hk
    rcases hk with hk | ⟨h1, h2⟩
    · exact ih a k ha hk
    · exact ih m k (.inl (ih a m ha h1)) h2
theorem way_lt {n : Nat} (hp : ∀ a b, p a b = true → a < n ∧ b < n) {m i k : Nat} (h : way p m i k = true) : i < n ∧ k < n := by
  induction m generalizing i k with
  | zero => exact hp i k (by simpa only [way] using h)
  | succ m ih =>
    simp only [way, Bool.or_eq_true, Bool.and_eq_true] at h
    rcases h with h | ⟨h1, h2⟩
    · exact ih h
    · exact ⟨(ih h1).1, (ih h2).2⟩
end

/-- How many are not there yet. -/
def cnt (V : Nat → Bool) : Nat → Nat
  | 0 => 0
  | n + 1 => cnt V n + if V n then 0 else 1
theorem cnt_congr {V V' : Nat → Bool} : ∀ {n : Nat}, (∀ b, b < n → V b = V' b) → cnt V n = cnt V' n := by
  intro n
  induction n with
  | zero => intro _; rfl
  | succ n ih => intro h; simp only [cnt]; rw [ih fun b hb => h b (by omega), h n (by omega)]
theorem cnt_put {V : Nat → Bool} {k : Nat} (hv : V k = false) : ∀ {n : Nat}, k < n → cnt (fun b => V b || decide (b = k)) n + 1 = cnt V n := by
  intro n
  induction n with
  | zero => intro h; omega
  | succ n ih =>
    intro h
    simp only [cnt]
    by_cases e : k = n
    · subst e
      rw [cnt_congr (V' := V) (fun b hb => by
        have : ¬ b = k := by omega
        simp [this])]
      simp [hv]
    · have := ih (by omega)
      have e2 : ¬ n = k := fun h => e h.symm
      simp only [e2, decide_false, Bool.or_false]
      omega

/-- Rows ahead of i are done, row i is V. -/
def rowsP (A : List W) (i : Nat) (V : Nat → Bool) (a b : Nat) : Bool := if a < i then way (hasN A) (szR A) a b else if a = i then V b else false
theorem rowsP_self {A : List W} {i b : Nat} {V : Nat → Bool} : rowsP A i V i b = V b := by unfold rowsP; rw [if_neg (Nat.lt_irrefl i), if_pos rfl]
theorem rowsP_put {A : List W} {i k : Nat} {V : Nat → Bool} (a b : Nat) : (rowsP A i V a b || (decide (a = i) && decide (b = k))) = rowsP A i (fun b => V b || decide (b = k)) a b := by
  unfold rowsP
  by_cases h1 : a < i
  · have : ¬ a = i := by omega
    simp [h1, this]
  · by_cases h2 : a = i
    · simp [h2]
    · simp [h1, h2]
theorem rowsP_congr {A : List W} {i : Nat} {V V' : Nat → Bool} {n : Nat} (h : ∀ b, b < n → V b = V' b) : mkR n (rowsP A i V) = mkR n (rowsP A i V') := mkR_congr fun a b _ hb => by
  unfold rowsP; rw [h b hb]

/-- What the search for all that is reached from i keeps: T is still to be looked at; of the one that is looked at, the first k are done. -/
structure Seek (A : List W) (n i : Nat) (V : Nat → Bool) (T : List Nat) (q : Nat → Nat → Prop) : Prop where
  sound : ∀ b, V b = true → b < n ∧ way (hasN A) n i b = true
  start : ∀ b, hasN A i b = true → V b = true
  todo : ∀ b ∈ T, V b = true
  done : ∀ b c, V b = true → hasN A b c = true → b ∈ T ∨ V c = true ∨ q b c

theorem Seek.end {A : List W} {n i : Nat} {V : Nat → Bool} (h : Seek A n i V [] fun _ _ => False) (b : Nat) : V b = way (hasN A) n i b := by
  apply beq_of_iff
  refine ⟨fun hv => (h.sound b hv).2, fun hw => way_min (V := V) (fun b c hb hc => ?_) h.start hw⟩
  rcases h.done b c hb hc with h1 | h1 | h1
  · simp at h1
  · exact h1
  · exact h1.elim

theorem Seek.pop {A : List W} {n i j : Nat} {V : Nat → Bool} {T : List Nat} (h : Seek A n i V (j :: T) fun _ _ => False) : Seek A n i V T fun b c => b = j ∧ 0 ≤ c :=
  ⟨h.sound, h.start, fun b hb => h.todo b (by simp [hb]), fun b c h1 h2 => by
    rcases h.done b c h1 h2 with h3 | h3 | h3
    · rcases List.mem_cons.1 h3 with h3 | h3
      · exact .inr (.inr ⟨h3, Nat.zero_le c⟩)
      · exact .inl h3
    · exact .inr (.inl h3)
    · exact h3.elim⟩
theorem Seek.skip {A : List W} {n i j k : Nat} {V : Nat → Bool} {T : List Nat} (h : Seek A n i V T fun b c => b = j ∧ k ≤ c) (hk : hasN A j k = false ∨ V k = true) : Seek A n i V T fun b c => b = j ∧ k + 1 ≤ c :=
  ⟨h.sound, h.start, h.todo, fun b c h1 h2 => by
    rcases h.done b c h1 h2 with h3 | h3 | ⟨h3, h4⟩
    · exact .inl h3
    · exact .inr (.inl h3)
    · by_cases e : c = k
      · subst e; subst h3
        rcases hk with hk | hk
        · rw [hk] at h2; cases h2
        · exact .inr (.inl hk)
      · exact .inr (.inr ⟨h3, by omega⟩)⟩
theorem Seek.push {A : List W} {n i j k : Nat} {V : Nat → Bool} {T : List Nat} (h : Seek A n i V T fun b c => b = j ∧ k ≤ c) (hj : V j = true) (hk : hasN A j k = true) (hkn : k < n) :
    Seek A n i (fun b => V b || decide (b = k)) (T ++ [k]) fun b c => b = j ∧ k + 1 ≤ c :=
  ⟨fun b hb => by
    rw [Bool.or_eq_true, decide_eq_true_eq] at hb
    rcases hb with hb | hb
    · exact h.sound b hb
    · subst hb
      obtain ⟨g1, g2⟩ := h.sound j hj
      exact ⟨hkn, way_trans g1 g2 (way_of hk)⟩,
  fun b hb => by rw [h.start b hb]; rfl,
  fun b hb => by
    rcases List.mem_append.1 hb with hb | hb
    · rw [h.todo b hb]; rfl
    · simp at hb; simp [hb],
  fun b c h1 h2 => by
    rw [Bool.or_eq_true, decide_eq_true_eq] at h1
    by_cases e0 : b = k
    · exact .inl (by simp [e0])
    · have h1 : V b = true := by rcases h1 with h1 | h1; exact h1; exact absurd h1 e0
      rcases h.done b c h1 h2 with h3 | h3 | ⟨h3, h4⟩
      · exact .inl (by simp [h3])
      · exact .inr (.inl (by rw [h3]; rfl))
      · by_cases e : c = k
        · exact .inr (.inl (by simp [e]))
        · exact .inr (.inr ⟨h3, by omega⟩)⟩
theorem Seek.rest {A : List W} {n i j : Nat} {V : Nat → Bool} {T : List Nat} (h : Seek A n i V T fun b c => b = j ∧ n ≤ c) (hn : szR A ≤ n) : Seek A n i V T fun _ _ => False :=
  ⟨h.sound, h.start, h.todo, fun b c h1 h2 => by
    rcases h.done b c h1 h2 with h3 | h3 | ⟨h3, h4⟩
    · exact .inl h3
    · exact .inr (.inl h3)
    · have := (hasN_lt h2).2; omega⟩
theorem Seek.begin {A : List W} {n i : Nat} (hn : szR A ≤ n) (hi : i < n) : Seek A n i (hasN A i) ((List.range n).filter (hasN A i)) fun _ _ => False :=
  ⟨fun b hb => ⟨by have := (hasN_lt hb).2; omega, way_of hb⟩, fun b hb => hb, fun b hb => (List.mem_filter.1 hb).2, fun b c h1 h2 => .inl (List.mem_filter.2 ⟨by have := (hasN_lt h1).2; simp; omega, h1⟩)⟩
end Go.Ago

/- Contracts of the reference of layer 2: Plus. Conditions: none. -/
set_option maxRecDepth 100000
set_option linter.unusedSimpArgs false
set_option linter.unusedVariables false
namespace Go.Ago

theorem cnt_le {V : Nat → Bool} : ∀ {n : Nat}, cnt V n ≤ n := by
  intro n
  induction n with
  | zero => simp [cnt]
  | succ n ih => simp only [cnt]; split <;> omega
theorem has_rows {A : List W} {n i k : Nat} {V : Nat → Bool} (hn : n ≤ 64) (hi : i < n) (hk : k < n) : hasI (mkR n (rowsP A i V)) i k = V k := by
  rw [hasI_nat, hasN_mk hn, rowsP_self]; simp [hi, hk]
theorem mid_getD {P T : List Nat} {j : Nat} : (P ++ j :: T).getD P.length default = j := by simp
def outP (A : List W) (n i : Nat) (V : Nat → Bool) : HO := .dvec 1 ((mkR n (rowsP A i V)).map rowW)
def pl1St (A : List W) (e : Bool) (n i : Nat) : Nat × List Nat → State
  | (k, []) => ⟨[(0, .d (.list (A.map rowW) e)), (3, .d (.int .i64 n)), (4, .ref 0 1 0 n true), (5, .d (.int .i64 i)), (6, .d (.list [] true)), (7, .d (.int .i64 k))], [.dvec 1 ((mkR n (rowsP A i fun b => decide (b < k) && hasN A i b)).map rowW)]⟩
  | (k, t :: ts) => ⟨[(0, .d (.list (A.map rowW) e)), (3, .d (.int .i64 n)), (4, .ref 0 1 0 n true), (5, .d (.int .i64 i)), (6, .ref 1 1 0 (ts.length + 1) true), (7, .d (.int .i64 k))], [.dvec 1 ((mkR n (rowsP A i fun b => decide (b < k) && hasN A i b)).map rowW), .dvec 1 ((t :: ts).map rowN)]⟩
theorem filt_succ {A : List W} {i k : Nat} : (List.range (k + 1)).filter (hasN A i) = (List.range k).filter (hasN A i) ++ (if hasN A i k then [k] else []) := by
  rw [List.range_succ, List.filter_append]
  cases h : hasN A i k <;> simp [h]
theorem pl1_put {A : List W} {n i k : Nat} (h : hasN A i k = true) : mkR n (fun a b => rowsP A i (fun b => decide (b < k) && hasN A i b) a b || (decide (a = i) && decide (b = k))) = mkR n (rowsP A i fun b => decide (b < k + 1) && hasN A i b) :=
  mkR_congr fun a b _ _ => by
    rw [rowsP_put]
    unfold rowsP
    split
    · rfl
    · split
      · by_cases e : b = k
        · subst e; simp [h]
        · by_cases e2 : b < k
          · have : b < k + 1 := by omega
            simp [e, e2, this]
          · have : ¬ b < k + 1 := by omega
            simp [e, e2, this]
      · rfl
theorem pl1_no {A : List W} {n i k : Nat} (h : hasN A i k = false) : mkR n (rowsP A i fun b => decide (b < k + 1) && hasN A i b) = mkR n (rowsP A i fun b => decide (b < k) && hasN A i b) :=
  rowsP_congr fun b _ => by
    by_cases e : b = k
    · subst e; simp [h]
    · by_cases e2 : b < k
      · have : b < k + 1 := by omega
        simp [e2, this]
      · have : ¬ b < k + 1 := by omega
        simp [e2, this]

theorem rowsP_next {A : List W} {n i : Nat} {V : Nat → Bool} (hn : n = szR A) (h : ∀ b, b < n → V b = way (hasN A) n i b) : mkR n (rowsP A i V) = mkR n (rowsP A (i + 1) fun _ => false) :=
  mkR_congr fun a b _ hb => by
    unfold rowsP
    by_cases e1 : a < i
    · rw [if_pos e1, if_pos (by omega)]
    · by_cases e2 : a = i
      · rw [if_neg e1, if_pos e2, if_pos (by omega), h b hb, e2, hn]
      · rw [if_neg e1, if_neg e2, if_neg (by omega)]; split <;> rfl
theorem filt_all {A : List W} {n i b : Nat} (hn : n = szR A) : (decide (b < n) && hasN A i b) = hasN A i b := by
  by_cases h : b < n
  · simp [h]
  · rw [hasN_off (by omega)]; simp

theorem body_ref02_Plus {T : Tab} {n1 n2 n3 : Nat} (k1 : Knows T n1 sp_Has) (k2 : KnowsG T n2 ef_Put.at) (k3 : Knows T n3 sp_size) : sp_Plus.Body T V_ref02_Plus (L_ref02_Plus n1 n2 n3) R_ref02_Plus := by
  have F1 := k1.F; have G1 := k1.G; have G2 := k2.G; have F3 := k3.F; have G3 := k3.G
  rintro ⟨A, e⟩ h1
  have h1 : A.length ≤ maxLen := h1
  refine ⟨rows_len (f := rowW) (fun _ => rfl) _, ?_⟩
  unfold V_ref02_Plus L_ref02_Plus R_ref02_Plus
  simp only [↓vck_skip, ↓vck_ret, ↓vck_exit, ↓vck_region, ↓vck_nilq, ↓nilTo_to, nilG_d, nilG_r, ↓vck_seq, ↓vck_cond, ↓vck_block, ↓vck_loop, ↓vckTo_to, ↓thenK_n, ↓thenK_x, ↓thenK_r, ↓blockK_n, ↓blockK_x, ↓blockK_o, ↓blockK_r, ↓regK_to, ↓retK_r, ↓retK_n, ↓loopV_n, ↓loopV_x, ↓loopV_r, ↓famK_n, ↓famK_x, ↓famK_r, ↓boolK_true, ↓boolK_false, ↓boolK_not, ↓boolK_dec, ↓boolK_and, nf_mk, RGk_end_f, RGk_end_t, RGk_op, RGk_guard, opK_to, evN, evCallN, grow_mk, feet_f, feet_t, foot_mk, stepK_mk, stepK_v, stepK_no, guardG_t, guardG_f, guardG_no, condG_b, evT, Opd.ev, get_hit, get_next, app_to, app_no, app_up, app_skip, app_skipn, know_mk, knowO_t, knowO_c, envFrom, reserve, keeps, LOp.isNew, State.prune, cellsQ, cellsT, AV.leaf, Heap.at, evLoad_ptr, evLoad_dptr, loadO_vec, loadO_dvec1, stepK_load_map, idx_I, idx_W, rowW, set_rowW, app_rowW, app_rowW0, rep_rowW0, rowB, set_rowB, rep_rowB, rowN, lens_W, lensA_W, scal_rowW, default_W, w_or, w_and, w_andNot, w_and1, w_shl, w_shl1, w_shr, w_sub1, w_neg, w_add, w_bit, w_eq0, w_eq1, w_eq, Bool.decide_eq_true, idx_Rat, idx_Loc, idx_Act, idx_Step, idx_Stamp, stepK_idx_ref, evStore_ptr, storeO_vec, stepK_store_map1, loadDT_f, rowI, RatG.row, LocG.row, ActG.row, StepG.row, StampG.row, ActG.av, ActG.eta, RatG.eta, LocG.eta, beq_true, beq_false, loadDT_t, set_rowI, app_rowI, rep_rowI, set_rowRat, app_rowRat, rep_rowRat, set_rowLoc, app_rowLoc, app_rowAct, app_rowStep, List.length_set, List.length_replicate, toNat_cast, Int.reduceToNat, evLen, evAppend, srcOf, Src.all, Src.len, Src.leaf, joinV, drows_rep1, drows_rep2, drows_rep3, drows_rep4, drows_rep5, drows_rep6, drows_rep7, drows_rep8, mkVec, drows, evMk, List.length_map, take_mapF, drop_mapF, List.take_length, List.take_left, List.length_append, Nat.le_add_right, ite_self, List.take_of_length_le, evSlice, intOr, intOpd, Option.isSome_none, Option.isSome_some, Nat.sub_zero, loadQ, loadT, evBin, evUn, evIdxArr_d, evIdxArr_p, binT, binQ, chk, apartF, List.contains_cons, List.contains_nil, Bool.or_false, Bool.false_or, Bool.and_self, resQ, resV, resT, pickV, evCallT, evCall, fnOf, viewsT, viewT, evInt2, evEq, eqV, eqK, eqC1, buildQ, buildT, buildRQ, buildRT, lens_I, lensA_I, lens_Rat, lensA_Rat, lens_Loc, lensA_Loc, lens_Act, lensA_Act, lens_Step, lensA_Step, lens_Stamp, lensA_Stamp, List.mem_cons, List.not_mem_nil, or_false, forall_eq, putRow, dcells, get_nil, RetS, RetF, RetD, AV.frz, AV.frzL, AV.freshP, AV.freshL, DV.less, scal_int, scal_bool, scal_nil, scal_rowI, scal_rowRat, scal_rowStep, Option.some.injEq, AV.tup.injEq, AV.agg.injEq, List.cons.injEq, DV.list.injEq, List.isEmpty_nil, Nat.le_refl, AV.d.injEq, DV.int.injEq, DV.bool.injEq, ↓reduceIte, Nat.reduceEqDiff, Nat.reduceAdd, Nat.reduceBEq, List.length_cons, List.length_nil, List.replicate_succ, List.replicate_zero, List.nil_append, List.cons_append, List.append_nil, List.foldl_cons, List.foldl_nil, List.map_cons, List.map_nil, List.all_cons, List.all_nil, List.set_cons_zero, List.set_cons_succ, List.getD_cons_zero, List.getD_cons_succ, List.drop_zero, List.drop_succ_cons, List.take_succ_cons, List.take_zero, List.flatten_cons, List.flatten_nil, Bool.true_and, Bool.and_true, Bool.not_true, Bool.not_false, true_and, and_true, true_or, or_true, Option.bind_some, Option.map_some, decide_true, decide_false, beq_self_eq_true, true_implies, false_implies, implies_true, not_true_eq_false, not_false_eq_true, and_self, Bool.and_false, Bool.false_and, Nat.reduceLT, Nat.reduceLeDiff, List.reverse_cons, List.reverse_nil, Nat.zero_add, Nat.add_zero, Bool.false_eq_true, List.getElem?_cons_zero, Nat.reduceMul, Nat.mul_one, sp_Plus, F1, G1, G2, F3, G3, at_Has, at_Put, at_size]
  have hle := szR_le A
  have hfin : plusG A = mkR (szR A) (way (hasN A) (szR A)) := rfl
  rw [hfin]
  obtain ⟨n, hn⟩ : ∃ n, n = szR A := ⟨_, rfl⟩
  rw [← hn] at hle ⊢
  refine ⟨h1, ⟨by omega, by omega, roomy_of (by omega) (by omega)⟩, ?_⟩
  refine Loop.fam [0, 3, 4, 5] (fun i : Nat => ⟨[(0, .d (.list (A.map rowW) e)), (3, .d (.int .i64 n)), (4, .ref 0 1 0 n true), (5, .d (.int .i64 i))],
      [.dvec 1 ((mkR n (rowsP A i fun _ => false)).map rowW)]⟩) (fun i => i ≤ n) (fun i => n - i) 0 [0] (by simp) (by simp) (by
        simp only [State.can, AV.can, AV.canL, HO.can, canRows, idx, get_hit, get_next, Heap.at, Nat.reduceBEq, ↓reduceIte, Nat.reduceEqDiff, Option.getD_some, Option.map_some, List.map_cons, List.map_nil, List.getD_cons_zero, List.getD_cons_succ]
        rw [mkR_zero (p := rowsP A 0 fun _ => false) (fun a b _ _ => by simp [rowsP])]; rfl) (by omega) ?_
  intro i hi
  simp only [↓vck_skip, ↓vck_ret, ↓vck_exit, ↓vck_region, ↓vck_nilq, ↓nilTo_to, nilG_d, nilG_r, ↓vck_seq, ↓vck_cond, ↓vck_block, ↓vck_loop, ↓vckTo_to, ↓thenK_n, ↓thenK_x, ↓thenK_r, ↓blockK_n, ↓blockK_x, ↓blockK_o, ↓blockK_r, ↓regK_to, ↓retK_r, ↓retK_n, ↓loopV_n, ↓loopV_x, ↓loopV_r, ↓famK_n, ↓famK_x, ↓famK_r, ↓boolK_true, ↓boolK_false, ↓boolK_not, ↓boolK_dec, ↓boolK_and, nf_mk, RGk_end_f, RGk_end_t, RGk_op, RGk_guard, opK_to, evN, evCallN, grow_mk, feet_f, feet_t, foot_mk, stepK_mk, stepK_v, stepK_no, guardG_t, guardG_f, guardG_no, condG_b, evT, Opd.ev, get_hit, get_next, app_to, app_no, app_up, app_skip, app_skipn, know_mk, knowO_t, knowO_c, envFrom, reserve, keeps, LOp.isNew, State.prune, cellsQ, cellsT, AV.leaf, Heap.at, evLoad_ptr, evLoad_dptr, loadO_vec, loadO_dvec1, stepK_load_map, idx_I, idx_W, rowW, set_rowW, app_rowW, app_rowW0, rep_rowW0, rowB, set_rowB, rep_rowB, rowN, lens_W, lensA_W, scal_rowW, default_W, w_or, w_and, w_andNot, w_and1, w_shl, w_shl1, w_shr, w_sub1, w_neg, w_add, w_bit, w_eq0, w_eq1, w_eq, Bool.decide_eq_true, idx_Rat, idx_Loc, idx_Act, idx_Step, idx_Stamp, stepK_idx_ref, evStore_ptr, storeO_vec, stepK_store_map1, loadDT_f, rowI, RatG.row, LocG.row, ActG.row, StepG.row, StampG.row, ActG.av, ActG.eta, RatG.eta, LocG.eta, beq_true, beq_false, loadDT_t, set_rowI, app_rowI, rep_rowI, set_rowRat, app_rowRat, rep_rowRat, set_rowLoc, app_rowLoc, app_rowAct, app_rowStep, List.length_set, List.length_replicate, toNat_cast, Int.reduceToNat, evLen, evAppend, srcOf, Src.all, Src.len, Src.leaf, joinV, drows_rep1, drows_rep2, drows_rep3, drows_rep4, drows_rep5, drows_rep6, drows_rep7, drows_rep8, mkVec, drows, evMk, List.length_map, take_mapF, drop_mapF, List.take_length, List.take_left, List.length_append, Nat.le_add_right, ite_self, List.take_of_length_le, evSlice, intOr, intOpd, Option.isSome_none, Option.isSome_some, Nat.sub_zero, loadQ, loadT, evBin, evUn, evIdxArr_d, evIdxArr_p, binT, binQ, chk, apartF, List.contains_cons, List.contains_nil, Bool.or_false, Bool.false_or, Bool.and_self, resQ, resV, resT, pickV, evCallT, evCall, fnOf, viewsT, viewT, evInt2, evEq, eqV, eqK, eqC1, buildQ, buildT, buildRQ, buildRT, lens_I, lensA_I, lens_Rat, lensA_Rat, lens_Loc, lensA_Loc, lens_Act, lensA_Act, lens_Step, lensA_Step, lens_Stamp, lensA_Stamp, List.mem_cons, List.not_mem_nil, or_false, forall_eq, putRow, dcells, get_nil, RetS, RetF, RetD, AV.frz, AV.frzL, AV.freshP, AV.freshL, DV.less, scal_int, scal_bool, scal_nil, scal_rowI, scal_rowRat, scal_rowStep, Option.some.injEq, AV.tup.injEq, AV.agg.injEq, List.cons.injEq, DV.list.injEq, List.isEmpty_nil, Nat.le_refl, AV.d.injEq, DV.int.injEq, DV.bool.injEq, ↓reduceIte, Nat.reduceEqDiff, Nat.reduceAdd, Nat.reduceBEq, List.length_cons, List.length_nil, List.replicate_succ, List.replicate_zero, List.nil_append, List.cons_append, List.append_nil, List.foldl_cons, List.foldl_nil, List.map_cons, List.map_nil, List.all_cons, List.all_nil, List.set_cons_zero, List.set_cons_succ, List.getD_cons_zero, List.getD_cons_succ, List.drop_zero, List.drop_succ_cons, List.take_succ_cons, List.take_zero, List.flatten_cons, List.flatten_nil, Bool.true_and, Bool.and_true, Bool.not_true, Bool.not_false, true_and, and_true, true_or, or_true, Option.bind_some, Option.map_some, decide_true, decide_false, beq_self_eq_true, true_implies, false_implies, implies_true, not_true_eq_false, not_false_eq_true, and_self, Bool.and_false, Bool.false_and, Nat.reduceLT, Nat.reduceLeDiff, List.reverse_cons, List.reverse_nil, Nat.zero_add, Nat.add_zero, Bool.false_eq_true, List.getElem?_cons_zero, Nat.reduceMul, Nat.mul_one, F1, G1, G2, F3, G3, at_Has, at_Put, at_size]
  refine ⟨fun c => ?_, fun c => ?_⟩
  · have c' : i < n := by omega
    refine Loop.fam [0, 3, 4, 5, 6, 7] (pl1St A e n i) (fun x => x.1 ≤ n ∧ x.2 = (List.range x.1).filter (hasN A i)) (fun x => n - x.1) (0, []) [0] (by simp) (by simp) (by
      simp only [State.can, AV.can, AV.canL, HO.can, canRows, idx, get_hit, get_next, Heap.at, Nat.reduceBEq, ↓reduceIte, Nat.reduceEqDiff, Option.getD_some, Option.map_some, List.map_cons, List.map_nil, List.getD_cons_zero, List.getD_cons_succ, pl1St]
      rw [rowsP_congr (V := fun b => decide (b < 0) && hasN A i b) (V' := fun _ => false) (fun b _ => by simp)]; rfl) ⟨by omega, rfl⟩ ?_
    rintro ⟨k, L⟩ ⟨hk, hL⟩
    have hk : k ≤ n := hk
    have hL : L = (List.range k).filter (hasN A i) := hL
    have hx : hasI A i k = hasN A i k := hasI_nat
    have hLl : L.length ≤ k := by rw [hL]; have := List.length_filter_le (hasN A i) (List.range k); simpa using this
    cases L with
    | nil =>
      simp only [↓vck_skip, ↓vck_ret, ↓vck_exit, ↓vck_region, ↓vck_nilq, ↓nilTo_to, nilG_d, nilG_r, ↓vck_seq, ↓vck_cond, ↓vck_block, ↓vck_loop, ↓vckTo_to, ↓thenK_n, ↓thenK_x, ↓thenK_r, ↓blockK_n, ↓blockK_x, ↓blockK_o, ↓blockK_r, ↓regK_to, ↓retK_r, ↓retK_n, ↓loopV_n, ↓loopV_x, ↓loopV_r, ↓famK_n, ↓famK_x, ↓famK_r, ↓boolK_true, ↓boolK_false, ↓boolK_not, ↓boolK_dec, ↓boolK_and, nf_mk, RGk_end_f, RGk_end_t, RGk_op, RGk_guard, opK_to, evN, evCallN, grow_mk, feet_f, feet_t, foot_mk, stepK_mk, stepK_v, stepK_no, guardG_t, guardG_f, guardG_no, condG_b, evT, Opd.ev, get_hit, get_next, app_to, app_no, app_up, app_skip, app_skipn, know_mk, knowO_t, knowO_c, envFrom, reserve, keeps, LOp.isNew, State.prune, cellsQ, cellsT, AV.leaf, Heap.at, evLoad_ptr, evLoad_dptr, loadO_vec, loadO_dvec1, stepK_load_map, idx_I, idx_W, rowW, set_rowW, app_rowW, app_rowW0, rep_rowW0, rowB, set_rowB, rep_rowB, rowN, lens_W, lensA_W, scal_rowW, default_W, w_or, w_and, w_andNot, w_and1, w_shl, w_shl1, w_shr, w_sub1, w_neg, w_add, w_bit, w_eq0, w_eq1, w_eq, Bool.decide_eq_true, idx_Rat, idx_Loc, idx_Act, idx_Step, idx_Stamp, stepK_idx_ref, evStore_ptr, storeO_vec, stepK_store_map1, loadDT_f, rowI, RatG.row, LocG.row, ActG.row, StepG.row, StampG.row, ActG.av, ActG.eta, RatG.eta, LocG.eta, beq_true, beq_false, loadDT_t, set_rowI, app_rowI, rep_rowI, set_rowRat, app_rowRat, rep_rowRat, set_rowLoc, app_rowLoc, app_rowAct, app_rowStep, List.length_set, List.length_replicate, toNat_cast, Int.reduceToNat, evLen, evAppend, srcOf, Src.all, Src.len, Src.leaf, joinV, drows_rep1, drows_rep2, drows_rep3, drows_rep4, drows_rep5, drows_rep6, drows_rep7, drows_rep8, mkVec, drows, evMk, List.length_map, take_mapF, drop_mapF, List.take_length, List.take_left, List.length_append, Nat.le_add_right, ite_self, List.take_of_length_le, evSlice, intOr, intOpd, Option.isSome_none, Option.isSome_some, Nat.sub_zero, loadQ, loadT, evBin, evUn, evIdxArr_d, evIdxArr_p, binT, binQ, chk, apartF, List.contains_cons, List.contains_nil, Bool.or_false, Bool.false_or, Bool.and_self, resQ, resV, resT, pickV, evCallT, evCall, fnOf, viewsT, viewT, evInt2, evEq, eqV, eqK, eqC1, buildQ, buildT, buildRQ, buildRT, lens_I, lensA_I, lens_Rat, lensA_Rat, lens_Loc, lensA_Loc, lens_Act, lensA_Act, lens_Step, lensA_Step, lens_Stamp, lensA_Stamp, List.mem_cons, List.not_mem_nil, or_false, forall_eq, putRow, dcells, get_nil, RetS, RetF, RetD, AV.frz, AV.frzL, AV.freshP, AV.freshL, DV.less, scal_int, scal_bool, scal_nil, scal_rowI, scal_rowRat, scal_rowStep, Option.some.injEq, AV.tup.injEq, AV.agg.injEq, List.cons.injEq, DV.list.injEq, List.isEmpty_nil, Nat.le_refl, AV.d.injEq, DV.int.injEq, DV.bool.injEq, ↓reduceIte, Nat.reduceEqDiff, Nat.reduceAdd, Nat.reduceBEq, List.length_cons, List.length_nil, List.replicate_succ, List.replicate_zero, List.nil_append, List.cons_append, List.append_nil, List.foldl_cons, List.foldl_nil, List.map_cons, List.map_nil, List.all_cons, List.all_nil, List.set_cons_zero, List.set_cons_succ, List.getD_cons_zero, List.getD_cons_succ, List.drop_zero, List.drop_succ_cons, List.take_succ_cons, List.take_zero, List.flatten_cons, List.flatten_nil, Bool.true_and, Bool.and_true, Bool.not_true, Bool.not_false, true_and, and_true, true_or, or_true, Option.bind_some, Option.map_some, decide_true, decide_false, beq_self_eq_true, true_implies, false_implies, implies_true, not_true_eq_false, not_false_eq_true, and_self, Bool.and_false, Bool.false_and, Nat.reduceLT, Nat.reduceLeDiff, List.reverse_cons, List.reverse_nil, Nat.zero_add, Nat.add_zero, Bool.false_eq_true, List.getElem?_cons_zero, Nat.reduceMul, Nat.mul_one, pl1St, F1, G1, G2, F3, G3, at_Has, at_Put, at_size, putE_d, mkR_len, szR_mk' hle, hx]
      refine ⟨fun g => ?_, fun g => ?_⟩
      · have g' : k < n := by omega
        simp only [wrap_succ g' (by unfold maxLen; omega)]
        rw [putR_mk hle c' g']
        refine ⟨h1, fun hb => ⟨by omega, roomy_of (by omega) (by omega), ?_⟩, fun hb => ?_⟩
        · exact FamNext.mk [0, 2] (k + 1, [k]) (by simp) (by simp) (by simp only [State.can, AV.can, AV.canL, HO.can, canRows, idx, get_hit, get_next, Heap.at, Nat.reduceBEq, ↓reduceIte, Nat.reduceEqDiff, Option.getD_some, Option.map_some, List.map_cons, List.map_nil, List.getD_cons_zero, List.getD_cons_succ, pl1St]; rw [pl1_put hb]; rfl) ⟨by show k + 1 ≤ n; omega, by show [k] = _; rw [filt_succ, ← hL, hb]; rfl⟩ (by show n - (k + 1) < n - k; omega)
        · exact FamNext.mk [0] (k + 1, []) (by simp) (by simp) (by simp only [State.can, AV.can, AV.canL, HO.can, canRows, idx, get_hit, get_next, Heap.at, Nat.reduceBEq, ↓reduceIte, Nat.reduceEqDiff, Option.getD_some, Option.map_some, List.map_cons, List.map_nil, List.getD_cons_zero, List.getD_cons_succ, pl1St]; rw [pl1_no hb]) ⟨by show k + 1 ≤ n; omega, by show [] = _; rw [filt_succ, ← hL, hb]; rfl⟩ (by show n - (k + 1) < n - k; omega)
      · have : k = n := by omega
        subst this
        refine Loop.fam [0, 3, 4, 5, 6] (fun _ : Unit => ⟨[(0, .d (.list (A.map rowW) e)), (3, .d (.int .i64 k)), (4, .ref 0 1 0 k true), (5, .d (.int .i64 i)), (6, .d (.list [] true))], [.dvec 1 ((mkR k (rowsP A i fun b => decide (b < k) && hasN A i b)).map rowW)]⟩) (fun _ => True) (fun _ => 0) () [0] (by simp) (by simp) (by simp only [State.can, AV.can, AV.canL, HO.can, canRows, idx, get_hit, get_next, Heap.at, Nat.reduceBEq, ↓reduceIte, Nat.reduceEqDiff, Option.getD_some, Option.map_some, List.map_cons, List.map_nil, List.getD_cons_zero, List.getD_cons_succ]) trivial ?_
        rintro - -
        simp only [↓vck_skip, ↓vck_ret, ↓vck_exit, ↓vck_region, ↓vck_nilq, ↓nilTo_to, nilG_d, nilG_r, ↓vck_seq, ↓vck_cond, ↓vck_block, ↓vck_loop, ↓vckTo_to, ↓thenK_n, ↓thenK_x, ↓thenK_r, ↓blockK_n, ↓blockK_x, ↓blockK_o, ↓blockK_r, ↓regK_to, ↓retK_r, ↓retK_n, ↓loopV_n, ↓loopV_x, ↓loopV_r, ↓famK_n, ↓famK_x, ↓famK_r, ↓boolK_true, ↓boolK_false, ↓boolK_not, ↓boolK_dec, ↓boolK_and, nf_mk, RGk_end_f, RGk_end_t, RGk_op, RGk_guard, opK_to, evN, evCallN, grow_mk, feet_f, feet_t, foot_mk, stepK_mk, stepK_v, stepK_no, guardG_t, guardG_f, guardG_no, condG_b, evT, Opd.ev, get_hit, get_next, app_to, app_no, app_up, app_skip, app_skipn, know_mk, knowO_t, knowO_c, envFrom, reserve, keeps, LOp.isNew, State.prune, cellsQ, cellsT, AV.leaf, Heap.at, evLoad_ptr, evLoad_dptr, loadO_vec, loadO_dvec1, stepK_load_map, idx_I, idx_W, rowW, set_rowW, app_rowW, app_rowW0, rep_rowW0, rowB, set_rowB, rep_rowB, rowN, lens_W, lensA_W, scal_rowW, default_W, w_or, w_and, w_andNot, w_and1, w_shl, w_shl1, w_shr, w_sub1, w_neg, w_add, w_bit, w_eq0, w_eq1, w_eq, Bool.decide_eq_true, idx_Rat, idx_Loc, idx_Act, idx_Step, idx_Stamp, stepK_idx_ref, evStore_ptr, storeO_vec, stepK_store_map1, loadDT_f, rowI, RatG.row, LocG.row, ActG.row, StepG.row, StampG.row, ActG.av, ActG.eta, RatG.eta, LocG.eta, beq_true, beq_false, loadDT_t, set_rowI, app_rowI, rep_rowI, set_rowRat, app_rowRat, rep_rowRat, set_rowLoc, app_rowLoc, app_rowAct, app_rowStep, List.length_set, List.length_replicate, toNat_cast, Int.reduceToNat, evLen, evAppend, srcOf, Src.all, Src.len, Src.leaf, joinV, drows_rep1, drows_rep2, drows_rep3, drows_rep4, drows_rep5, drows_rep6, drows_rep7, drows_rep8, mkVec, drows, evMk, List.length_map, take_mapF, drop_mapF, List.take_length, List.take_left, List.length_append, Nat.le_add_right, ite_self, List.take_of_length_le, evSlice, intOr, intOpd, Option.isSome_none, Option.isSome_some, Nat.sub_zero, loadQ, loadT, evBin, evUn, evIdxArr_d, evIdxArr_p, binT, binQ, chk, apartF, List.contains_cons, List.contains_nil, Bool.or_false, Bool.false_or, Bool.and_self, resQ, resV, resT, pickV, evCallT, evCall, fnOf, viewsT, viewT, evInt2, evEq, eqV, eqK, eqC1, buildQ, buildT, buildRQ, buildRT, lens_I, lensA_I, lens_Rat, lensA_Rat, lens_Loc, lensA_Loc, lens_Act, lensA_Act, lens_Step, lensA_Step, lens_Stamp, lensA_Stamp, List.mem_cons, List.not_mem_nil, or_false, forall_eq, putRow, dcells, get_nil, RetS, RetF, RetD, AV.frz, AV.frzL, AV.freshP, AV.freshL, DV.less, scal_int, scal_bool, scal_nil, scal_rowI, scal_rowRat, scal_rowStep, Option.some.injEq, AV.tup.injEq, AV.agg.injEq, List.cons.injEq, DV.list.injEq, List.isEmpty_nil, Nat.le_refl, AV.d.injEq, DV.int.injEq, DV.bool.injEq, ↓reduceIte, Nat.reduceEqDiff, Nat.reduceAdd, Nat.reduceBEq, List.length_cons, List.length_nil, List.replicate_succ, List.replicate_zero, List.nil_append, List.cons_append, List.append_nil, List.foldl_cons, List.foldl_nil, List.map_cons, List.map_nil, List.all_cons, List.all_nil, List.set_cons_zero, List.set_cons_succ, List.getD_cons_zero, List.getD_cons_succ, List.drop_zero, List.drop_succ_cons, List.take_succ_cons, List.take_zero, List.flatten_cons, List.flatten_nil, Bool.true_and, Bool.and_true, Bool.not_true, Bool.not_false, true_and, and_true, true_or, or_true, Option.bind_some, Option.map_some, decide_true, decide_false, beq_self_eq_true, true_implies, false_implies, implies_true, not_true_eq_false, not_false_eq_true, and_self, Bool.and_false, Bool.false_and, Nat.reduceLT, Nat.reduceLeDiff, List.reverse_cons, List.reverse_nil, Nat.zero_add, Nat.add_zero, Bool.false_eq_true, List.getElem?_cons_zero, Nat.reduceMul, Nat.mul_one, F1, G1, G2, F3, G3, at_Has, at_Put, at_size]
        have hs := Seek.begin (A := A) (n := k) (i := i) (by omega) (by omega)
        rw [← hL] at hs
        refine ⟨fun h => absurd h (by omega), fun _ => ?_⟩
        simp only [wrap_succ c' (by unfold maxLen; omega)]
        rw [rowsP_next hn (fun b hb => by rw [filt_all hn]; exact hs.end b)]
        exact FamNext.mk [0] (i + 1) (by simp) (by simp) (by simp only [State.can, AV.can, AV.canL, HO.can, canRows, idx, get_hit, get_next, Heap.at, Nat.reduceBEq, ↓reduceIte, Nat.reduceEqDiff, Option.getD_some, Option.map_some, List.map_cons, List.map_nil, List.getD_cons_zero, List.getD_cons_succ]) (by show i + 1 ≤ k; omega) (by show k - (i + 1) < k - i; omega)
    | cons t ts =>
      simp only [↓vck_skip, ↓vck_ret, ↓vck_exit, ↓vck_region, ↓vck_nilq, ↓nilTo_to, nilG_d, nilG_r, ↓vck_seq, ↓vck_cond, ↓vck_block, ↓vck_loop, ↓vckTo_to, ↓thenK_n, ↓thenK_x, ↓thenK_r, ↓blockK_n, ↓blockK_x, ↓blockK_o, ↓blockK_r, ↓regK_to, ↓retK_r, ↓retK_n, ↓loopV_n, ↓loopV_x, ↓loopV_r, ↓famK_n, ↓famK_x, ↓famK_r, ↓boolK_true, ↓boolK_false, ↓boolK_not, ↓boolK_dec, ↓boolK_and, nf_mk, RGk_end_f, RGk_end_t, RGk_op, RGk_guard, opK_to, evN, evCallN, grow_mk, feet_f, feet_t, foot_mk, stepK_mk, stepK_v, stepK_no, guardG_t, guardG_f, guardG_no, condG_b, evT, Opd.ev, get_hit, get_next, app_to, app_no, app_up, app_skip, app_skipn, know_mk, knowO_t, knowO_c, envFrom, reserve, keeps, LOp.isNew, State.prune, cellsQ, cellsT, AV.leaf, Heap.at, evLoad_ptr, evLoad_dptr, loadO_vec, loadO_dvec1, stepK_load_map, idx_I, idx_W, rowW, set_rowW, app_rowW, app_rowW0, rep_rowW0, rowB, set_rowB, rep_rowB, rowN, lens_W, lensA_W, scal_rowW, default_W, w_or, w_and, w_andNot, w_and1, w_shl, w_shl1, w_shr, w_sub1, w_neg, w_add, w_bit, w_eq0, w_eq1, w_eq, Bool.decide_eq_true, idx_Rat, idx_Loc, idx_Act, idx_Step, idx_Stamp, stepK_idx_ref, evStore_ptr, storeO_vec, stepK_store_map1, loadDT_f, rowI, RatG.row, LocG.row, ActG.row, StepG.row, StampG.row, ActG.av, ActG.eta, RatG.eta, LocG.eta, beq_true, beq_false, loadDT_t, set_rowI, app_rowI, rep_rowI, set_rowRat, app_rowRat, rep_rowRat, set_rowLoc, app_rowLoc, app_rowAct, app_rowStep, List.length_set, List.length_replicate, toNat_cast, Int.reduceToNat, evLen, evAppend, srcOf, Src.all, Src.len, Src.leaf, joinV, drows_rep1, drows_rep2, drows_rep3, drows_rep4, drows_rep5, drows_rep6, drows_rep7, drows_rep8, mkVec, drows, evMk, List.length_map, take_mapF, drop_mapF, List.take_length, List.take_left, List.length_append, Nat.le_add_right, ite_self, List.take_of_length_le, evSlice, intOr, intOpd, Option.isSome_none, Option.isSome_some, Nat.sub_zero, loadQ, loadT, evBin, evUn, evIdxArr_d, evIdxArr_p, binT, binQ, chk, apartF, List.contains_cons, List.contains_nil, Bool.or_false, Bool.false_or, Bool.and_self, resQ, resV, resT, pickV, evCallT, evCall, fnOf, viewsT, viewT, evInt2, evEq, eqV, eqK, eqC1, buildQ, buildT, buildRQ, buildRT, lens_I, lensA_I, lens_Rat, lensA_Rat, lens_Loc, lensA_Loc, lens_Act, lensA_Act, lens_Step, lensA_Step, lens_Stamp, lensA_Stamp, List.mem_cons, List.not_mem_nil, or_false, forall_eq, putRow, dcells, get_nil, RetS, RetF, RetD, AV.frz, AV.frzL, AV.freshP, AV.freshL, DV.less, scal_int, scal_bool, scal_nil, scal_rowI, scal_rowRat, scal_rowStep, Option.some.injEq, AV.tup.injEq, AV.agg.injEq, List.cons.injEq, DV.list.injEq, List.isEmpty_nil, Nat.le_refl, AV.d.injEq, DV.int.injEq, DV.bool.injEq, ↓reduceIte, Nat.reduceEqDiff, Nat.reduceAdd, Nat.reduceBEq, List.length_cons, List.length_nil, List.replicate_succ, List.replicate_zero, List.nil_append, List.cons_append, List.append_nil, List.foldl_cons, List.foldl_nil, List.map_cons, List.map_nil, List.all_cons, List.all_nil, List.set_cons_zero, List.set_cons_succ, List.getD_cons_zero, List.getD_cons_succ, List.drop_zero, List.drop_succ_cons, List.take_succ_cons, List.take_zero, List.flatten_cons, List.flatten_nil, Bool.true_and, Bool.and_true, Bool.not_true, Bool.not_false, true_and, and_true, true_or, or_true, Option.bind_some, Option.map_some, decide_true, decide_false, beq_self_eq_true, true_implies, false_implies, implies_true, not_true_eq_false, not_false_eq_true, and_self, Bool.and_false, Bool.false_and, Nat.reduceLT, Nat.reduceLeDiff, List.reverse_cons, List.reverse_nil, Nat.zero_add, Nat.add_zero, Bool.false_eq_true, List.getElem?_cons_zero, Nat.reduceMul, Nat.mul_one, pl1St, F1, G1, G2, F3, G3, at_Has, at_Put, at_size, putE_d, mkR_len, szR_mk' hle, hx]
      simp only [List.length_cons] at hLl
      refine ⟨fun g => ?_, fun g => ?_⟩
      · have g' : k < n := by omega
        simp only [wrap_succ g' (by unfold maxLen; omega)]
        rw [putR_mk hle c' g']
        refine ⟨h1, fun hb => ⟨by omega, roomy_of (by omega) (by omega), ?_⟩, fun hb => ?_⟩
        · exact FamNext.mk [0, 3] (k + 1, t :: (ts ++ [k])) (by simp) (by simp) (by simp only [State.can, AV.can, AV.canL, HO.can, canRows, idx, get_hit, get_next, Heap.at, Nat.reduceBEq, ↓reduceIte, Nat.reduceEqDiff, Option.getD_some, Option.map_some, List.map_cons, List.map_nil, List.getD_cons_zero, List.getD_cons_succ, pl1St]; rw [pl1_put hb]; simp [rowN]) ⟨by show k + 1 ≤ n; omega, by show t :: (ts ++ [k]) = _; rw [filt_succ, ← hL, hb]; rfl⟩ (by show n - (k + 1) < n - k; omega)
        · exact FamNext.mk [0, 1] (k + 1, t :: ts) (by simp) (by simp) (by simp only [State.can, AV.can, AV.canL, HO.can, canRows, idx, get_hit, get_next, Heap.at, Nat.reduceBEq, ↓reduceIte, Nat.reduceEqDiff, Option.getD_some, Option.map_some, List.map_cons, List.map_nil, List.getD_cons_zero, List.getD_cons_succ, pl1St]; rw [pl1_no hb]; rfl) ⟨by show k + 1 ≤ n; omega, by show t :: ts = _; rw [filt_succ, ← hL, hb]; simp⟩ (by show n - (k + 1) < n - k; omega)
      · have : k = n := by omega
        subst this
        have hs := Seek.begin (A := A) (n := k) (i := i) (by omega) (by omega)
        rw [← hL] at hs
        refine Loop.fam [0, 3, 4, 5, 6] (fun x : (Nat → Bool) × List Nat × List Nat => ⟨[(0, .d (.list (A.map rowW) e)), (3, .d (.int .i64 k)), (4, .ref 0 1 0 k true), (5, .d (.int .i64 i)), (6, .ref 1 1 x.2.1.length x.2.2.length true)], [.dvec 1 ((mkR k (rowsP A i x.1)).map rowW), .dvec 1 ((x.2.1 ++ x.2.2).map rowN)]⟩)
          (fun x => Seek A k i x.1 x.2.2 (fun _ _ => False) ∧ 2 * cnt x.1 k + x.2.2.length ≤ 192) (fun x => 2 * cnt x.1 k + x.2.2.length) (hasN A i, [], t :: ts) [0, 1] (by simp) (by simp) (by
            simp only [State.can, AV.can, AV.canL, HO.can, canRows, idx, get_hit, get_next, Heap.at, Nat.reduceBEq, ↓reduceIte, Nat.reduceEqDiff, Option.getD_some, Option.map_some, List.map_cons, List.map_nil, List.getD_cons_zero, List.getD_cons_succ]
            rw [rowsP_congr (V := fun b => decide (b < k) && hasN A i b) (V' := hasN A i) (fun b _ => filt_all hn)]; rfl) ⟨hs, by have := cnt_le (V := hasN A i) (n := k); simp; omega⟩ ?_
        rintro ⟨V, P, L⟩ ⟨hV, hsz⟩
        have hV : Seek A k i V L (fun _ _ => False) := hV
        have hsz : 2 * cnt V k + L.length ≤ 192 := hsz
        cases L with
        | nil =>
          simp only [↓vck_skip, ↓vck_ret, ↓vck_exit, ↓vck_region, ↓vck_nilq, ↓nilTo_to, nilG_d, nilG_r, ↓vck_seq, ↓vck_cond, ↓vck_block, ↓vck_loop, ↓vckTo_to, ↓thenK_n, ↓thenK_x, ↓thenK_r, ↓blockK_n, ↓blockK_x, ↓blockK_o, ↓blockK_r, ↓regK_to, ↓retK_r, ↓retK_n, ↓loopV_n, ↓loopV_x, ↓loopV_r, ↓famK_n, ↓famK_x, ↓famK_r, ↓boolK_true, ↓boolK_false, ↓boolK_not, ↓boolK_dec, ↓boolK_and, nf_mk, RGk_end_f, RGk_end_t, RGk_op, RGk_guard, opK_to, evN, evCallN, grow_mk, feet_f, feet_t, foot_mk, stepK_mk, stepK_v, stepK_no, guardG_t, guardG_f, guardG_no, condG_b, evT, Opd.ev, get_hit, get_next, app_to, app_no, app_up, app_skip, app_skipn, know_mk, knowO_t, knowO_c, envFrom, reserve, keeps, LOp.isNew, State.prune, cellsQ, cellsT, AV.leaf, Heap.at, evLoad_ptr, evLoad_dptr, loadO_vec, loadO_dvec1, stepK_load_map, idx_I, idx_W, rowW, set_rowW, app_rowW, app_rowW0, rep_rowW0, rowB, set_rowB, rep_rowB, rowN, lens_W, lensA_W, scal_rowW, default_W, w_or, w_and, w_andNot, w_and1, w_shl, w_shl1, w_shr, w_sub1, w_neg, w_add, w_bit, w_eq0, w_eq1, w_eq, Bool.decide_eq_true, idx_Rat, idx_Loc, idx_Act, idx_Step, idx_Stamp, stepK_idx_ref, evStore_ptr, storeO_vec, stepK_store_map1, loadDT_f, rowI, RatG.row, LocG.row, ActG.row, StepG.row, StampG.row, ActG.av, ActG.eta, RatG.eta, LocG.eta, beq_true, beq_false, loadDT_t, set_rowI, app_rowI, rep_rowI, set_rowRat, app_rowRat, rep_rowRat, set_rowLoc, app_rowLoc, app_rowAct, app_rowStep, List.length_set, List.length_replicate, toNat_cast, Int.reduceToNat, evLen, evAppend, srcOf, Src.all, Src.len, Src.leaf, joinV, drows_rep1, drows_rep2, drows_rep3, drows_rep4, drows_rep5, drows_rep6, drows_rep7, drows_rep8, mkVec, drows, evMk, List.length_map, take_mapF, drop_mapF, List.take_length, List.take_left, List.length_append, Nat.le_add_right, ite_self, List.take_of_length_le, evSlice, intOr, intOpd, Option.isSome_none, Option.isSome_some, Nat.sub_zero, loadQ, loadT, evBin, evUn, evIdxArr_d, evIdxArr_p, binT, binQ, chk, apartF, List.contains_cons, List.contains_nil, Bool.or_false, Bool.false_or, Bool.and_self, resQ, resV, resT, pickV, evCallT, evCall, fnOf, viewsT, viewT, evInt2, evEq, eqV, eqK, eqC1, buildQ, buildT, buildRQ, buildRT, lens_I, lensA_I, lens_Rat, lensA_Rat, lens_Loc, lensA_Loc, lens_Act, lensA_Act, lens_Step, lensA_Step, lens_Stamp, lensA_Stamp, List.mem_cons, List.not_mem_nil, or_false, forall_eq, putRow, dcells, get_nil, RetS, RetF, RetD, AV.frz, AV.frzL, AV.freshP, AV.freshL, DV.less, scal_int, scal_bool, scal_nil, scal_rowI, scal_rowRat, scal_rowStep, Option.some.injEq, AV.tup.injEq, AV.agg.injEq, List.cons.injEq, DV.list.injEq, List.isEmpty_nil, Nat.le_refl, AV.d.injEq, DV.int.injEq, DV.bool.injEq, ↓reduceIte, Nat.reduceEqDiff, Nat.reduceAdd, Nat.reduceBEq, List.length_cons, List.length_nil, List.replicate_succ, List.replicate_zero, List.nil_append, List.cons_append, List.append_nil, List.foldl_cons, List.foldl_nil, List.map_cons, List.map_nil, List.all_cons, List.all_nil, List.set_cons_zero, List.set_cons_succ, List.getD_cons_zero, List.getD_cons_succ, List.drop_zero, List.drop_succ_cons, List.take_succ_cons, List.take_zero, List.flatten_cons, List.flatten_nil, Bool.true_and, Bool.and_true, Bool.not_true, Bool.not_false, true_and, and_true, true_or, or_true, Option.bind_some, Option.map_some, decide_true, decide_false, beq_self_eq_true, true_implies, false_implies, implies_true, not_true_eq_false, not_false_eq_true, and_self, Bool.and_false, Bool.false_and, Nat.reduceLT, Nat.reduceLeDiff, List.reverse_cons, List.reverse_nil, Nat.zero_add, Nat.add_zero, Bool.false_eq_true, List.getElem?_cons_zero, Nat.reduceMul, Nat.mul_one, F1, G1, G2, F3, G3, at_Has, at_Put, at_size]
          refine ⟨fun h => absurd h (by omega), fun _ => ?_⟩
          simp only [wrap_succ c' (by unfold maxLen; omega)]
          rw [rowsP_next hn (fun b hb => hV.end b)]
          exact FamNext.mk [0] (i + 1) (by simp) (by simp) (by simp only [State.can, AV.can, AV.canL, HO.can, canRows, idx, get_hit, get_next, Heap.at, Nat.reduceBEq, ↓reduceIte, Nat.reduceEqDiff, Option.getD_some, Option.map_some, List.map_cons, List.map_nil, List.getD_cons_zero, List.getD_cons_succ]) (by show i + 1 ≤ k; omega) (by show k - (i + 1) < k - i; omega)
        | cons j L =>
          simp only [↓vck_skip, ↓vck_ret, ↓vck_exit, ↓vck_region, ↓vck_nilq, ↓nilTo_to, nilG_d, nilG_r, ↓vck_seq, ↓vck_cond, ↓vck_block, ↓vck_loop, ↓vckTo_to, ↓thenK_n, ↓thenK_x, ↓thenK_r, ↓blockK_n, ↓blockK_x, ↓blockK_o, ↓blockK_r, ↓regK_to, ↓retK_r, ↓retK_n, ↓loopV_n, ↓loopV_x, ↓loopV_r, ↓famK_n, ↓famK_x, ↓famK_r, ↓boolK_true, ↓boolK_false, ↓boolK_not, ↓boolK_dec, ↓boolK_and, nf_mk, RGk_end_f, RGk_end_t, RGk_op, RGk_guard, opK_to, evN, evCallN, grow_mk, feet_f, feet_t, foot_mk, stepK_mk, stepK_v, stepK_no, guardG_t, guardG_f, guardG_no, condG_b, evT, Opd.ev, get_hit, get_next, app_to, app_no, app_up, app_skip, app_skipn, know_mk, knowO_t, knowO_c, envFrom, reserve, keeps, LOp.isNew, State.prune, cellsQ, cellsT, AV.leaf, Heap.at, evLoad_ptr, evLoad_dptr, loadO_vec, loadO_dvec1, stepK_load_map, idx_I, idx_W, rowW, set_rowW, app_rowW, app_rowW0, rep_rowW0, rowB, set_rowB, rep_rowB, rowN, lens_W, lensA_W, scal_rowW, default_W, w_or, w_and, w_andNot, w_and1, w_shl, w_shl1, w_shr, w_sub1, w_neg, w_add, w_bit, w_eq0, w_eq1, w_eq, Bool.decide_eq_true, idx_Rat, idx_Loc, idx_Act, idx_Step, idx_Stamp, stepK_idx_ref, evStore_ptr, storeO_vec, stepK_store_map1, loadDT_f, rowI, RatG.row, LocG.row, ActG.row, StepG.row, StampG.row, ActG.av, ActG.eta, RatG.eta, LocG.eta, beq_true, beq_false, loadDT_t, set_rowI, app_rowI, rep_rowI, set_rowRat, app_rowRat, rep_rowRat, set_rowLoc, app_rowLoc, app_rowAct, app_rowStep, List.length_set, List.length_replicate, toNat_cast, Int.reduceToNat, evLen, evAppend, srcOf, Src.all, Src.len, Src.leaf, joinV, drows_rep1, drows_rep2, drows_rep3, drows_rep4, drows_rep5, drows_rep6, drows_rep7, drows_rep8, mkVec, drows, evMk, List.length_map, take_mapF, drop_mapF, List.take_length, List.take_left, List.length_append, Nat.le_add_right, ite_self, List.take_of_length_le, evSlice, intOr, intOpd, Option.isSome_none, Option.isSome_some, Nat.sub_zero, loadQ, loadT, evBin, evUn, evIdxArr_d, evIdxArr_p, binT, binQ, chk, apartF, List.contains_cons, List.contains_nil, Bool.or_false, Bool.false_or, Bool.and_self, resQ, resV, resT, pickV, evCallT, evCall, fnOf, viewsT, viewT, evInt2, evEq, eqV, eqK, eqC1, buildQ, buildT, buildRQ, buildRT, lens_I, lensA_I, lens_Rat, lensA_Rat, lens_Loc, lensA_Loc, lens_Act, lensA_Act, lens_Step, lensA_Step, lens_Stamp, lensA_Stamp, List.mem_cons, List.not_mem_nil, or_false, forall_eq, putRow, dcells, get_nil, RetS, RetF, RetD, AV.frz, AV.frzL, AV.freshP, AV.freshL, DV.less, scal_int, scal_bool, scal_nil, scal_rowI, scal_rowRat, scal_rowStep, Option.some.injEq, AV.tup.injEq, AV.agg.injEq, List.cons.injEq, DV.list.injEq, List.isEmpty_nil, Nat.le_refl, AV.d.injEq, DV.int.injEq, DV.bool.injEq, ↓reduceIte, Nat.reduceEqDiff, Nat.reduceAdd, Nat.reduceBEq, List.length_cons, List.length_nil, List.replicate_succ, List.replicate_zero, List.nil_append, List.cons_append, List.append_nil, List.foldl_cons, List.foldl_nil, List.map_cons, List.map_nil, List.all_cons, List.all_nil, List.set_cons_zero, List.set_cons_succ, List.getD_cons_zero, List.getD_cons_succ, List.drop_zero, List.drop_succ_cons, List.take_succ_cons, List.take_zero, List.flatten_cons, List.flatten_nil, Bool.true_and, Bool.and_true, Bool.not_true, Bool.not_false, true_and, and_true, true_or, or_true, Option.bind_some, Option.map_some, decide_true, decide_false, beq_self_eq_true, true_implies, false_implies, implies_true, not_true_eq_false, not_false_eq_true, and_self, Bool.and_false, Bool.false_and, Nat.reduceLT, Nat.reduceLeDiff, List.reverse_cons, List.reverse_nil, Nat.zero_add, Nat.add_zero, Bool.false_eq_true, List.getElem?_cons_zero, Nat.reduceMul, Nat.mul_one, F1, G1, G2, F3, G3, at_Has, at_Put, at_size]
          rw [mid_getD]
          simp only [List.length_cons] at hsz
          refine ⟨fun _ => ⟨by omega, by omega, by omega, ?_⟩, fun h => absurd h (by omega)⟩
          refine Loop.fam [0, 3, 4, 5, 6, 8, 9] (fun x : Nat × (Nat → Bool) × List Nat × List Nat => ⟨[(0, .d (.list (A.map rowW) e)), (3, .d (.int .i64 k)), (4, .ref 0 1 0 k true), (5, .d (.int .i64 i)), (6, .ref 1 1 x.2.2.1.length x.2.2.2.length true), (8, .d (.int .i64 j)), (9, .d (.int .i64 x.1))], [.dvec 1 ((mkR k (rowsP A i x.2.1)).map rowW), .dvec 1 ((x.2.2.1 ++ x.2.2.2).map rowN)]⟩)
            (fun x => x.1 ≤ k ∧ Seek A k i x.2.1 x.2.2.2 (fun b c => b = j ∧ x.1 ≤ c) ∧ x.2.1 j = true ∧ 2 * cnt x.2.1 k + x.2.2.2.length ≤ 2 * cnt V k + L.length) (fun x => k - x.1) (0, V, P ++ [j], L) [0, 1] (by simp) (by simp) (by
              simp only [State.can, AV.can, AV.canL, HO.can, canRows, idx, get_hit, get_next, Heap.at, Nat.reduceBEq, ↓reduceIte, Nat.reduceEqDiff, Option.getD_some, Option.map_some, List.map_cons, List.map_nil, List.getD_cons_zero, List.getD_cons_succ]
              simp [rowN]) ⟨by omega, hV.pop, hV.todo j (by simp), by simp⟩ ?_
          rintro ⟨m, U, Q, R⟩ ⟨m1, m2, m3, m4⟩
          have m1 : m ≤ k := m1
          have m2 : Seek A k i U R (fun b c => b = j ∧ m ≤ c) := m2
          have m3 : U j = true := m3
          have m4 : 2 * cnt U k + R.length ≤ 2 * cnt V k + L.length := m4
          have hx2 : hasI A j m = hasN A j m := hasI_nat
          simp only [↓vck_skip, ↓vck_ret, ↓vck_exit, ↓vck_region, ↓vck_nilq, ↓nilTo_to, nilG_d, nilG_r, ↓vck_seq, ↓vck_cond, ↓vck_block, ↓vck_loop, ↓vckTo_to, ↓thenK_n, ↓thenK_x, ↓thenK_r, ↓blockK_n, ↓blockK_x, ↓blockK_o, ↓blockK_r, ↓regK_to, ↓retK_r, ↓retK_n, ↓loopV_n, ↓loopV_x, ↓loopV_r, ↓famK_n, ↓famK_x, ↓famK_r, ↓boolK_true, ↓boolK_false, ↓boolK_not, ↓boolK_dec, ↓boolK_and, nf_mk, RGk_end_f, RGk_end_t, RGk_op, RGk_guard, opK_to, evN, evCallN, grow_mk, feet_f, feet_t, foot_mk, stepK_mk, stepK_v, stepK_no, guardG_t, guardG_f, guardG_no, condG_b, evT, Opd.ev, get_hit, get_next, app_to, app_no, app_up, app_skip, app_skipn, know_mk, knowO_t, knowO_c, envFrom, reserve, keeps, LOp.isNew, State.prune, cellsQ, cellsT, AV.leaf, Heap.at, evLoad_ptr, evLoad_dptr, loadO_vec, loadO_dvec1, stepK_load_map, idx_I, idx_W, rowW, set_rowW, app_rowW, app_rowW0, rep_rowW0, rowB, set_rowB, rep_rowB, rowN, lens_W, lensA_W, scal_rowW, default_W, w_or, w_and, w_andNot, w_and1, w_shl, w_shl1, w_shr, w_sub1, w_neg, w_add, w_bit, w_eq0, w_eq1, w_eq, Bool.decide_eq_true, idx_Rat, idx_Loc, idx_Act, idx_Step, idx_Stamp, stepK_idx_ref, evStore_ptr, storeO_vec, stepK_store_map1, loadDT_f, rowI, RatG.row, LocG.row, ActG.row, StepG.row, StampG.row, ActG.av, ActG.eta, RatG.eta, LocG.eta, beq_true, beq_false, loadDT_t, set_rowI, app_rowI, rep_rowI, set_rowRat, app_rowRat, rep_rowRat, set_rowLoc, app_rowLoc, app_rowAct, app_rowStep, List.length_set, List.length_replicate, toNat_cast, Int.reduceToNat, evLen, evAppend, srcOf, Src.all, Src.len, Src.leaf, joinV, drows_rep1, drows_rep2, drows_rep3, drows_rep4, drows_rep5, drows_rep6, drows_rep7, drows_rep8, mkVec, drows, evMk, List.length_map, take_mapF, drop_mapF, List.take_length, List.take_left, List.length_append, Nat.le_add_right, ite_self, List.take_of_length_le, evSlice, intOr, intOpd, Option.isSome_none, Option.isSome_some, Nat.sub_zero, loadQ, loadT, evBin, evUn, evIdxArr_d, evIdxArr_p, binT, binQ, chk, apartF, List.contains_cons, List.contains_nil, Bool.or_false, Bool.false_or, Bool.and_self, resQ, resV, resT, pickV, evCallT, evCall, fnOf, viewsT, viewT, evInt2, evEq, eqV, eqK, eqC1, buildQ, buildT, buildRQ, buildRT, lens_I, lensA_I, lens_Rat, lensA_Rat, lens_Loc, lensA_Loc, lens_Act, lensA_Act, lens_Step, lensA_Step, lens_Stamp, lensA_Stamp, List.mem_cons, List.not_mem_nil, or_false, forall_eq, putRow, dcells, get_nil, RetS, RetF, RetD, AV.frz, AV.frzL, AV.freshP, AV.freshL, DV.less, scal_int, scal_bool, scal_nil, scal_rowI, scal_rowRat, scal_rowStep, Option.some.injEq, AV.tup.injEq, AV.agg.injEq, List.cons.injEq, DV.list.injEq, List.isEmpty_nil, Nat.le_refl, AV.d.injEq, DV.int.injEq, DV.bool.injEq, ↓reduceIte, Nat.reduceEqDiff, Nat.reduceAdd, Nat.reduceBEq, List.length_cons, List.length_nil, List.replicate_succ, List.replicate_zero, List.nil_append, List.cons_append, List.append_nil, List.foldl_cons, List.foldl_nil, List.map_cons, List.map_nil, List.all_cons, List.all_nil, List.set_cons_zero, List.set_cons_succ, List.getD_cons_zero, List.getD_cons_succ, List.drop_zero, List.drop_succ_cons, List.take_succ_cons, List.take_zero, List.flatten_cons, List.flatten_nil, Bool.true_and, Bool.and_true, Bool.not_true, Bool.not_false, true_and, and_true, true_or, or_true, Option.bind_some, Option.map_some, decide_true, decide_false, beq_self_eq_true, true_implies, false_implies, implies_true, not_true_eq_false, not_false_eq_true, and_self, Bool.and_false, Bool.false_and, Nat.reduceLT, Nat.reduceLeDiff, List.reverse_cons, List.reverse_nil, Nat.zero_add, Nat.add_zero, Bool.false_eq_true, List.getElem?_cons_zero, Nat.reduceMul, Nat.mul_one, F1, G1, G2, F3, G3, at_Has, at_Put, at_size, putE_d, mkR_len, szR_mk' hle, hx2, mkR_take, List.drop_left]
          refine ⟨fun g2 => ?_, fun g2 => ?_⟩
          · have g2' : m < k := by omega
            simp only [wrap_succ g2' (by unfold maxLen; omega), has_rows hle c' g2']
            rw [putR_mk hle c' g2']
            refine ⟨h1, fun hb => ⟨by unfold maxLen; omega, fun hu => ?_, fun hu => ⟨by omega, roomy_of (by omega) (by omega), ?_⟩⟩, fun hb => ?_⟩
            · exact FamNext.mk [0, 1] (m + 1, U, Q, R) (by simp) (by simp) (by simp only [State.can, AV.can, AV.canL, HO.can, canRows, idx, get_hit, get_next, Heap.at, Nat.reduceBEq, ↓reduceIte, Nat.reduceEqDiff, Option.getD_some, Option.map_some, List.map_cons, List.map_nil, List.getD_cons_zero, List.getD_cons_succ]) ⟨by omega, m2.skip (.inr hu), m3, m4⟩ (by show k - (m + 1) < k - m; omega)
            · have hu : U m = false := by simpa using hu
              have hc := cnt_put hu g2'
              refine FamNext.mk [0, 3] (m + 1, (fun b => U b || decide (b = m)), [], R ++ [m]) (by simp) (by simp) ?_ ⟨by omega, m2.push m3 hb g2', by simp [m3], by simp only [List.length_append, List.length_cons, List.length_nil]; omega⟩ (by show k - (m + 1) < k - m; omega)
              simp only [State.can, AV.can, AV.canL, HO.can, canRows, idx, get_hit, get_next, Heap.at, Nat.reduceBEq, ↓reduceIte, Nat.reduceEqDiff, Option.getD_some, Option.map_some, List.map_cons, List.map_nil, List.getD_cons_zero, List.getD_cons_succ]
              rw [show mkR k (fun a b => rowsP A i U a b || decide (a = i) && decide (b = m)) = mkR k (rowsP A i fun b => U b || decide (b = m)) from mkR_congr fun a b _ _ => rowsP_put a b]
              simp [rowN]
            · exact FamNext.mk [0, 1] (m + 1, U, Q, R) (by simp) (by simp) (by simp only [State.can, AV.can, AV.canL, HO.can, canRows, idx, get_hit, get_next, Heap.at, Nat.reduceBEq, ↓reduceIte, Nat.reduceEqDiff, Option.getD_some, Option.map_some, List.map_cons, List.map_nil, List.getD_cons_zero, List.getD_cons_succ]) ⟨by omega, m2.skip (.inl hb), m3, m4⟩ (by show k - (m + 1) < k - m; omega)
          · have : m = k := by omega
            subst this
            exact FamNext.mk [0, 1] (U, Q, R) (by simp) (by simp) (by simp only [State.can, AV.can, AV.canL, HO.can, canRows, idx, get_hit, get_next, Heap.at, Nat.reduceBEq, ↓reduceIte, Nat.reduceEqDiff, Option.getD_some, Option.map_some, List.map_cons, List.map_nil, List.getD_cons_zero, List.getD_cons_succ]) ⟨m2.rest (by omega), by show 2 * cnt U m + R.length ≤ 192; omega⟩ (by show 2 * cnt U m + R.length < 2 * cnt V m + (L.length + 1); omega)
  · have : i = n := by omega
    subst this
    rw [show mkR i (rowsP A i fun _ => false) = mkR i (way (hasN A) i) from mkR_congr fun a b ha _ => by unfold rowsP; rw [if_pos ha, hn]]
    exact .inl ⟨0, true, by simp [mkR_len], rfl⟩
end Go.Ago
