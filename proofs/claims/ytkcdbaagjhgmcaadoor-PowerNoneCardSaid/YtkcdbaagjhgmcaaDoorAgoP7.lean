/- Contracts of package power: the model of an execution. Conditions: none. -/
import Derived.Test.YtkcdbaagjhgmcaaDoorAgoP6
import Derived.Test.YtkcdbaagjhgmcaaDoorAgoP4
set_option maxRecDepth 100000
set_option linter.unusedSimpArgs false
set_option linter.unusedVariables false
namespace Go.Ago

/-! ### slices.Equal, slices.ContainsFunc at words -/
def sp_eqW : Sp := ⟨List W × Bool × List W × Bool, fun x => [.d (.list (x.1.map rowW) x.2.1), .d (.list (x.2.2.1.map rowW) x.2.2.2)], fun x => .data (x.1.length ≤ maxLen) (.d (.bool (decide (x.1 = x.2.2.1)))) true⟩
theorem at_eqW (a b : List W) (f g : Bool) : sp_eqW.at [.d (.list (a.map rowW) f), .d (.list (b.map rowW) g)] = .data (a.length ≤ maxLen) (.d (.bool (decide (a = b)))) true :=
  Sp.at_enc (s := sp_eqW) (fun x y h => by
    obtain ⟨a, b, c, d⟩ := x; obtain ⟨a', b', c', d'⟩ := y
    simp only [sp_eqW, List.cons.injEq, AV.d.injEq, DV.list.injEq, and_true] at h
    rw [rows_inj rowW_inj h.1.1, h.1.2, rows_inj rowW_inj h.2.1, h.2.2]) (a, f, b, g)
theorem body_slices_Equal_uint64 {T : Tab} : sp_eqW.Body T V_slices_Equal_uint64 L_slices_Equal_uint64 R_slices_Equal_uint64 := by
  rintro ⟨a, f, b, g⟩ hlen
  refine .inl ⟨rfl, ?_⟩
  unfold V_slices_Equal_uint64 L_slices_Equal_uint64 R_slices_Equal_uint64
  simp only [↓vck_skip, ↓vck_ret, ↓vck_exit, ↓vck_region, ↓vck_nilq, ↓nilTo_to, nilG_d, nilG_r, ↓vck_seq, ↓vck_cond, ↓vck_block, ↓vck_loop, ↓vckTo_to, ↓thenK_n, ↓thenK_x, ↓thenK_r, ↓blockK_n, ↓blockK_x, ↓blockK_o, ↓blockK_r, ↓regK_to, ↓retK_r, ↓retK_n, ↓loopV_n, ↓loopV_x, ↓loopV_r, ↓famK_n, ↓famK_x, ↓famK_r, ↓boolK_true, ↓boolK_false, ↓boolK_not, ↓boolK_dec, ↓boolK_and, nf_mk, RGk_end_f, RGk_end_t, RGk_op, RGk_guard, opK_to, evN, evCallN, grow_mk, feet_f, feet_t, foot_mk, stepK_mk, stepK_v, stepK_no, guardG_t, guardG_f, guardG_no, condG_b, evT, Opd.ev, get_hit, get_next, app_to, app_no, app_up, app_skip, app_skipn, know_mk, knowO_t, knowO_c, envFrom, reserve, keeps, LOp.isNew, State.prune, cellsQ, cellsT, AV.leaf, Heap.at, evLoad_ptr, evLoad_dptr, loadO_vec, loadO_dvec1, stepK_load_map, idx_I, idx_W, rowW, set_rowW, app_rowW, app_rowW0, rep_rowW0, rowB, set_rowB, rep_rowB, rowN, lens_W, lensA_W, scal_rowW, default_W, w_or, w_and, w_andNot, w_and1, w_shl, w_shl1, w_shr, w_sub1, w_neg, w_add, w_bit, w_eq0, w_eq1, w_eq, Bool.decide_eq_true, idx_Rat, idx_Loc, idx_Act, idx_Step, idx_Stamp, stepK_idx_ref, evStore_ptr, storeO_vec, stepK_store_map1, loadDT_f, rowI, RatG.row, LocG.row, ActG.row, StepG.row, StampG.row, ActG.av, ActG.eta, RatG.eta, LocG.eta, beq_true, beq_false, loadDT_t, set_rowI, app_rowI, rep_rowI, set_rowRat, app_rowRat, rep_rowRat, set_rowLoc, app_rowLoc, app_rowAct, app_rowStep, List.length_set, List.length_replicate, toNat_cast, Int.reduceToNat, evLen, evAppend, srcOf, Src.all, Src.len, Src.leaf, joinV, drows_rep1, drows_rep2, drows_rep3, drows_rep4, drows_rep5, drows_rep6, drows_rep7, drows_rep8, mkVec, drows, evMk, List.length_map, take_mapF, drop_mapF, List.take_length, List.take_left, List.length_append, Nat.le_add_right, ite_self, List.take_of_length_le, evSlice, intOr, intOpd, Option.isSome_none, Option.isSome_some, Nat.sub_zero, loadQ, loadT, evBin, evUn, evIdxArr_d, evIdxArr_p, binT, binQ, chk, apartF, List.contains_cons, List.contains_nil, Bool.or_false, Bool.false_or, Bool.and_self, resQ, resV, resT, pickV, evCallT, evCall, fnOf, viewsT, isD, HO.drow, viewT, evInt2, evEq, eqV, eqK, eqC1, buildQ, buildT, buildRQ, buildRT, lens_I, lensA_I, lens_Rat, lensA_Rat, lens_Loc, lensA_Loc, lens_Act, lensA_Act, lens_Step, lensA_Step, lens_Stamp, lensA_Stamp, List.mem_cons, List.not_mem_nil, or_false, forall_eq, putRow, dcells, get_nil, RetS, RetF, RetD, AV.frz, AV.frzL, AV.freshP, AV.freshL, DV.less, scal_int, scal_bool, scal_nil, scal_rowI, scal_rowRat, scal_rowStep, Option.some.injEq, AV.tup.injEq, AV.agg.injEq, List.cons.injEq, DV.list.injEq, List.isEmpty_nil, Nat.le_refl, AV.d.injEq, DV.int.injEq, DV.bool.injEq, ↓reduceIte, Nat.reduceEqDiff, Nat.reduceAdd, Nat.reduceBEq, List.length_cons, List.length_nil, List.replicate_succ, List.replicate_zero, List.nil_append, List.cons_append, List.append_nil, List.foldl_cons, List.foldl_nil, List.map_cons, List.map_nil, List.all_cons, List.all_nil, List.set_cons_zero, List.set_cons_succ, List.getD_cons_zero, List.getD_cons_succ, List.drop_zero, List.drop_succ_cons, List.take_succ_cons, List.take_zero, List.flatten_cons, List.flatten_nil, Bool.true_and, Bool.and_true, Bool.not_true, Bool.not_false, true_and, and_true, true_or, or_true, Option.bind_some, Option.map_some, decide_true, decide_false, beq_self_eq_true, true_implies, false_implies, implies_true, not_true_eq_false, not_false_eq_true, and_self, Bool.and_false, Bool.false_and, Nat.reduceLT, Nat.reduceLeDiff, List.reverse_cons, List.reverse_nil, Nat.zero_add, Nat.add_zero, Bool.false_eq_true, List.getElem?_cons_zero, Nat.reduceMul, Nat.mul_one, sp_eqW]
  have hm : maxLen = 9223372036854775807 := rfl
  have hlen : a.length ≤ maxLen := hlen
  refine ⟨fun h => ?_, fun h => ?_⟩
  · have hab : a.length = b.length := by omega
    refine Loop.fam [0, 1, 12, 13] (fun i : Nat => ⟨[(0, .d (.list (a.map rowW) f)), (1, .d (.list (b.map rowW) g)), (12, .d (.int .i64 a.length)), (13, .d (.int .i64 (i : Nat)))], []⟩) (fun i => i ≤ a.length ∧ a.take i = b.take i) (fun i => a.length - i) 0 [] (by simp) (by simp)
      (by simp only [State.can, AV.can, AV.canL, HO.can, canRows, idx, get_hit, get_next, Heap.at, Nat.reduceBEq, ↓reduceIte, Nat.reduceEqDiff, Option.getD_some, Option.map_some, List.map_cons, List.map_nil, List.getD_cons_zero, List.getD_cons_succ]; rfl) ⟨by omega, by simp⟩ ?_
    rintro i ⟨h1, h2⟩
    simp only [↓vck_skip, ↓vck_ret, ↓vck_exit, ↓vck_region, ↓vck_nilq, ↓nilTo_to, nilG_d, nilG_r, ↓vck_seq, ↓vck_cond, ↓vck_block, ↓vck_loop, ↓vckTo_to, ↓thenK_n, ↓thenK_x, ↓thenK_r, ↓blockK_n, ↓blockK_x, ↓blockK_o, ↓blockK_r, ↓regK_to, ↓retK_r, ↓retK_n, ↓loopV_n, ↓loopV_x, ↓loopV_r, ↓famK_n, ↓famK_x, ↓famK_r, ↓boolK_true, ↓boolK_false, ↓boolK_not, ↓boolK_dec, ↓boolK_and, nf_mk, RGk_end_f, RGk_end_t, RGk_op, RGk_guard, opK_to, evN, evCallN, grow_mk, feet_f, feet_t, foot_mk, stepK_mk, stepK_v, stepK_no, guardG_t, guardG_f, guardG_no, condG_b, evT, Opd.ev, get_hit, get_next, app_to, app_no, app_up, app_skip, app_skipn, know_mk, knowO_t, knowO_c, envFrom, reserve, keeps, LOp.isNew, State.prune, cellsQ, cellsT, AV.leaf, Heap.at, evLoad_ptr, evLoad_dptr, loadO_vec, loadO_dvec1, stepK_load_map, idx_I, idx_W, rowW, set_rowW, app_rowW, app_rowW0, rep_rowW0, rowB, set_rowB, rep_rowB, rowN, lens_W, lensA_W, scal_rowW, default_W, w_or, w_and, w_andNot, w_and1, w_shl, w_shl1, w_shr, w_sub1, w_neg, w_add, w_bit, w_eq0, w_eq1, w_eq, Bool.decide_eq_true, idx_Rat, idx_Loc, idx_Act, idx_Step, idx_Stamp, stepK_idx_ref, evStore_ptr, storeO_vec, stepK_store_map1, loadDT_f, rowI, RatG.row, LocG.row, ActG.row, StepG.row, StampG.row, ActG.av, ActG.eta, RatG.eta, LocG.eta, beq_true, beq_false, loadDT_t, set_rowI, app_rowI, rep_rowI, set_rowRat, app_rowRat, rep_rowRat, set_rowLoc, app_rowLoc, app_rowAct, app_rowStep, List.length_set, List.length_replicate, toNat_cast, Int.reduceToNat, evLen, evAppend, srcOf, Src.all, Src.len, Src.leaf, joinV, drows_rep1, drows_rep2, drows_rep3, drows_rep4, drows_rep5, drows_rep6, drows_rep7, drows_rep8, mkVec, drows, evMk, List.length_map, take_mapF, drop_mapF, List.take_length, List.take_left, List.length_append, Nat.le_add_right, ite_self, List.take_of_length_le, evSlice, intOr, intOpd, Option.isSome_none, Option.isSome_some, Nat.sub_zero, loadQ, loadT, evBin, evUn, evIdxArr_d, evIdxArr_p, binT, binQ, chk, apartF, List.contains_cons, List.contains_nil, Bool.or_false, Bool.false_or, Bool.and_self, resQ, resV, resT, pickV, evCallT, evCall, fnOf, viewsT, isD, HO.drow, viewT, evInt2, evEq, eqV, eqK, eqC1, buildQ, buildT, buildRQ, buildRT, lens_I, lensA_I, lens_Rat, lensA_Rat, lens_Loc, lensA_Loc, lens_Act, lensA_Act, lens_Step, lensA_Step, lens_Stamp, lensA_Stamp, List.mem_cons, List.not_mem_nil, or_false, forall_eq, putRow, dcells, get_nil, RetS, RetF, RetD, AV.frz, AV.frzL, AV.freshP, AV.freshL, DV.less, scal_int, scal_bool, scal_nil, scal_rowI, scal_rowRat, scal_rowStep, Option.some.injEq, AV.tup.injEq, AV.agg.injEq, List.cons.injEq, DV.list.injEq, List.isEmpty_nil, Nat.le_refl, AV.d.injEq, DV.int.injEq, DV.bool.injEq, ↓reduceIte, Nat.reduceEqDiff, Nat.reduceAdd, Nat.reduceBEq, List.length_cons, List.length_nil, List.replicate_succ, List.replicate_zero, List.nil_append, List.cons_append, List.append_nil, List.foldl_cons, List.foldl_nil, List.map_cons, List.map_nil, List.all_cons, List.all_nil, List.set_cons_zero, List.set_cons_succ, List.getD_cons_zero, List.getD_cons_succ, List.drop_zero, List.drop_succ_cons, List.take_succ_cons, List.take_zero, List.flatten_cons, List.flatten_nil, Bool.true_and, Bool.and_true, Bool.not_true, Bool.not_false, true_and, and_true, true_or, or_true, Option.bind_some, Option.map_some, decide_true, decide_false, beq_self_eq_true, true_implies, false_implies, implies_true, not_true_eq_false, not_false_eq_true, and_self, Bool.and_false, Bool.false_and, Nat.reduceLT, Nat.reduceLeDiff, List.reverse_cons, List.reverse_nil, Nat.zero_add, Nat.add_zero, Bool.false_eq_true, List.getElem?_cons_zero, Nat.reduceMul, Nat.mul_one]
    refine ⟨fun h3 => ?_, fun h3 => ?_⟩
    · have h3 : i < a.length := by omega
      rw [wrap_succ h3 hlen]
      refine ⟨⟨by omega, by omega⟩, ⟨by omega, by omega⟩, fun h4 => ?_, fun h4 => ?_⟩
      · exact FamNext.mk [] (i + 1) (by simp) (by simp) (by simp only [State.can, AV.can, AV.canL, HO.can, canRows, idx, get_hit, get_next, Heap.at, Nat.reduceBEq, ↓reduceIte, Nat.reduceEqDiff, Option.getD_some, Option.map_some, List.map_cons, List.map_nil, List.getD_cons_zero, List.getD_cons_succ]) ⟨by omega, take_next (d := 0#64) h2 h3 (by omega) h4⟩ (by omega)
      · simp only [Bool.false_eq, decide_eq_false_iff_not]
        intro e; subst e; exact h4 rfl
    · have : i = a.length := by omega
      subst this
      exact (decide_eq_true (take_all h2 hab)).symm
  · simp only [Bool.false_eq, decide_eq_false_iff_not]
    intro e; subst e; exact h rfl

/-! ### empty -/
def nzW (x : W) : Bool := !decide (x = 0#64)
def sp_nz : Sp := ⟨W, fun x => [.d (.int .u64 (x.toNat : Int))], fun x => .data True (.d (.bool (nzW x))) true⟩
theorem at_nz (x : W) : sp_nz.at [.d (.int .u64 (x.toNat : Int))] = .data True (.d (.bool (nzW x))) true :=
  Sp.at_enc (s := sp_nz) (fun (x y : W) h => by
    simp only [sp_nz, List.cons.injEq, AV.d.injEq, DV.int.injEq, and_true, true_and] at h
    exact W.inj h) x
theorem body_power_empty_1 {T : Tab} : sp_nz.Body T V_power_empty_1 L_power_empty_1 R_power_empty_1 := by
  rintro (x : W) -
  refine .inl ⟨rfl, ?_⟩
  unfold V_power_empty_1 L_power_empty_1 R_power_empty_1
  simp only [↓vck_skip, ↓vck_ret, ↓vck_exit, ↓vck_region, ↓vck_nilq, ↓nilTo_to, nilG_d, nilG_r, ↓vck_seq, ↓vck_cond, ↓vck_block, ↓vck_loop, ↓vckTo_to, ↓thenK_n, ↓thenK_x, ↓thenK_r, ↓blockK_n, ↓blockK_x, ↓blockK_o, ↓blockK_r, ↓regK_to, ↓retK_r, ↓retK_n, ↓loopV_n, ↓loopV_x, ↓loopV_r, ↓famK_n, ↓famK_x, ↓famK_r, ↓boolK_true, ↓boolK_false, ↓boolK_not, ↓boolK_dec, ↓boolK_and, nf_mk, RGk_end_f, RGk_end_t, RGk_op, RGk_guard, opK_to, evN, evCallN, grow_mk, feet_f, feet_t, foot_mk, stepK_mk, stepK_v, stepK_no, guardG_t, guardG_f, guardG_no, condG_b, evT, Opd.ev, get_hit, get_next, app_to, app_no, app_up, app_skip, app_skipn, know_mk, knowO_t, knowO_c, envFrom, reserve, keeps, LOp.isNew, State.prune, cellsQ, cellsT, AV.leaf, Heap.at, evLoad_ptr, evLoad_dptr, loadO_vec, loadO_dvec1, stepK_load_map, idx_I, idx_W, rowW, set_rowW, app_rowW, app_rowW0, rep_rowW0, rowB, set_rowB, rep_rowB, rowN, lens_W, lensA_W, scal_rowW, default_W, w_or, w_and, w_andNot, w_and1, w_shl, w_shl1, w_shr, w_sub1, w_neg, w_add, w_bit, w_eq0, w_eq1, w_eq, Bool.decide_eq_true, idx_Rat, idx_Loc, idx_Act, idx_Step, idx_Stamp, stepK_idx_ref, evStore_ptr, storeO_vec, stepK_store_map1, loadDT_f, rowI, RatG.row, LocG.row, ActG.row, StepG.row, StampG.row, ActG.av, ActG.eta, RatG.eta, LocG.eta, beq_true, beq_false, loadDT_t, set_rowI, app_rowI, rep_rowI, set_rowRat, app_rowRat, rep_rowRat, set_rowLoc, app_rowLoc, app_rowAct, app_rowStep, List.length_set, List.length_replicate, toNat_cast, Int.reduceToNat, evLen, evAppend, srcOf, Src.all, Src.len, Src.leaf, joinV, drows_rep1, drows_rep2, drows_rep3, drows_rep4, drows_rep5, drows_rep6, drows_rep7, drows_rep8, mkVec, drows, evMk, List.length_map, take_mapF, drop_mapF, List.take_length, List.take_left, List.length_append, Nat.le_add_right, ite_self, List.take_of_length_le, evSlice, intOr, intOpd, Option.isSome_none, Option.isSome_some, Nat.sub_zero, loadQ, loadT, evBin, evUn, evIdxArr_d, evIdxArr_p, binT, binQ, chk, apartF, List.contains_cons, List.contains_nil, Bool.or_false, Bool.false_or, Bool.and_self, resQ, resV, resT, pickV, evCallT, evCall, fnOf, viewsT, isD, HO.drow, viewT, evInt2, evEq, eqV, eqK, eqC1, buildQ, buildT, buildRQ, buildRT, lens_I, lensA_I, lens_Rat, lensA_Rat, lens_Loc, lensA_Loc, lens_Act, lensA_Act, lens_Step, lensA_Step, lens_Stamp, lensA_Stamp, List.mem_cons, List.not_mem_nil, or_false, forall_eq, putRow, dcells, get_nil, RetS, RetF, RetD, AV.frz, AV.frzL, AV.freshP, AV.freshL, DV.less, scal_int, scal_bool, scal_nil, scal_rowI, scal_rowRat, scal_rowStep, Option.some.injEq, AV.tup.injEq, AV.agg.injEq, List.cons.injEq, DV.list.injEq, List.isEmpty_nil, Nat.le_refl, AV.d.injEq, DV.int.injEq, DV.bool.injEq, ↓reduceIte, Nat.reduceEqDiff, Nat.reduceAdd, Nat.reduceBEq, List.length_cons, List.length_nil, List.replicate_succ, List.replicate_zero, List.nil_append, List.cons_append, List.append_nil, List.foldl_cons, List.foldl_nil, List.map_cons, List.map_nil, List.all_cons, List.all_nil, List.set_cons_zero, List.set_cons_succ, List.getD_cons_zero, List.getD_cons_succ, List.drop_zero, List.drop_succ_cons, List.take_succ_cons, List.take_zero, List.flatten_cons, List.flatten_nil, Bool.true_and, Bool.and_true, Bool.not_true, Bool.not_false, true_and, and_true, true_or, or_true, Option.bind_some, Option.map_some, decide_true, decide_false, beq_self_eq_true, true_implies, false_implies, implies_true, not_true_eq_false, not_false_eq_true, and_self, Bool.and_false, Bool.false_and, Nat.reduceLT, Nat.reduceLeDiff, List.reverse_cons, List.reverse_nil, Nat.zero_add, Nat.add_zero, Bool.false_eq_true, List.getElem?_cons_zero, Nat.reduceMul, Nat.mul_one, sp_nz, nzW]
def findZ (l : List W) : Int := match l.findIdx? nzW with | some i => (i : Int) | none => -1
theorem findZ_any (l : List W) : decide (0 ≤ findZ l) = l.any nzW := by
  rw [← List.findIdx?_isSome]
  unfold findZ
  cases l.findIdx? nzW with
  | none => simp
  | some i => simp
theorem findZ_at {l : List W} {i : Nat} (hi : i < l.length) (hb : ∀ j, j < i → l.getD j 0#64 = 0#64) (h : nzW (l.getD i 0#64) = true) : findZ l = (i : Int) := by
  have : l.findIdx? nzW = some i := by
    rw [List.findIdx?_eq_some_iff_getElem]
    refine ⟨hi, by rwa [getD_lt hi] at h, fun j hj => ?_⟩
    have := hb j hj
    rw [getD_lt (by omega)] at this
    rw [this]; simp [nzW]
  unfold findZ; rw [this]
theorem findZ_no {l : List W} (hb : ∀ j, j < l.length → l.getD j 0#64 = 0#64) : findZ l = -1 := by
  have : l.findIdx? nzW = none := by
    rw [List.findIdx?_eq_none_iff]
    intro x hx
    obtain ⟨j, hj, rfl⟩ := List.mem_iff_getElem.1 hx
    have := hb j hj
    rw [getD_lt hj] at this
    rw [this]; simp [nzW]
  unfold findZ; rw [this]
/-- The place of the first word that isn't nought; told by the number of the one function that asks for it. -/
def sp_findZ (n : Nat) : Sp := ⟨List W × Bool, fun x => [.d (.list (x.1.map rowW) x.2), .d (.fn n)], fun x => .data (x.1.length ≤ maxLen) (.d (.int .i64 (findZ x.1))) true⟩
theorem at_findZ (n : Nat) (l : List W) (f : Bool) : (sp_findZ n).at [.d (.list (l.map rowW) f), .d (.fn n)] = .data (l.length ≤ maxLen) (.d (.int .i64 (findZ l))) true :=
  Sp.at_enc (s := sp_findZ n) (fun x y h => by
    obtain ⟨a, b⟩ := x; obtain ⟨a', b'⟩ := y
    simp only [sp_findZ, List.cons.injEq, AV.d.injEq, DV.list.injEq, and_true] at h
    rw [rows_inj rowW_inj h.1, h.2]) (l, f)
theorem body_slices_IndexFunc_uint64 {T : Tab} {n_power_empty_1 : Nat} (k1 : Knows T n_power_empty_1 sp_nz) : (sp_findZ n_power_empty_1).Body T V_slices_IndexFunc_uint64 L_slices_IndexFunc_uint64 R_slices_IndexFunc_uint64 := by
  have F1 := k1.F; have G1 := k1.G
  rintro ⟨l, f⟩ h1
  have h1 : l.length ≤ maxLen := h1
  refine .inl ⟨rfl, ?_⟩
  unfold V_slices_IndexFunc_uint64 L_slices_IndexFunc_uint64 R_slices_IndexFunc_uint64
  simp only [↓vck_skip, ↓vck_ret, ↓vck_exit, ↓vck_region, ↓vck_nilq, ↓nilTo_to, nilG_d, nilG_r, ↓vck_seq, ↓vck_cond, ↓vck_block, ↓vck_loop, ↓vckTo_to, ↓thenK_n, ↓thenK_x, ↓thenK_r, ↓blockK_n, ↓blockK_x, ↓blockK_o, ↓blockK_r, ↓regK_to, ↓retK_r, ↓retK_n, ↓loopV_n, ↓loopV_x, ↓loopV_r, ↓famK_n, ↓famK_x, ↓famK_r, ↓boolK_true, ↓boolK_false, ↓boolK_not, ↓boolK_dec, ↓boolK_and, nf_mk, RGk_end_f, RGk_end_t, RGk_op, RGk_guard, opK_to, evN, evCallN, grow_mk, feet_f, feet_t, foot_mk, stepK_mk, stepK_v, stepK_no, guardG_t, guardG_f, guardG_no, condG_b, evT, Opd.ev, get_hit, get_next, app_to, app_no, app_up, app_skip, app_skipn, know_mk, knowO_t, knowO_c, envFrom, reserve, keeps, LOp.isNew, State.prune, cellsQ, cellsT, AV.leaf, Heap.at, evLoad_ptr, evLoad_dptr, loadO_vec, loadO_dvec1, stepK_load_map, idx_I, idx_W, rowW, set_rowW, app_rowW, app_rowW0, rep_rowW0, rowB, set_rowB, rep_rowB, rowN, lens_W, lensA_W, scal_rowW, default_W, w_or, w_and, w_andNot, w_and1, w_shl, w_shl1, w_shr, w_sub1, w_neg, w_add, w_bit, w_eq0, w_eq1, w_eq, Bool.decide_eq_true, idx_Rat, idx_Loc, idx_Act, idx_Step, idx_Stamp, stepK_idx_ref, evStore_ptr, storeO_vec, stepK_store_map1, loadDT_f, rowI, RatG.row, LocG.row, ActG.row, StepG.row, StampG.row, ActG.av, ActG.eta, RatG.eta, LocG.eta, beq_true, beq_false, loadDT_t, set_rowI, app_rowI, rep_rowI, set_rowRat, app_rowRat, rep_rowRat, set_rowLoc, app_rowLoc, app_rowAct, app_rowStep, List.length_set, List.length_replicate, toNat_cast, Int.reduceToNat, evLen, evAppend, srcOf, Src.all, Src.len, Src.leaf, joinV, drows_rep1, drows_rep2, drows_rep3, drows_rep4, drows_rep5, drows_rep6, drows_rep7, drows_rep8, mkVec, drows, evMk, List.length_map, take_mapF, drop_mapF, List.take_length, List.take_left, List.length_append, Nat.le_add_right, ite_self, List.take_of_length_le, evSlice, intOr, intOpd, Option.isSome_none, Option.isSome_some, Nat.sub_zero, loadQ, loadT, evBin, evUn, evIdxArr_d, evIdxArr_p, binT, binQ, chk, apartF, List.contains_cons, List.contains_nil, Bool.or_false, Bool.false_or, Bool.and_self, resQ, resV, resT, pickV, evCallT, evCall, fnOf, viewsT, isD, HO.drow, viewT, evInt2, evEq, eqV, eqK, eqC1, buildQ, buildT, buildRQ, buildRT, lens_I, lensA_I, lens_Rat, lensA_Rat, lens_Loc, lensA_Loc, lens_Act, lensA_Act, lens_Step, lensA_Step, lens_Stamp, lensA_Stamp, List.mem_cons, List.not_mem_nil, or_false, forall_eq, putRow, dcells, get_nil, RetS, RetF, RetD, AV.frz, AV.frzL, AV.freshP, AV.freshL, DV.less, scal_int, scal_bool, scal_nil, scal_rowI, scal_rowRat, scal_rowStep, Option.some.injEq, AV.tup.injEq, AV.agg.injEq, List.cons.injEq, DV.list.injEq, List.isEmpty_nil, Nat.le_refl, AV.d.injEq, DV.int.injEq, DV.bool.injEq, ↓reduceIte, Nat.reduceEqDiff, Nat.reduceAdd, Nat.reduceBEq, List.length_cons, List.length_nil, List.replicate_succ, List.replicate_zero, List.nil_append, List.cons_append, List.append_nil, List.foldl_cons, List.foldl_nil, List.map_cons, List.map_nil, List.all_cons, List.all_nil, List.set_cons_zero, List.set_cons_succ, List.getD_cons_zero, List.getD_cons_succ, List.drop_zero, List.drop_succ_cons, List.take_succ_cons, List.take_zero, List.flatten_cons, List.flatten_nil, Bool.true_and, Bool.and_true, Bool.not_true, Bool.not_false, true_and, and_true, true_or, or_true, Option.bind_some, Option.map_some, decide_true, decide_false, beq_self_eq_true, true_implies, false_implies, implies_true, not_true_eq_false, not_false_eq_true, and_self, Bool.and_false, Bool.false_and, Nat.reduceLT, Nat.reduceLeDiff, List.reverse_cons, List.reverse_nil, Nat.zero_add, Nat.add_zero, Bool.false_eq_true, List.getElem?_cons_zero, Nat.reduceMul, Nat.mul_one, sp_findZ, F1, G1, at_nz]
  refine Loop.fam [0, 1, 7, 8] (fun i : Nat => ⟨[(0, .d (.list (l.map rowW) f)), (1, .d (.fn n_power_empty_1)), (7, .d (.int .i64 l.length)), (8, .d (.int .i64 i))], []⟩) (fun i => i ≤ l.length ∧ ∀ j, j < i → l.getD j 0#64 = 0#64) (fun i => l.length - i) 0 [] (by simp) (by simp)
    (by simp only [State.can, AV.can, AV.canL, HO.can, canRows, idx, get_hit, get_next, Heap.at, Nat.reduceBEq, ↓reduceIte, Nat.reduceEqDiff, Option.getD_some, Option.map_some, List.map_cons, List.map_nil, List.getD_cons_zero, List.getD_cons_succ]; rfl) ⟨by omega, fun j hj => by omega⟩ ?_
  rintro i ⟨hi, hb⟩
  simp only [↓vck_skip, ↓vck_ret, ↓vck_exit, ↓vck_region, ↓vck_nilq, ↓nilTo_to, nilG_d, nilG_r, ↓vck_seq, ↓vck_cond, ↓vck_block, ↓vck_loop, ↓vckTo_to, ↓thenK_n, ↓thenK_x, ↓thenK_r, ↓blockK_n, ↓blockK_x, ↓blockK_o, ↓blockK_r, ↓regK_to, ↓retK_r, ↓retK_n, ↓loopV_n, ↓loopV_x, ↓loopV_r, ↓famK_n, ↓famK_x, ↓famK_r, ↓boolK_true, ↓boolK_false, ↓boolK_not, ↓boolK_dec, ↓boolK_and, nf_mk, RGk_end_f, RGk_end_t, RGk_op, RGk_guard, opK_to, evN, evCallN, grow_mk, feet_f, feet_t, foot_mk, stepK_mk, stepK_v, stepK_no, guardG_t, guardG_f, guardG_no, condG_b, evT, Opd.ev, get_hit, get_next, app_to, app_no, app_up, app_skip, app_skipn, know_mk, knowO_t, knowO_c, envFrom, reserve, keeps, LOp.isNew, State.prune, cellsQ, cellsT, AV.leaf, Heap.at, evLoad_ptr, evLoad_dptr, loadO_vec, loadO_dvec1, stepK_load_map, idx_I, idx_W, rowW, set_rowW, app_rowW, app_rowW0, rep_rowW0, rowB, set_rowB, rep_rowB, rowN, lens_W, lensA_W, scal_rowW, default_W, w_or, w_and, w_andNot, w_and1, w_shl, w_shl1, w_shr, w_sub1, w_neg, w_add, w_bit, w_eq0, w_eq1, w_eq, Bool.decide_eq_true, idx_Rat, idx_Loc, idx_Act, idx_Step, idx_Stamp, stepK_idx_ref, evStore_ptr, storeO_vec, stepK_store_map1, loadDT_f, rowI, RatG.row, LocG.row, ActG.row, StepG.row, StampG.row, ActG.av, ActG.eta, RatG.eta, LocG.eta, beq_true, beq_false, loadDT_t, set_rowI, app_rowI, rep_rowI, set_rowRat, app_rowRat, rep_rowRat, set_rowLoc, app_rowLoc, app_rowAct, app_rowStep, List.length_set, List.length_replicate, toNat_cast, Int.reduceToNat, evLen, evAppend, srcOf, Src.all, Src.len, Src.leaf, joinV, drows_rep1, drows_rep2, drows_rep3, drows_rep4, drows_rep5, drows_rep6, drows_rep7, drows_rep8, mkVec, drows, evMk, List.length_map, take_mapF, drop_mapF, List.take_length, List.take_left, List.length_append, Nat.le_add_right, ite_self, List.take_of_length_le, evSlice, intOr, intOpd, Option.isSome_none, Option.isSome_some, Nat.sub_zero, loadQ, loadT, evBin, evUn, evIdxArr_d, evIdxArr_p, binT, binQ, chk, apartF, List.contains_cons, List.contains_nil, Bool.or_false, Bool.false_or, Bool.and_self, resQ, resV, resT, pickV, evCallT, evCall, fnOf, viewsT, isD, HO.drow, viewT, evInt2, evEq, eqV, eqK, eqC1, buildQ, buildT, buildRQ, buildRT, lens_I, lensA_I, lens_Rat, lensA_Rat, lens_Loc, lensA_Loc, lens_Act, lensA_Act, lens_Step, lensA_Step, lens_Stamp, lensA_Stamp, List.mem_cons, List.not_mem_nil, or_false, forall_eq, putRow, dcells, get_nil, RetS, RetF, RetD, AV.frz, AV.frzL, AV.freshP, AV.freshL, DV.less, scal_int, scal_bool, scal_nil, scal_rowI, scal_rowRat, scal_rowStep, Option.some.injEq, AV.tup.injEq, AV.agg.injEq, List.cons.injEq, DV.list.injEq, List.isEmpty_nil, Nat.le_refl, AV.d.injEq, DV.int.injEq, DV.bool.injEq, ↓reduceIte, Nat.reduceEqDiff, Nat.reduceAdd, Nat.reduceBEq, List.length_cons, List.length_nil, List.replicate_succ, List.replicate_zero, List.nil_append, List.cons_append, List.append_nil, List.foldl_cons, List.foldl_nil, List.map_cons, List.map_nil, List.all_cons, List.all_nil, List.set_cons_zero, List.set_cons_succ, List.getD_cons_zero, List.getD_cons_succ, List.drop_zero, List.drop_succ_cons, List.take_succ_cons, List.take_zero, List.flatten_cons, List.flatten_nil, Bool.true_and, Bool.and_true, Bool.not_true, Bool.not_false, true_and, and_true, true_or, or_true, Option.bind_some, Option.map_some, decide_true, decide_false, beq_self_eq_true, true_implies, false_implies, implies_true, not_true_eq_false, not_false_eq_true, and_self, Bool.and_false, Bool.false_and, Nat.reduceLT, Nat.reduceLeDiff, List.reverse_cons, List.reverse_nil, Nat.zero_add, Nat.add_zero, Bool.false_eq_true, List.getElem?_cons_zero, Nat.reduceMul, Nat.mul_one, F1, G1, at_nz]
  refine ⟨fun c => ⟨⟨by omega, by omega⟩, fun hz => ?_, fun hz => ?_⟩, fun c => ?_⟩
  · rw [findZ_at (i := i) (by omega) hb hz]
  · rw [wrap_succ (n := l.length) (by omega) h1]
    refine FamNext.mk [] (i + 1) (by simp) (by simp) (by simp only [State.can, AV.can, AV.canL, HO.can, canRows, idx, get_hit, get_next, Heap.at, Nat.reduceBEq, ↓reduceIte, Nat.reduceEqDiff, Option.getD_some, Option.map_some, List.map_cons, List.map_nil, List.getD_cons_zero, List.getD_cons_succ]) ⟨by omega, fun j hj => ?_⟩ (by omega)
    rcases Nat.lt_or_ge j i with hl | hl
    · exact hb j hl
    · obtain rfl : j = i := by omega
      simpa [nzW] using hz
  · rw [findZ_no fun j hj => hb j (by omega)]
def sp_anyZ (n : Nat) : Sp := ⟨List W × Bool, fun x => [.d (.list (x.1.map rowW) x.2), .d (.fn n)], fun x => .data (x.1.length ≤ maxLen) (.d (.bool (x.1.any nzW))) true⟩
theorem at_anyZ (n : Nat) (l : List W) (f : Bool) : (sp_anyZ n).at [.d (.list (l.map rowW) f), .d (.fn n)] = .data (l.length ≤ maxLen) (.d (.bool (l.any nzW))) true :=
  Sp.at_enc (s := sp_anyZ n) (fun x y h => by
    obtain ⟨a, b⟩ := x; obtain ⟨a', b'⟩ := y
    simp only [sp_anyZ, List.cons.injEq, AV.d.injEq, DV.list.injEq, and_true] at h
    rw [rows_inj rowW_inj h.1, h.2]) (l, f)
theorem body_slices_ContainsFunc_uint64 {T : Tab} {n1 n_power_empty_1 : Nat} (k1 : Knows T n1 (sp_findZ n_power_empty_1)) : (sp_anyZ n_power_empty_1).Body T V_slices_ContainsFunc_uint64 (L_slices_ContainsFunc_uint64 n1) R_slices_ContainsFunc_uint64 := by
  have F1 := k1.F; have G1 := k1.G
  rintro ⟨l, f⟩ h1
  have h1 : l.length ≤ maxLen := h1
  refine .inl ⟨rfl, ?_⟩
  unfold V_slices_ContainsFunc_uint64 L_slices_ContainsFunc_uint64 R_slices_ContainsFunc_uint64
  simp only [↓vck_skip, ↓vck_ret, ↓vck_exit, ↓vck_region, ↓vck_nilq, ↓nilTo_to, nilG_d, nilG_r, ↓vck_seq, ↓vck_cond, ↓vck_block, ↓vck_loop, ↓vckTo_to, ↓thenK_n, ↓thenK_x, ↓thenK_r, ↓blockK_n, ↓blockK_x, ↓blockK_o, ↓blockK_r, ↓regK_to, ↓retK_r, ↓retK_n, ↓loopV_n, ↓loopV_x, ↓loopV_r, ↓famK_n, ↓famK_x, ↓famK_r, ↓boolK_true, ↓boolK_false, ↓boolK_not, ↓boolK_dec, ↓boolK_and, nf_mk, RGk_end_f, RGk_end_t, RGk_op, RGk_guard, opK_to, evN, evCallN, grow_mk, feet_f, feet_t, foot_mk, stepK_mk, stepK_v, stepK_no, guardG_t, guardG_f, guardG_no, condG_b, evT, Opd.ev, get_hit, get_next, app_to, app_no, app_up, app_skip, app_skipn, know_mk, knowO_t, knowO_c, envFrom, reserve, keeps, LOp.isNew, State.prune, cellsQ, cellsT, AV.leaf, Heap.at, evLoad_ptr, evLoad_dptr, loadO_vec, loadO_dvec1, stepK_load_map, idx_I, idx_W, rowW, set_rowW, app_rowW, app_rowW0, rep_rowW0, rowB, set_rowB, rep_rowB, rowN, lens_W, lensA_W, scal_rowW, default_W, w_or, w_and, w_andNot, w_and1, w_shl, w_shl1, w_shr, w_sub1, w_neg, w_add, w_bit, w_eq0, w_eq1, w_eq, Bool.decide_eq_true, idx_Rat, idx_Loc, idx_Act, idx_Step, idx_Stamp, stepK_idx_ref, evStore_ptr, storeO_vec, stepK_store_map1, loadDT_f, rowI, RatG.row, LocG.row, ActG.row, StepG.row, StampG.row, ActG.av, ActG.eta, RatG.eta, LocG.eta, beq_true, beq_false, loadDT_t, set_rowI, app_rowI, rep_rowI, set_rowRat, app_rowRat, rep_rowRat, set_rowLoc, app_rowLoc, app_rowAct, app_rowStep, List.length_set, List.length_replicate, toNat_cast, Int.reduceToNat, evLen, evAppend, srcOf, Src.all, Src.len, Src.leaf, joinV, drows_rep1, drows_rep2, drows_rep3, drows_rep4, drows_rep5, drows_rep6, drows_rep7, drows_rep8, mkVec, drows, evMk, List.length_map, take_mapF, drop_mapF, List.take_length, List.take_left, List.length_append, Nat.le_add_right, ite_self, List.take_of_length_le, evSlice, intOr, intOpd, Option.isSome_none, Option.isSome_some, Nat.sub_zero, loadQ, loadT, evBin, evUn, evIdxArr_d, evIdxArr_p, binT, binQ, chk, apartF, List.contains_cons, List.contains_nil, Bool.or_false, Bool.false_or, Bool.and_self, resQ, resV, resT, pickV, evCallT, evCall, fnOf, viewsT, isD, HO.drow, viewT, evInt2, evEq, eqV, eqK, eqC1, buildQ, buildT, buildRQ, buildRT, lens_I, lensA_I, lens_Rat, lensA_Rat, lens_Loc, lensA_Loc, lens_Act, lensA_Act, lens_Step, lensA_Step, lens_Stamp, lensA_Stamp, List.mem_cons, List.not_mem_nil, or_false, forall_eq, putRow, dcells, get_nil, RetS, RetF, RetD, AV.frz, AV.frzL, AV.freshP, AV.freshL, DV.less, scal_int, scal_bool, scal_nil, scal_rowI, scal_rowRat, scal_rowStep, Option.some.injEq, AV.tup.injEq, AV.agg.injEq, List.cons.injEq, DV.list.injEq, List.isEmpty_nil, Nat.le_refl, AV.d.injEq, DV.int.injEq, DV.bool.injEq, ↓reduceIte, Nat.reduceEqDiff, Nat.reduceAdd, Nat.reduceBEq, List.length_cons, List.length_nil, List.replicate_succ, List.replicate_zero, List.nil_append, List.cons_append, List.append_nil, List.foldl_cons, List.foldl_nil, List.map_cons, List.map_nil, List.all_cons, List.all_nil, List.set_cons_zero, List.set_cons_succ, List.getD_cons_zero, List.getD_cons_succ, List.drop_zero, List.drop_succ_cons, List.take_succ_cons, List.take_zero, List.flatten_cons, List.flatten_nil, Bool.true_and, Bool.and_true, Bool.not_true, Bool.not_false, true_and, and_true, true_or, or_true, Option.bind_some, Option.map_some, decide_true, decide_false, beq_self_eq_true, true_implies, false_implies, implies_true, not_true_eq_false, not_false_eq_true, and_self, Bool.and_false, Bool.false_and, Nat.reduceLT, Nat.reduceLeDiff, List.reverse_cons, List.reverse_nil, Nat.zero_add, Nat.add_zero, Bool.false_eq_true, List.getElem?_cons_zero, Nat.reduceMul, Nat.mul_one, sp_anyZ, F1, G1, at_findZ]
  exact ⟨h1, findZ_any l⟩
def sp_empty : Sp := ⟨List W × Bool, fun x => [.d (.list (x.1.map rowW) x.2)], fun x => .data (x.1.length ≤ maxLen) (.d (.bool (!x.1.any nzW))) true⟩
theorem at_empty (l : List W) (f : Bool) : sp_empty.at [.d (.list (l.map rowW) f)] = .data (l.length ≤ maxLen) (.d (.bool (!l.any nzW))) true :=
  Sp.at_enc (s := sp_empty) (fun x y h => by
    obtain ⟨a, b⟩ := x; obtain ⟨a', b'⟩ := y
    simp only [sp_empty, List.cons.injEq, AV.d.injEq, DV.list.injEq, and_true] at h
    rw [rows_inj rowW_inj h.1, h.2]) (l, f)
theorem body_power_empty {T : Tab} {n1 n_power_empty_1 : Nat} (k1 : Knows T n1 (sp_anyZ n_power_empty_1)) : sp_empty.Body T V_power_empty (L_power_empty n1 n_power_empty_1) R_power_empty := by
  have F1 := k1.F; have G1 := k1.G
  rintro ⟨l, f⟩ h1
  have h1 : l.length ≤ maxLen := h1
  refine .inl ⟨rfl, ?_⟩
  unfold V_power_empty L_power_empty R_power_empty
  simp only [↓vck_skip, ↓vck_ret, ↓vck_exit, ↓vck_region, ↓vck_nilq, ↓nilTo_to, nilG_d, nilG_r, ↓vck_seq, ↓vck_cond, ↓vck_block, ↓vck_loop, ↓vckTo_to, ↓thenK_n, ↓thenK_x, ↓thenK_r, ↓blockK_n, ↓blockK_x, ↓blockK_o, ↓blockK_r, ↓regK_to, ↓retK_r, ↓retK_n, ↓loopV_n, ↓loopV_x, ↓loopV_r, ↓famK_n, ↓famK_x, ↓famK_r, ↓boolK_true, ↓boolK_false, ↓boolK_not, ↓boolK_dec, ↓boolK_and, nf_mk, RGk_end_f, RGk_end_t, RGk_op, RGk_guard, opK_to, evN, evCallN, grow_mk, feet_f, feet_t, foot_mk, stepK_mk, stepK_v, stepK_no, guardG_t, guardG_f, guardG_no, condG_b, evT, Opd.ev, get_hit, get_next, app_to, app_no, app_up, app_skip, app_skipn, know_mk, knowO_t, knowO_c, envFrom, reserve, keeps, LOp.isNew, State.prune, cellsQ, cellsT, AV.leaf, Heap.at, evLoad_ptr, evLoad_dptr, loadO_vec, loadO_dvec1, stepK_load_map, idx_I, idx_W, rowW, set_rowW, app_rowW, app_rowW0, rep_rowW0, rowB, set_rowB, rep_rowB, rowN, lens_W, lensA_W, scal_rowW, default_W, w_or, w_and, w_andNot, w_and1, w_shl, w_shl1, w_shr, w_sub1, w_neg, w_add, w_bit, w_eq0, w_eq1, w_eq, Bool.decide_eq_true, idx_Rat, idx_Loc, idx_Act, idx_Step, idx_Stamp, stepK_idx_ref, evStore_ptr, storeO_vec, stepK_store_map1, loadDT_f, rowI, RatG.row, LocG.row, ActG.row, StepG.row, StampG.row, ActG.av, ActG.eta, RatG.eta, LocG.eta, beq_true, beq_false, loadDT_t, set_rowI, app_rowI, rep_rowI, set_rowRat, app_rowRat, rep_rowRat, set_rowLoc, app_rowLoc, app_rowAct, app_rowStep, List.length_set, List.length_replicate, toNat_cast, Int.reduceToNat, evLen, evAppend, srcOf, Src.all, Src.len, Src.leaf, joinV, drows_rep1, drows_rep2, drows_rep3, drows_rep4, drows_rep5, drows_rep6, drows_rep7, drows_rep8, mkVec, drows, evMk, List.length_map, take_mapF, drop_mapF, List.take_length, List.take_left, List.length_append, Nat.le_add_right, ite_self, List.take_of_length_le, evSlice, intOr, intOpd, Option.isSome_none, Option.isSome_some, Nat.sub_zero, loadQ, loadT, evBin, evUn, evIdxArr_d, evIdxArr_p, binT, binQ, chk, apartF, List.contains_cons, List.contains_nil, Bool.or_false, Bool.false_or, Bool.and_self, resQ, resV, resT, pickV, evCallT, evCall, fnOf, viewsT, isD, HO.drow, viewT, evInt2, evEq, eqV, eqK, eqC1, buildQ, buildT, buildRQ, buildRT, lens_I, lensA_I, lens_Rat, lensA_Rat, lens_Loc, lensA_Loc, lens_Act, lensA_Act, lens_Step, lensA_Step, lens_Stamp, lensA_Stamp, List.mem_cons, List.not_mem_nil, or_false, forall_eq, putRow, dcells, get_nil, RetS, RetF, RetD, AV.frz, AV.frzL, AV.freshP, AV.freshL, DV.less, scal_int, scal_bool, scal_nil, scal_rowI, scal_rowRat, scal_rowStep, Option.some.injEq, AV.tup.injEq, AV.agg.injEq, List.cons.injEq, DV.list.injEq, List.isEmpty_nil, Nat.le_refl, AV.d.injEq, DV.int.injEq, DV.bool.injEq, ↓reduceIte, Nat.reduceEqDiff, Nat.reduceAdd, Nat.reduceBEq, List.length_cons, List.length_nil, List.replicate_succ, List.replicate_zero, List.nil_append, List.cons_append, List.append_nil, List.foldl_cons, List.foldl_nil, List.map_cons, List.map_nil, List.all_cons, List.all_nil, List.set_cons_zero, List.set_cons_succ, List.getD_cons_zero, List.getD_cons_succ, List.drop_zero, List.drop_succ_cons, List.take_succ_cons, List.take_zero, List.flatten_cons, List.flatten_nil, Bool.true_and, Bool.and_true, Bool.not_true, Bool.not_false, true_and, and_true, true_or, or_true, Option.bind_some, Option.map_some, decide_true, decide_false, beq_self_eq_true, true_implies, false_implies, implies_true, not_true_eq_false, not_false_eq_true, and_self, Bool.and_false, Bool.false_and, Nat.reduceLT, Nat.reduceLeDiff, List.reverse_cons, List.reverse_nil, Nat.zero_add, Nat.add_zero, Bool.false_eq_true, List.getElem?_cons_zero, Nat.reduceMul, Nat.mul_one, sp_empty, F1, G1, at_anyZ]
  exact h1

/-! ### of -/
theorem w64_1 : IntKind.i64.wrap 1 = 1 := by decide
theorem w64_2 : IntKind.i64.wrap 2 = 2 := by decide
theorem w64_3 : IntKind.i64.wrap 3 = 3 := by decide
theorem w64_4 : IntKind.i64.wrap 4 = 4 := by decide
theorem w64_5 : IntKind.i64.wrap 5 = 5 := by decide
theorem w64_6 : IntKind.i64.wrap 6 = 6 := by decide
theorem w64_7 : IntKind.i64.wrap 7 = 7 := by decide
theorem w64_8 : IntKind.i64.wrap 8 = 8 := by decide
theorem w64_9 : IntKind.i64.wrap 9 = 9 := by decide
theorem w64_10 : IntKind.i64.wrap 10 = 10 := by decide
theorem w64_11 : IntKind.i64.wrap 11 = 11 := by decide
theorem w64_12 : IntKind.i64.wrap 12 = 12 := by decide
theorem w64_13 : IntKind.i64.wrap 13 = 13 := by decide
theorem w64_14 : IntKind.i64.wrap 14 = 14 := by decide
theorem w64_15 : IntKind.i64.wrap 15 = 15 := by decide
/-- A candidate execution as it is handed over. -/
structure XG where
  nodes : List NodeG
  nf : Bool
  po : List W × Bool
  rf : List W × Bool
  co : List W × Bool
  fr : List W × Bool
  addr : List W × Bool
  data : List W × Bool
  ctrl : List W × Bool
  fenced : List W × Bool
  sync : List W × Bool
  lwsync : List W × Bool
  pairs : List W × Bool
def lsX (r : List W × Bool) : DV := .list (r.1.map rowW) r.2
def XG.cells (x : XG) : List DV := [.list (x.nodes.map ActG.row) x.nf, lsX x.po, lsX x.rf, lsX x.co, lsX x.fr, lsX x.addr, lsX x.data, lsX x.ctrl, lsX x.fenced, lsX x.sync, lsX x.lwsync, lsX x.pairs]
def XG.av (x : XG) : AV := .agg [.d (.list (x.nodes.map ActG.row) x.nf), .d (lsX x.po), .d (lsX x.rf), .d (lsX x.co), .d (lsX x.fr), .d (lsX x.addr), .d (lsX x.data), .d (lsX x.ctrl), .d (lsX x.fenced), .d (lsX x.sync), .d (lsX x.lwsync), .d (lsX x.pairs)]
theorem lsX_inj {r s : List W × Bool} (h : lsX r = lsX s) : r = s := by
  obtain ⟨a, b⟩ := r; obtain ⟨c, d⟩ := s
  simp only [lsX, DV.list.injEq] at h
  rw [rows_inj rowW_inj h.1, h.2]
theorem XG.av_inj (x y : XG) (h : x.av = y.av) : x = y := by
  obtain ⟨a, b, c, d, e, f, g, i, j, k, l, n, o⟩ := x
  obtain ⟨a', b', c', d', e', f', g', i', j', k', l', n', o'⟩ := y
  simp only [XG.av, AV.agg.injEq, List.cons.injEq, AV.d.injEq, DV.list.injEq, and_true] at h
  obtain ⟨⟨h1, h2⟩, h3, h4, h5, h6, h7, h8, h9, h10, h11, h12, h13⟩ := h
  rw [rows_inj ActG.row_inj h1, h2, lsX_inj h3, lsX_inj h4, lsX_inj h5, lsX_inj h6, lsX_inj h7, lsX_inj h8, lsX_inj h9, lsX_inj h10, lsX_inj h11, lsX_inj h12, lsX_inj h13]
def XG.n (x : XG) : Nat := min x.nodes.length 64
def fitX (r : List W × Bool) (n : Nat) : List W := fitG (trimG r.1 n) n
def kindW (l : List NodeG) (q : Int) (n : Nat) : W := ofB (fun i => decide ((l.getD i default).kd = q)) n
/-- The model so far: 'a' relations are fitted, 'b' nodes are looked at. -/
def XG.rel (x : XG) (a j : Nat) (r : List W × Bool) : DV := if j < a then lsW (fitX r x.n) else lsX r
def XG.up (x : XG) (a b : Nat) : List DV := [.list ((x.nodes.take x.n).map ActG.row) (x.nf && decide (x.n = x.nodes.length)), .list (x.nodes.map ActG.row) x.nf, x.rel a 0 x.po, x.rel a 1 x.rf, x.rel a 2 x.co, x.rel a 3 x.fr, x.rel a 4 x.addr, x.rel a 5 x.data, x.rel a 6 x.ctrl,
  x.rel a 7 x.fenced, x.rel a 8 x.sync, x.rel a 9 x.lwsync, x.rel a 10 x.pairs, .int .u64 ((kindW x.nodes 1 b).toNat : Int), .int .u64 ((kindW x.nodes 2 b).toNat : Int)]
def ofXG (x : XG) : MG where
  nodes := x.nodes.take x.n
  nf := x.nf && decide (x.n = x.nodes.length)
  xn := x.nodes
  xf := x.nf
  po := fitX x.po x.n
  rf := fitX x.rf x.n
  co := fitX x.co x.n
  fr := fitX x.fr x.n
  addr := fitX x.addr x.n
  data := fitX x.data x.n
  ctrl := fitX x.ctrl x.n
  fenced := fitX x.fenced x.n
  sync := fitX x.sync x.n
  lwsync := fitX x.lwsync x.n
  pairs := fitX x.pairs x.n
  read := kindW x.nodes 1 x.n
  write := kindW x.nodes 2 x.n
theorem up_end (x : XG) : x.up 11 x.n = (ofXG x).cells := rfl
structure XG.Ok (x : XG) : Prop where
  nodes : x.nodes.length ≤ maxLen
  po : x.po.1.length ≤ maxLen
  rf : x.rf.1.length ≤ maxLen
  co : x.co.1.length ≤ maxLen
  fr : x.fr.1.length ≤ maxLen
  addr : x.addr.1.length ≤ maxLen
  data : x.data.1.length ≤ maxLen
  ctrl : x.ctrl.1.length ≤ maxLen
  fenced : x.fenced.1.length ≤ maxLen
  sync : x.sync.1.length ≤ maxLen
  lwsync : x.lwsync.1.length ≤ maxLen
  pairs : x.pairs.1.length ≤ maxLen
def sp_of : Sp := ⟨XG, fun x => [x.av], fun x => .data x.Ok (.dptr (ofXG x).cells 0) false⟩
theorem at_of (x : XG) : sp_of.at [x.av] = .data x.Ok (.dptr (ofXG x).cells 0) false :=
  Sp.at_enc (s := sp_of) (fun (x y : XG) h => by
    simp only [sp_of, List.cons.injEq, and_true] at h
    exact XG.av_inj _ _ h) x
theorem trimG_len {r : List W} {n : Nat} : (trimG r n).length = n := by
  simp only [trimG, List.length_append, List.length_take, List.length_replicate]; omega
theorem n_le (x : XG) : x.n ≤ 64 := Nat.min_le_right _ _
theorem kindW_yes {l : List NodeG} {q : Int} {b : Nat} (h : (l.getD b default).loc = q) : kindW l q b ||| 1#64 <<< b = kindW l q (b + 1) := by
  have h' : decide ((l.getD b default).kd = q) = true := decide_eq_true h
  unfold kindW
  rw [ofB, if_pos h']; rfl
theorem kindW_no {l : List NodeG} {q : Int} {b : Nat} (h : ¬ (l.getD b default).loc = q) : kindW l q b = kindW l q (b + 1) := by
  have h' : ¬ decide ((l.getD b default).kd = q) = true := fun h2 => h (of_decide_eq_true h2)
  unfold kindW
  rw [ofB, if_neg h', BitVec.or_zero]
theorem body_power_of {T : Tab} {n1 n2 : Nat} (k1 : Knows T n1 sp_fit) (k2 : Knows T n2 sp_trim) : sp_of.Body T V_power_of (L_power_of n1 n2) R_power_of := by
  have F1 := k1.F; have G1 := k1.G; have F2 := k2.F; have G2 := k2.G
  rintro (x : XG) hx
  have hx : x.Ok := hx
  refine ⟨rfl, ?_⟩
  unfold V_power_of L_power_of R_power_of
  have hm : (if (64 : Int) < (x.nodes.length : Int) then (64 : Int) else (x.nodes.length : Int)) = ((x.n : Nat) : Int) := by unfold XG.n; split <;> omega
  have hn64 := n_le x
  have hnl : x.n ≤ x.nodes.length := Nat.min_le_left _ _
  have hmin : min x.n x.nodes.length = x.n := Nat.min_eq_left hnl
  have hbig : (64 : Nat) ≤ maxLen := by decide
  have hd : decide ((x.n : Int) = (x.nodes.length : Int)) = decide (x.n = x.nodes.length) := by congr 1; apply propext; omega
  simp only [↓vck_skip, ↓vck_ret, ↓vck_exit, ↓vck_region, ↓vck_nilq, ↓nilTo_to, nilG_d, nilG_r, ↓vck_seq, ↓vck_cond, ↓vck_block, ↓vck_loop, ↓vckTo_to, ↓thenK_n, ↓thenK_x, ↓thenK_r, ↓blockK_n, ↓blockK_x, ↓blockK_o, ↓blockK_r, ↓regK_to, ↓retK_r, ↓retK_n, ↓loopV_n, ↓loopV_x, ↓loopV_r, ↓famK_n, ↓famK_x, ↓famK_r, ↓boolK_true, ↓boolK_false, ↓boolK_not, ↓boolK_dec, ↓boolK_and, nf_mk, RGk_end_f, RGk_end_t, RGk_op, RGk_guard, opK_to, evN, evCallN, grow_mk, feet_f, feet_t, foot_mk, stepK_mk, stepK_v, stepK_no, guardG_t, guardG_f, guardG_no, condG_b, evT, Opd.ev, get_hit, get_next, app_to, app_no, app_up, app_skip, app_skipn, know_mk, knowO_t, knowO_c, envFrom, reserve, keeps, LOp.isNew, State.prune, cellsQ, cellsT, AV.leaf, Heap.at, evLoad_ptr, evLoad_dptr, loadO_vec, loadO_dvec1, stepK_load_map, idx_I, idx_W, rowW, set_rowW, app_rowW, app_rowW0, rep_rowW0, rowB, set_rowB, rep_rowB, rowN, lens_W, lensA_W, scal_rowW, default_W, w_or, w_and, w_andNot, w_and1, w_shl, w_shl1, w_shr, w_sub1, w_neg, w_add, w_bit, w_eq0, w_eq1, w_eq, Bool.decide_eq_true, idx_Rat, idx_Loc, idx_Act, idx_Step, idx_Stamp, stepK_idx_ref, evStore_ptr, storeO_vec, stepK_store_map1, loadDT_f, rowI, RatG.row, LocG.row, ActG.row, StepG.row, StampG.row, ActG.av, ActG.eta, RatG.eta, LocG.eta, beq_true, beq_false, loadDT_t, set_rowI, app_rowI, rep_rowI, set_rowRat, app_rowRat, rep_rowRat, set_rowLoc, app_rowLoc, app_rowAct, app_rowStep, List.length_set, List.length_replicate, toNat_cast, Int.reduceToNat, evLen, evAppend, srcOf, Src.all, Src.len, Src.leaf, joinV, drows_rep1, drows_rep2, drows_rep3, drows_rep4, drows_rep5, drows_rep6, drows_rep7, drows_rep8, mkVec, drows, evMk, List.length_map, take_mapF, drop_mapF, List.take_length, List.take_left, List.length_append, Nat.le_add_right, ite_self, List.take_of_length_le, evSlice, intOr, intOpd, Option.isSome_none, Option.isSome_some, Nat.sub_zero, loadQ, loadT, evBin, evUn, evIdxArr_d, evIdxArr_p, binT, binQ, chk, apartF, List.contains_cons, List.contains_nil, Bool.or_false, Bool.false_or, Bool.and_self, resQ, resV, resT, pickV, evCallT, evCall, fnOf, viewsT, isD, HO.drow, viewT, evInt2, evEq, eqV, eqK, eqC1, buildQ, buildT, buildRQ, buildRT, lens_I, lensA_I, lens_Rat, lensA_Rat, lens_Loc, lensA_Loc, lens_Act, lensA_Act, lens_Step, lensA_Step, lens_Stamp, lensA_Stamp, List.mem_cons, List.not_mem_nil, or_false, forall_eq, putRow, dcells, get_nil, RetS, RetF, RetD, AV.frz, AV.frzL, AV.freshP, AV.freshL, DV.less, scal_int, scal_bool, scal_nil, scal_rowI, scal_rowRat, scal_rowStep, Option.some.injEq, AV.tup.injEq, AV.agg.injEq, List.cons.injEq, DV.list.injEq, List.isEmpty_nil, Nat.le_refl, AV.d.injEq, DV.int.injEq, DV.bool.injEq, ↓reduceIte, Nat.reduceEqDiff, Nat.reduceAdd, Nat.reduceBEq, List.length_cons, List.length_nil, List.replicate_succ, List.replicate_zero, List.nil_append, List.cons_append, List.append_nil, List.foldl_cons, List.foldl_nil, List.map_cons, List.map_nil, List.all_cons, List.all_nil, List.set_cons_zero, List.set_cons_succ, List.getD_cons_zero, List.getD_cons_succ, List.drop_zero, List.drop_succ_cons, List.take_succ_cons, List.take_zero, List.flatten_cons, List.flatten_nil, Bool.true_and, Bool.and_true, Bool.not_true, Bool.not_false, true_and, and_true, true_or, or_true, Option.bind_some, Option.map_some, decide_true, decide_false, beq_self_eq_true, true_implies, false_implies, implies_true, not_true_eq_false, not_false_eq_true, and_self, Bool.and_false, Bool.false_and, Nat.reduceLT, Nat.reduceLeDiff, List.reverse_cons, List.reverse_nil, Nat.zero_add, Nat.add_zero, Bool.false_eq_true, List.getElem?_cons_zero, Nat.reduceMul, Nat.mul_one, sp_of, F1, G1, F2, G2, at_fit, at_trim, XG.av, hm, Option.bind_none]
  simp only [toNat_cast, hd]
  refine ⟨⟨by omega, by omega, by omega, by omega⟩, ?_⟩
  refine Loop.fam [3, 4, 64, 65, 66] (fun a : Nat => ⟨[(3, .d (.list ((x.nodes.take x.n).map ActG.row) (x.nf && decide (x.n = x.nodes.length)))), (4, .ptr 0 15 0 0), (64, .ref 1 1 0 11 true), (65, .d (.int .i64 11)), (66, .d (.int .i64 (a : Nat)))],
      [.vec 15 [(x.up a 0).map .d], .vec 1 [[.ptr 0 15 0 2], [.ptr 0 15 0 3], [.ptr 0 15 0 4], [.ptr 0 15 0 5], [.ptr 0 15 0 6], [.ptr 0 15 0 7], [.ptr 0 15 0 8], [.ptr 0 15 0 9], [.ptr 0 15 0 10], [.ptr 0 15 0 11], [.ptr 0 15 0 12]]]⟩)
      (fun a => a ≤ 11) (fun a => 11 - a) 0 [1, 2] (by simp) (by simp) (by simp only [State.can, AV.can, AV.canL, HO.can, canRows, idx, get_hit, get_next, Heap.at, Nat.reduceBEq, ↓reduceIte, Nat.reduceEqDiff, Option.getD_some, Option.map_some, List.map_cons, List.map_nil, List.getD_cons_zero, List.getD_cons_succ]; rfl) (by omega) ?_
  intro a ha
  have hcase : a = 0 ∨ a = 1 ∨ a = 2 ∨ a = 3 ∨ a = 4 ∨ a = 5 ∨ a = 6 ∨ a = 7 ∨ a = 8 ∨ a = 9 ∨ a = 10 ∨ a = 11 := by omega
  rcases hcase with rfl | rfl | rfl | rfl | rfl | rfl | rfl | rfl | rfl | rfl | rfl | rfl
  rotate_left 11
  · simp only [↓vck_skip, ↓vck_ret, ↓vck_exit, ↓vck_region, ↓vck_nilq, ↓nilTo_to, nilG_d, nilG_r, ↓vck_seq, ↓vck_cond, ↓vck_block, ↓vck_loop, ↓vckTo_to, ↓thenK_n, ↓thenK_x, ↓thenK_r, ↓blockK_n, ↓blockK_x, ↓blockK_o, ↓blockK_r, ↓regK_to, ↓retK_r, ↓retK_n, ↓loopV_n, ↓loopV_x, ↓loopV_r, ↓famK_n, ↓famK_x, ↓famK_r, ↓boolK_true, ↓boolK_false, ↓boolK_not, ↓boolK_dec, ↓boolK_and, nf_mk, RGk_end_f, RGk_end_t, RGk_op, RGk_guard, opK_to, evN, evCallN, grow_mk, feet_f, feet_t, foot_mk, stepK_mk, stepK_v, stepK_no, guardG_t, guardG_f, guardG_no, condG_b, evT, Opd.ev, get_hit, get_next, app_to, app_no, app_up, app_skip, app_skipn, know_mk, knowO_t, knowO_c, envFrom, reserve, keeps, LOp.isNew, State.prune, cellsQ, cellsT, AV.leaf, Heap.at, evLoad_ptr, evLoad_dptr, loadO_vec, loadO_dvec1, stepK_load_map, idx_I, idx_W, rowW, set_rowW, app_rowW, app_rowW0, rep_rowW0, rowB, set_rowB, rep_rowB, rowN, lens_W, lensA_W, scal_rowW, default_W, w_or, w_and, w_andNot, w_and1, w_shl, w_shl1, w_shr, w_sub1, w_neg, w_add, w_bit, w_eq0, w_eq1, w_eq, Bool.decide_eq_true, idx_Rat, idx_Loc, idx_Act, idx_Step, idx_Stamp, stepK_idx_ref, evStore_ptr, storeO_vec, stepK_store_map1, loadDT_f, rowI, RatG.row, LocG.row, ActG.row, StepG.row, StampG.row, ActG.av, ActG.eta, RatG.eta, LocG.eta, beq_true, beq_false, loadDT_t, set_rowI, app_rowI, rep_rowI, set_rowRat, app_rowRat, rep_rowRat, set_rowLoc, app_rowLoc, app_rowAct, app_rowStep, List.length_set, List.length_replicate, toNat_cast, Int.reduceToNat, evLen, evAppend, srcOf, Src.all, Src.len, Src.leaf, joinV, drows_rep1, drows_rep2, drows_rep3, drows_rep4, drows_rep5, drows_rep6, drows_rep7, drows_rep8, mkVec, drows, evMk, List.length_map, take_mapF, drop_mapF, List.take_length, List.take_left, List.length_append, Nat.le_add_right, ite_self, List.take_of_length_le, evSlice, intOr, intOpd, Option.isSome_none, Option.isSome_some, Nat.sub_zero, loadQ, loadT, evBin, evUn, evIdxArr_d, evIdxArr_p, binT, binQ, chk, apartF, List.contains_cons, List.contains_nil, Bool.or_false, Bool.false_or, Bool.and_self, resQ, resV, resT, pickV, evCallT, evCall, fnOf, viewsT, isD, HO.drow, viewT, evInt2, evEq, eqV, eqK, eqC1, buildQ, buildT, buildRQ, buildRT, lens_I, lensA_I, lens_Rat, lensA_Rat, lens_Loc, lensA_Loc, lens_Act, lensA_Act, lens_Step, lensA_Step, lens_Stamp, lensA_Stamp, List.mem_cons, List.not_mem_nil, or_false, forall_eq, putRow, dcells, get_nil, RetS, RetF, RetD, AV.frz, AV.frzL, AV.freshP, AV.freshL, DV.less, scal_int, scal_bool, scal_nil, scal_rowI, scal_rowRat, scal_rowStep, Option.some.injEq, AV.tup.injEq, AV.agg.injEq, List.cons.injEq, DV.list.injEq, List.isEmpty_nil, Nat.le_refl, AV.d.injEq, DV.int.injEq, DV.bool.injEq, ↓reduceIte, Nat.reduceEqDiff, Nat.reduceAdd, Nat.reduceBEq, List.length_cons, List.length_nil, List.replicate_succ, List.replicate_zero, List.nil_append, List.cons_append, List.append_nil, List.foldl_cons, List.foldl_nil, List.map_cons, List.map_nil, List.all_cons, List.all_nil, List.set_cons_zero, List.set_cons_succ, List.getD_cons_zero, List.getD_cons_succ, List.drop_zero, List.drop_succ_cons, List.take_succ_cons, List.take_zero, List.flatten_cons, List.flatten_nil, Bool.true_and, Bool.and_true, Bool.not_true, Bool.not_false, true_and, and_true, true_or, or_true, Option.bind_some, Option.map_some, decide_true, decide_false, beq_self_eq_true, true_implies, false_implies, implies_true, not_true_eq_false, not_false_eq_true, and_self, Bool.and_false, Bool.false_and, Nat.reduceLT, Nat.reduceLeDiff, List.reverse_cons, List.reverse_nil, Nat.zero_add, Nat.add_zero, Bool.false_eq_true, List.getElem?_cons_zero, Nat.reduceMul, Nat.mul_one, F1, G1, F2, G2, at_fit, at_trim, XG.up, XG.rel, Nat.reduceLT, Int.cast_ofNat_Int, Int.reduceLT, Int.reduceLE, Int.reduceAdd, Int.reduceToNat, w64_1, w64_2, w64_3, w64_4, w64_5, w64_6, w64_7, w64_8, w64_9, w64_10, w64_11]
    rw [List.length_take, hmin]
    refine Loop.fam [4, 82, 83, 84] (fun b : Nat => ⟨[(4, .ptr 0 15 0 0), (82, .d (.list ((x.nodes.take x.n).map ActG.row) (x.nf && decide (x.n = x.nodes.length)))), (83, .d (.int .i64 x.n)), (84, .d (.int .i64 (b : Nat)))],
      [.vec 15 [(x.up 11 b).map .d]]⟩) (fun b => b ≤ x.n) (fun b => x.n - b) 0 [0] (by simp) (by simp) (by simp only [State.can, AV.can, AV.canL, HO.can, canRows, idx, get_hit, get_next, Heap.at, Nat.reduceBEq, ↓reduceIte, Nat.reduceEqDiff, Option.getD_some, Option.map_some, List.map_cons, List.map_nil, List.getD_cons_zero, List.getD_cons_succ]; rfl) (by omega) ?_
    intro b hb
    simp only [↓vck_skip, ↓vck_ret, ↓vck_exit, ↓vck_region, ↓vck_nilq, ↓nilTo_to, nilG_d, nilG_r, ↓vck_seq, ↓vck_cond, ↓vck_block, ↓vck_loop, ↓vckTo_to, ↓thenK_n, ↓thenK_x, ↓thenK_r, ↓blockK_n, ↓blockK_x, ↓blockK_o, ↓blockK_r, ↓regK_to, ↓retK_r, ↓retK_n, ↓loopV_n, ↓loopV_x, ↓loopV_r, ↓famK_n, ↓famK_x, ↓famK_r, ↓boolK_true, ↓boolK_false, ↓boolK_not, ↓boolK_dec, ↓boolK_and, nf_mk, RGk_end_f, RGk_end_t, RGk_op, RGk_guard, opK_to, evN, evCallN, grow_mk, feet_f, feet_t, foot_mk, stepK_mk, stepK_v, stepK_no, guardG_t, guardG_f, guardG_no, condG_b, evT, Opd.ev, get_hit, get_next, app_to, app_no, app_up, app_skip, app_skipn, know_mk, knowO_t, knowO_c, envFrom, reserve, keeps, LOp.isNew, State.prune, cellsQ, cellsT, AV.leaf, Heap.at, evLoad_ptr, evLoad_dptr, loadO_vec, loadO_dvec1, stepK_load_map, idx_I, idx_W, rowW, set_rowW, app_rowW, app_rowW0, rep_rowW0, rowB, set_rowB, rep_rowB, rowN, lens_W, lensA_W, scal_rowW, default_W, w_or, w_and, w_andNot, w_and1, w_shl, w_shl1, w_shr, w_sub1, w_neg, w_add, w_bit, w_eq0, w_eq1, w_eq, Bool.decide_eq_true, idx_Rat, idx_Loc, idx_Act, idx_Step, idx_Stamp, stepK_idx_ref, evStore_ptr, storeO_vec, stepK_store_map1, loadDT_f, rowI, RatG.row, LocG.row, ActG.row, StepG.row, StampG.row, ActG.av, ActG.eta, RatG.eta, LocG.eta, beq_true, beq_false, loadDT_t, set_rowI, app_rowI, rep_rowI, set_rowRat, app_rowRat, rep_rowRat, set_rowLoc, app_rowLoc, app_rowAct, app_rowStep, List.length_set, List.length_replicate, toNat_cast, Int.reduceToNat, evLen, evAppend, srcOf, Src.all, Src.len, Src.leaf, joinV, drows_rep1, drows_rep2, drows_rep3, drows_rep4, drows_rep5, drows_rep6, drows_rep7, drows_rep8, mkVec, drows, evMk, List.length_map, take_mapF, drop_mapF, List.take_length, List.take_left, List.length_append, Nat.le_add_right, ite_self, List.take_of_length_le, evSlice, intOr, intOpd, Option.isSome_none, Option.isSome_some, Nat.sub_zero, loadQ, loadT, evBin, evUn, evIdxArr_d, evIdxArr_p, binT, binQ, chk, apartF, List.contains_cons, List.contains_nil, Bool.or_false, Bool.false_or, Bool.and_self, resQ, resV, resT, pickV, evCallT, evCall, fnOf, viewsT, isD, HO.drow, viewT, evInt2, evEq, eqV, eqK, eqC1, buildQ, buildT, buildRQ, buildRT, lens_I, lensA_I, lens_Rat, lensA_Rat, lens_Loc, lensA_Loc, lens_Act, lensA_Act, lens_Step, lensA_Step, lens_Stamp, lensA_Stamp, List.mem_cons, List.not_mem_nil, or_false, forall_eq, putRow, dcells, get_nil, RetS, RetF, RetD, AV.frz, AV.frzL, AV.freshP, AV.freshL, DV.less, scal_int, scal_bool, scal_nil, scal_rowI, scal_rowRat, scal_rowStep, Option.some.injEq, AV.tup.injEq, AV.agg.injEq, List.cons.injEq, DV.list.injEq, List.isEmpty_nil, Nat.le_refl, AV.d.injEq, DV.int.injEq, DV.bool.injEq, ↓reduceIte, Nat.reduceEqDiff, Nat.reduceAdd, Nat.reduceBEq, List.length_cons, List.length_nil, List.replicate_succ, List.replicate_zero, List.nil_append, List.cons_append, List.append_nil, List.foldl_cons, List.foldl_nil, List.map_cons, List.map_nil, List.all_cons, List.all_nil, List.set_cons_zero, List.set_cons_succ, List.getD_cons_zero, List.getD_cons_succ, List.drop_zero, List.drop_succ_cons, List.take_succ_cons, List.take_zero, List.flatten_cons, List.flatten_nil, Bool.true_and, Bool.and_true, Bool.not_true, Bool.not_false, true_and, and_true, true_or, or_true, Option.bind_some, Option.map_some, decide_true, decide_false, beq_self_eq_true, true_implies, false_implies, implies_true, not_true_eq_false, not_false_eq_true, and_self, Bool.and_false, Bool.false_and, Nat.reduceLT, Nat.reduceLeDiff, List.reverse_cons, List.reverse_nil, Nat.zero_add, Nat.add_zero, Bool.false_eq_true, List.getElem?_cons_zero, Nat.reduceMul, Nat.mul_one, F1, G1, F2, G2, at_fit, at_trim, XG.up, XG.rel, Nat.reduceLT]
    refine ⟨fun c => ?_, fun c => ?_⟩
    · have c' : b < x.n := by omega
      have hg : (x.nodes.take x.n).getD b default = x.nodes.getD b default := by
        rw [List.getD_eq_getElem?_getD, List.getD_eq_getElem?_getD, List.getElem?_take, if_pos c']
      have hl : (x.nodes.take x.n).length = x.n := by rw [List.length_take, hmin]
      rw [hg, wrapU (k := b) (by omega), wrap_succ c' (by omega), hl]
      simp only [toNat_cast]
      refine ⟨⟨by omega, by omega⟩, fun h1 => ⟨by omega, ?_⟩, fun h1 => ⟨fun h2 => ⟨by omega, ?_⟩, fun h2 => ?_⟩⟩
      · refine FamNext.mk [0] (b + 1) (by simp) (by simp) ?_ (by omega) (by omega)
        rw [kindW_yes h1, kindW_no (q := 2) (b := b) (by omega)]
        simp only [State.can, AV.can, AV.canL, HO.can, canRows, idx, get_hit, get_next, Heap.at, Nat.reduceBEq, ↓reduceIte, Nat.reduceEqDiff, Option.getD_some, Option.map_some, List.map_cons, List.map_nil, List.getD_cons_zero, List.getD_cons_succ]
      · refine FamNext.mk [0] (b + 1) (by simp) (by simp) ?_ (by omega) (by omega)
        rw [kindW_yes h2, kindW_no (q := 1) (b := b) h1]
        simp only [State.can, AV.can, AV.canL, HO.can, canRows, idx, get_hit, get_next, Heap.at, Nat.reduceBEq, ↓reduceIte, Nat.reduceEqDiff, Option.getD_some, Option.map_some, List.map_cons, List.map_nil, List.getD_cons_zero, List.getD_cons_succ]
      · refine FamNext.mk [0] (b + 1) (by simp) (by simp) ?_ (by omega) (by omega)
        rw [kindW_no (q := 1) (b := b) h1, kindW_no (q := 2) (b := b) h2]
        simp only [State.can, AV.can, AV.canL, HO.can, canRows, idx, get_hit, get_next, Heap.at, Nat.reduceBEq, ↓reduceIte, Nat.reduceEqDiff, Option.getD_some, Option.map_some, List.map_cons, List.map_nil, List.getD_cons_zero, List.getD_cons_succ]
    · have : b = x.n := by omega
      subst this
      rfl
  · simp only [↓vck_skip, ↓vck_ret, ↓vck_exit, ↓vck_region, ↓vck_nilq, ↓nilTo_to, nilG_d, nilG_r, ↓vck_seq, ↓vck_cond, ↓vck_block, ↓vck_loop, ↓vckTo_to, ↓thenK_n, ↓thenK_x, ↓thenK_r, ↓blockK_n, ↓blockK_x, ↓blockK_o, ↓blockK_r, ↓regK_to, ↓retK_r, ↓retK_n, ↓loopV_n, ↓loopV_x, ↓loopV_r, ↓famK_n, ↓famK_x, ↓famK_r, ↓boolK_true, ↓boolK_false, ↓boolK_not, ↓boolK_dec, ↓boolK_and, nf_mk, RGk_end_f, RGk_end_t, RGk_op, RGk_guard, opK_to, evN, evCallN, grow_mk, feet_f, feet_t, foot_mk, stepK_mk, stepK_v, stepK_no, guardG_t, guardG_f, guardG_no, condG_b, evT, Opd.ev, get_hit, get_next, app_to, app_no, app_up, app_skip, app_skipn, know_mk, knowO_t, knowO_c, envFrom, reserve, keeps, LOp.isNew, State.prune, cellsQ, cellsT, AV.leaf, Heap.at, evLoad_ptr, evLoad_dptr, loadO_vec, loadO_dvec1, stepK_load_map, idx_I, idx_W, rowW, set_rowW, app_rowW, app_rowW0, rep_rowW0, rowB, set_rowB, rep_rowB, rowN, lens_W, lensA_W, scal_rowW, default_W, w_or, w_and, w_andNot, w_and1, w_shl, w_shl1, w_shr, w_sub1, w_neg, w_add, w_bit, w_eq0, w_eq1, w_eq, Bool.decide_eq_true, idx_Rat, idx_Loc, idx_Act, idx_Step, idx_Stamp, stepK_idx_ref, evStore_ptr, storeO_vec, stepK_store_map1, loadDT_f, rowI, RatG.row, LocG.row, ActG.row, StepG.row, StampG.row, ActG.av, ActG.eta, RatG.eta, LocG.eta, beq_true, beq_false, loadDT_t, set_rowI, app_rowI, rep_rowI, set_rowRat, app_rowRat, rep_rowRat, set_rowLoc, app_rowLoc, app_rowAct, app_rowStep, List.length_set, List.length_replicate, toNat_cast, Int.reduceToNat, evLen, evAppend, srcOf, Src.all, Src.len, Src.leaf, joinV, drows_rep1, drows_rep2, drows_rep3, drows_rep4, drows_rep5, drows_rep6, drows_rep7, drows_rep8, mkVec, drows, evMk, List.length_map, take_mapF, drop_mapF, List.take_length, List.take_left, List.length_append, Nat.le_add_right, ite_self, List.take_of_length_le, evSlice, intOr, intOpd, Option.isSome_none, Option.isSome_some, Nat.sub_zero, loadQ, loadT, evBin, evUn, evIdxArr_d, evIdxArr_p, binT, binQ, chk, apartF, List.contains_cons, List.contains_nil, Bool.or_false, Bool.false_or, Bool.and_self, resQ, resV, resT, pickV, evCallT, evCall, fnOf, viewsT, isD, HO.drow, viewT, evInt2, evEq, eqV, eqK, eqC1, buildQ, buildT, buildRQ, buildRT, lens_I, lensA_I, lens_Rat, lensA_Rat, lens_Loc, lensA_Loc, lens_Act, lensA_Act, lens_Step, lensA_Step, lens_Stamp, lensA_Stamp, List.mem_cons, List.not_mem_nil, or_false, forall_eq, putRow, dcells, get_nil, RetS, RetF, RetD, AV.frz, AV.frzL, AV.freshP, AV.freshL, DV.less, scal_int, scal_bool, scal_nil, scal_rowI, scal_rowRat, scal_rowStep, Option.some.injEq, AV.tup.injEq, AV.agg.injEq, List.cons.injEq, DV.list.injEq, List.isEmpty_nil, Nat.le_refl, AV.d.injEq, DV.int.injEq, DV.bool.injEq, ↓reduceIte, Nat.reduceEqDiff, Nat.reduceAdd, Nat.reduceBEq, List.length_cons, List.length_nil, List.replicate_succ, List.replicate_zero, List.nil_append, List.cons_append, List.append_nil, List.foldl_cons, List.foldl_nil, List.map_cons, List.map_nil, List.all_cons, List.all_nil, List.set_cons_zero, List.set_cons_succ, List.getD_cons_zero, List.getD_cons_succ, List.drop_zero, List.drop_succ_cons, List.take_succ_cons, List.take_zero, List.flatten_cons, List.flatten_nil, Bool.true_and, Bool.and_true, Bool.not_true, Bool.not_false, true_and, and_true, true_or, or_true, Option.bind_some, Option.map_some, decide_true, decide_false, beq_self_eq_true, true_implies, false_implies, implies_true, not_true_eq_false, not_false_eq_true, and_self, Bool.and_false, Bool.false_and, Nat.reduceLT, Nat.reduceLeDiff, List.reverse_cons, List.reverse_nil, Nat.zero_add, Nat.add_zero, Bool.false_eq_true, List.getElem?_cons_zero, Nat.reduceMul, Nat.mul_one, F1, G1, F2, G2, at_fit, at_trim, XG.up, XG.rel, lsX, Nat.reduceLT, Int.cast_ofNat_Int, Int.reduceLT, Int.reduceLE, Int.reduceAdd, Int.reduceToNat, w64_1, w64_2, w64_3, w64_4, w64_5, w64_6, w64_7, w64_8, w64_9, w64_10, w64_11]
    rw [List.length_take, hmin]
    refine ⟨⟨hx.po, hn64⟩, ⟨by rw [trimG_len]; omega, hn64⟩, FamNext.mk [0, 1] 1 (by simp) (by simp) ?_ (by omega) (by omega)⟩
    simp only [State.can, AV.can, AV.canL, HO.can, canRows, idx, get_hit, get_next, Heap.at, Nat.reduceBEq, ↓reduceIte, Nat.reduceEqDiff, Option.getD_some, Option.map_some, List.map_cons, List.map_nil, List.getD_cons_zero, List.getD_cons_succ, lsW, fitX, Nat.reduceLT, Int.cast_ofNat_Int]
  · simp only [↓vck_skip, ↓vck_ret, ↓vck_exit, ↓vck_region, ↓vck_nilq, ↓nilTo_to, nilG_d, nilG_r, ↓vck_seq, ↓vck_cond, ↓vck_block, ↓vck_loop, ↓vckTo_to, ↓thenK_n, ↓thenK_x, ↓thenK_r, ↓blockK_n, ↓blockK_x, ↓blockK_o, ↓blockK_r, ↓regK_to, ↓retK_r, ↓retK_n, ↓loopV_n, ↓loopV_x, ↓loopV_r, ↓famK_n, ↓famK_x, ↓famK_r, ↓boolK_true, ↓boolK_false, ↓boolK_not, ↓boolK_dec, ↓boolK_and, nf_mk, RGk_end_f, RGk_end_t, RGk_op, RGk_guard, opK_to, evN, evCallN, grow_mk, feet_f, feet_t, foot_mk, stepK_mk, stepK_v, stepK_no, guardG_t, guardG_f, guardG_no, condG_b, evT, Opd.ev, get_hit, get_next, app_to, app_no, app_up, app_skip, app_skipn, know_mk, knowO_t, knowO_c, envFrom, reserve, keeps, LOp.isNew, State.prune, cellsQ, cellsT, AV.leaf, Heap.at, evLoad_ptr, evLoad_dptr, loadO_vec, loadO_dvec1, stepK_load_map, idx_I, idx_W, rowW, set_rowW, app_rowW, app_rowW0, rep_rowW0, rowB, set_rowB, rep_rowB, rowN, lens_W, lensA_W, scal_rowW, default_W, w_or, w_and, w_andNot, w_and1, w_shl, w_shl1, w_shr, w_sub1, w_neg, w_add, w_bit, w_eq0, w_eq1, w_eq, Bool.decide_eq_true, idx_Rat, idx_Loc, idx_Act, idx_Step, idx_Stamp, stepK_idx_ref, evStore_ptr, storeO_vec, stepK_store_map1, loadDT_f, rowI, RatG.row, LocG.row, ActG.row, StepG.row, StampG.row, ActG.av, ActG.eta, RatG.eta, LocG.eta, beq_true, beq_false, loadDT_t, set_rowI, app_rowI, rep_rowI, set_rowRat, app_rowRat, rep_rowRat, set_rowLoc, app_rowLoc, app_rowAct, app_rowStep, List.length_set, List.length_replicate, toNat_cast, Int.reduceToNat, evLen, evAppend, srcOf, Src.all, Src.len, Src.leaf, joinV, drows_rep1, drows_rep2, drows_rep3, drows_rep4, drows_rep5, drows_rep6, drows_rep7, drows_rep8, mkVec, drows, evMk, List.length_map, take_mapF, drop_mapF, List.take_length, List.take_left, List.length_append, Nat.le_add_right, ite_self, List.take_of_length_le, evSlice, intOr, intOpd, Option.isSome_none, Option.isSome_some, Nat.sub_zero, loadQ, loadT, evBin, evUn, evIdxArr_d, evIdxArr_p, binT, binQ, chk, apartF, List.contains_cons, List.contains_nil, Bool.or_false, Bool.false_or, Bool.and_self, resQ, resV, resT, pickV, evCallT, evCall, fnOf, viewsT, isD, HO.drow, viewT, evInt2, evEq, eqV, eqK, eqC1, buildQ, buildT, buildRQ, buildRT, lens_I, lensA_I, lens_Rat, lensA_Rat, lens_Loc, lensA_Loc, lens_Act, lensA_Act, lens_Step, lensA_Step, lens_Stamp, lensA_Stamp, List.mem_cons, List.not_mem_nil, or_false, forall_eq, putRow, dcells, get_nil, RetS, RetF, RetD, AV.frz, AV.frzL, AV.freshP, AV.freshL, DV.less, scal_int, scal_bool, scal_nil, scal_rowI, scal_rowRat, scal_rowStep, Option.some.injEq, AV.tup.injEq, AV.agg.injEq, List.cons.injEq, DV.list.injEq, List.isEmpty_nil, Nat.le_refl, AV.d.injEq, DV.int.injEq, DV.bool.injEq, ↓reduceIte, Nat.reduceEqDiff, Nat.reduceAdd, Nat.reduceBEq, List.length_cons, List.length_nil, List.replicate_succ, List.replicate_zero, List.nil_append, List.cons_append, List.append_nil, List.foldl_cons, List.foldl_nil, List.map_cons, List.map_nil, List.all_cons, List.all_nil, List.set_cons_zero, List.set_cons_succ, List.getD_cons_zero, List.getD_cons_succ, List.drop_zero, List.drop_succ_cons, List.take_succ_cons, List.take_zero, List.flatten_cons, List.flatten_nil, Bool.true_and, Bool.and_true, Bool.not_true, Bool.not_false, true_and, and_true, true_or, or_true, Option.bind_some, Option.map_some, decide_true, decide_false, beq_self_eq_true, true_implies, false_implies, implies_true, not_true_eq_false, not_false_eq_true, and_self, Bool.and_false, Bool.false_and, Nat.reduceLT, Nat.reduceLeDiff, List.reverse_cons, List.reverse_nil, Nat.zero_add, Nat.add_zero, Bool.false_eq_true, List.getElem?_cons_zero, Nat.reduceMul, Nat.mul_one, F1, G1, F2, G2, at_fit, at_trim, XG.up, XG.rel, lsX, Nat.reduceLT, Int.cast_ofNat_Int, Int.reduceLT, Int.reduceLE, Int.reduceAdd, Int.reduceToNat, w64_1, w64_2, w64_3, w64_4, w64_5, w64_6, w64_7, w64_8, w64_9, w64_10, w64_11]
    rw [List.length_take, hmin]
    refine ⟨⟨hx.rf, hn64⟩, ⟨by rw [trimG_len]; omega, hn64⟩, FamNext.mk [0, 1] 2 (by simp) (by simp) ?_ (by omega) (by omega)⟩
    simp only [State.can, AV.can, AV.canL, HO.can, canRows, idx, get_hit, get_next, Heap.at, Nat.reduceBEq, ↓reduceIte, Nat.reduceEqDiff, Option.getD_some, Option.map_some, List.map_cons, List.map_nil, List.getD_cons_zero, List.getD_cons_succ, lsW, fitX, Nat.reduceLT, Int.cast_ofNat_Int]
  · simp only [↓vck_skip, ↓vck_ret, ↓vck_exit, ↓vck_region, ↓vck_nilq, ↓nilTo_to, nilG_d, nilG_r, ↓vck_seq, ↓vck_cond, ↓vck_block, ↓vck_loop, ↓vckTo_to, ↓thenK_n, ↓thenK_x, ↓thenK_r, ↓blockK_n, ↓blockK_x, ↓blockK_o, ↓blockK_r, ↓regK_to, ↓retK_r, ↓retK_n, ↓loopV_n, ↓loopV_x, ↓loopV_r, ↓famK_n, ↓famK_x, ↓famK_r, ↓boolK_true, ↓boolK_false, ↓boolK_not, ↓boolK_dec, ↓boolK_and, nf_mk, RGk_end_f, RGk_end_t, RGk_op, RGk_guard, opK_to, evN, evCallN, grow_mk, feet_f, feet_t, foot_mk, stepK_mk, stepK_v, stepK_no, guardG_t, guardG_f, guardG_no, condG_b, evT, Opd.ev, get_hit, get_next, app_to, app_no, app_up, app_skip, app_skipn, know_mk, knowO_t, knowO_c, envFrom, reserve, keeps, LOp.isNew, State.prune, cellsQ, cellsT, AV.leaf, Heap.at, evLoad_ptr, evLoad_dptr, loadO_vec, loadO_dvec1, stepK_load_map, idx_I, idx_W, rowW, set_rowW, app_rowW, app_rowW0, rep_rowW0, rowB, set_rowB, rep_rowB, rowN, lens_W, lensA_W, scal_rowW, default_W, w_or, w_and, w_andNot, w_and1, w_shl, w_shl1, w_shr, w_sub1, w_neg, w_add, w_bit, w_eq0, w_eq1, w_eq, Bool.decide_eq_true, idx_Rat, idx_Loc, idx_Act, idx_Step, idx_Stamp, stepK_idx_ref, evStore_ptr, storeO_vec, stepK_store_map1, loadDT_f, rowI, RatG.row, LocG.row, ActG.row, StepG.row, StampG.row, ActG.av, ActG.eta, RatG.eta, LocG.eta, beq_true, beq_false, loadDT_t, set_rowI, app_rowI, rep_rowI, set_rowRat, app_rowRat, rep_rowRat, set_rowLoc, app_rowLoc, app_rowAct, app_rowStep, List.length_set, List.length_replicate, toNat_cast, Int.reduceToNat, evLen, evAppend, srcOf, Src.all, Src.len, Src.leaf, joinV, drows_rep1, drows_rep2, drows_rep3, drows_rep4, drows_rep5, drows_rep6, drows_rep7, drows_rep8, mkVec, drows, evMk, List.length_map, take_mapF, drop_mapF, List.take_length, List.take_left, List.length_append, Nat.le_add_right, ite_self, List.take_of_length_le, evSlice, intOr, intOpd, Option.isSome_none, Option.isSome_some, Nat.sub_zero, loadQ, loadT, evBin, evUn, evIdxArr_d, evIdxArr_p, binT, binQ, chk, apartF, List.contains_cons, List.contains_nil, Bool.or_false, Bool.false_or, Bool.and_self, resQ, resV, resT, pickV, evCallT, evCall, fnOf, viewsT, isD, HO.drow, viewT, evInt2, evEq, eqV, eqK, eqC1, buildQ, buildT, buildRQ, buildRT, lens_I, lensA_I, lens_Rat, lensA_Rat, lens_Loc, lensA_Loc, lens_Act, lensA_Act, lens_Step, lensA_Step, lens_Stamp, lensA_Stamp, List.mem_cons, List.not_mem_nil, or_false, forall_eq, putRow, dcells, get_nil, RetS, RetF, RetD, AV.frz, AV.frzL, AV.freshP, AV.freshL, DV.less, scal_int, scal_bool, scal_nil, scal_rowI, scal_rowRat, scal_rowStep, Option.some.injEq, AV.tup.injEq, AV.agg.injEq, List.cons.injEq, DV.list.injEq, List.isEmpty_nil, Nat.le_refl, AV.d.injEq, DV.int.injEq, DV.bool.injEq, ↓reduceIte, Nat.reduceEqDiff, Nat.reduceAdd, Nat.reduceBEq, List.length_cons, List.length_nil, List.replicate_succ, List.replicate_zero, List.nil_append, List.cons_append, List.append_nil, List.foldl_cons, List.foldl_nil, List.map_cons, List.map_nil, List.all_cons, List.all_nil, List.set_cons_zero, List.set_cons_succ, List.getD_cons_zero, List.getD_cons_succ, List.drop_zero, List.drop_succ_cons, List.take_succ_cons, List.take_zero, List.flatten_cons, List.flatten_nil, Bool.true_and, Bool.and_true, Bool.not_true, Bool.not_false, true_and, and_true, true_or, or_true, Option.bind_some, Option.map_some, decide_true, decide_false, beq_self_eq_true, true_implies, false_implies, implies_true, not_true_eq_false, not_false_eq_true, and_self, Bool.and_false, Bool.false_and, Nat.reduceLT, Nat.reduceLeDiff, List.reverse_cons, List.reverse_nil, Nat.zero_add, Nat.add_zero, Bool.false_eq_true, List.getElem?_cons_zero, Nat.reduceMul, Nat.mul_one, F1, G1, F2, G2, at_fit, at_trim, XG.up, XG.rel, lsX, Nat.reduceLT, Int.cast_ofNat_Int, Int.reduceLT, Int.reduceLE, Int.reduceAdd, Int.reduceToNat, w64_1, w64_2, w64_3, w64_4, w64_5, w64_6, w64_7, w64_8, w64_9, w64_10, w64_11]
    rw [List.length_take, hmin]
    refine ⟨⟨hx.co, hn64⟩, ⟨by rw [trimG_len]; omega, hn64⟩, FamNext.mk [0, 1] 3 (by simp) (by simp) ?_ (by omega) (by omega)⟩
    simp only [State.can, AV.can, AV.canL, HO.can, canRows, idx, get_hit, get_next, Heap.at, Nat.reduceBEq, ↓reduceIte, Nat.reduceEqDiff, Option.getD_some, Option.map_some, List.map_cons, List.map_nil, List.getD_cons_zero, List.getD_cons_succ, lsW, fitX, Nat.reduceLT, Int.cast_ofNat_Int]
  · simp only [↓vck_skip, ↓vck_ret, ↓vck_exit, ↓vck_region, ↓vck_nilq, ↓nilTo_to, nilG_d, nilG_r, ↓vck_seq, ↓vck_cond, ↓vck_block, ↓vck_loop, ↓vckTo_to, ↓thenK_n, ↓thenK_x, ↓thenK_r, ↓blockK_n, ↓blockK_x, ↓blockK_o, ↓blockK_r, ↓regK_to, ↓retK_r, ↓retK_n, ↓loopV_n, ↓loopV_x, ↓loopV_r, ↓famK_n, ↓famK_x, ↓famK_r, ↓boolK_true, ↓boolK_false, ↓boolK_not, ↓boolK_dec, ↓boolK_and, nf_mk, RGk_end_f, RGk_end_t, RGk_op, RGk_guard, opK_to, evN, evCallN, grow_mk, feet_f, feet_t, foot_mk, stepK_mk, stepK_v, stepK_no, guardG_t, guardG_f, guardG_no, condG_b, evT, Opd.ev, get_hit, get_next, app_to, app_no, app_up, app_skip, app_skipn, know_mk, knowO_t, knowO_c, envFrom, reserve, keeps, LOp.isNew, State.prune, cellsQ, cellsT, AV.leaf, Heap.at, evLoad_ptr, evLoad_dptr, loadO_vec, loadO_dvec1, stepK_load_map, idx_I, idx_W, rowW, set_rowW, app_rowW, app_rowW0, rep_rowW0, rowB, set_rowB, rep_rowB, rowN, lens_W, lensA_W, scal_rowW, default_W, w_or, w_and, w_andNot, w_and1, w_shl, w_shl1, w_shr, w_sub1, w_neg, w_add, w_bit, w_eq0, w_eq1, w_eq, Bool.decide_eq_true, idx_Rat, idx_Loc, idx_Act, idx_Step, idx_Stamp, stepK_idx_ref, evStore_ptr, storeO_vec, stepK_store_map1, loadDT_f, rowI, RatG.row, LocG.row, ActG.row, StepG.row, StampG.row, ActG.av, ActG.eta, RatG.eta, LocG.eta, beq_true, beq_false, loadDT_t, set_rowI, app_rowI, rep_rowI, set_rowRat, app_rowRat, rep_rowRat, set_rowLoc, app_rowLoc, app_rowAct, app_rowStep, List.length_set, List.length_replicate, toNat_cast, Int.reduceToNat, evLen, evAppend, srcOf, Src.all, Src.len, Src.leaf, joinV, drows_rep1, drows_rep2, drows_rep3, drows_rep4, drows_rep5, drows_rep6, drows_rep7, drows_rep8, mkVec, drows, evMk, List.length_map, take_mapF, drop_mapF, List.take_length, List.take_left, List.length_append, Nat.le_add_right, ite_self, List.take_of_length_le, evSlice, intOr, intOpd, Option.isSome_none, Option.isSome_some, Nat.sub_zero, loadQ, loadT, evBin, evUn, evIdxArr_d, evIdxArr_p, binT, binQ, chk, apartF, List.contains_cons, List.contains_nil, Bool.or_false, Bool.false_or, Bool.and_self, resQ, resV, resT, pickV, evCallT, evCall, fnOf, viewsT, isD, HO.drow, viewT, evInt2, evEq, eqV, eqK, eqC1, buildQ, buildT, buildRQ, buildRT, lens_I, lensA_I, lens_Rat, lensA_Rat, lens_Loc, lensA_Loc, lens_Act, lensA_Act, lens_Step, lensA_Step, lens_Stamp, lensA_Stamp, List.mem_cons, List.not_mem_nil, or_false, forall_eq, putRow, dcells, get_nil, RetS, RetF, RetD, AV.frz, AV.frzL, AV.freshP, AV.freshL, DV.less, scal_int, scal_bool, scal_nil, scal_rowI, scal_rowRat, scal_rowStep, Option.some.injEq, AV.tup.injEq, AV.agg.injEq, List.cons.injEq, DV.list.injEq, List.isEmpty_nil, Nat.le_refl, AV.d.injEq, DV.int.injEq, DV.bool.injEq, ↓reduceIte, Nat.reduceEqDiff, Nat.reduceAdd, Nat.reduceBEq, List.length_cons, List.length_nil, List.replicate_succ, List.replicate_zero, List.nil_append, List.cons_append, List.append_nil, List.foldl_cons, List.foldl_nil, List.map_cons, List.map_nil, List.all_cons, List.all_nil, List.set_cons_zero, List.set_cons_succ, List.getD_cons_zero, List.getD_cons_succ, List.drop_zero, List.drop_succ_cons, List.take_succ_cons, List.take_zero, List.flatten_cons, List.flatten_nil, Bool.true_and, Bool.and_true, Bool.not_true, Bool.not_false, true_and, and_true, true_or, or_true, Option.bind_some, Option.map_some, decide_true, decide_false, beq_self_eq_true, true_implies, false_implies, implies_true, not_true_eq_false, not_false_eq_true, and_self, Bool.and_false, Bool.false_and, Nat.reduceLT, Nat.reduceLeDiff, List.reverse_cons, List.reverse_nil, Nat.zero_add, Nat.add_zero, Bool.false_eq_true, List.getElem?_cons_zero, Nat.reduceMul, Nat.mul_one, F1, G1, F2, G2, at_fit, at_trim, XG.up, XG.rel, lsX, Nat.reduceLT, Int.cast_ofNat_Int, Int.reduceLT, Int.reduceLE, Int.reduceAdd, Int.reduceToNat, w64_1, w64_2, w64_3, w64_4, w64_5, w64_6, w64_7, w64_8, w64_9, w64_10, w64_11]
    rw [List.length_take, hmin]
    refine ⟨⟨hx.fr, hn64⟩, ⟨by rw [trimG_len]; omega, hn64⟩, FamNext.mk [0, 1] 4 (by simp) (by simp) ?_ (by omega) (by omega)⟩
    simp only [State.can, AV.can, AV.canL, HO.can, canRows, idx, get_hit, get_next, Heap.at, Nat.reduceBEq, ↓reduceIte, Nat.reduceEqDiff, Option.getD_some, Option.map_some, List.map_cons, List.map_nil, List.getD_cons_zero, List.getD_cons_succ, lsW, fitX, Nat.reduceLT, Int.cast_ofNat_Int]
  · simp only [↓vck_skip, ↓vck_ret, ↓vck_exit, ↓vck_region, ↓vck_nilq, ↓nilTo_to, nilG_d, nilG_r, ↓vck_seq, ↓vck_cond, ↓vck_block, ↓vck_loop, ↓vckTo_to, ↓thenK_n, ↓thenK_x, ↓thenK_r, ↓blockK_n, ↓blockK_x, ↓blockK_o, ↓blockK_r, ↓regK_to, ↓retK_r, ↓retK_n, ↓loopV_n, ↓loopV_x, ↓loopV_r, ↓famK_n, ↓famK_x, ↓famK_r, ↓boolK_true, ↓boolK_false, ↓boolK_not, ↓boolK_dec, ↓boolK_and, nf_mk, RGk_end_f, RGk_end_t, RGk_op, RGk_guard, opK_to, evN, evCallN, grow_mk, feet_f, feet_t, foot_mk, stepK_mk, stepK_v, stepK_no, guardG_t, guardG_f, guardG_no, condG_b, evT, Opd.ev, get_hit, get_next, app_to, app_no, app_up, app_skip, app_skipn, know_mk, knowO_t, knowO_c, envFrom, reserve, keeps, LOp.isNew, State.prune, cellsQ, cellsT, AV.leaf, Heap.at, evLoad_ptr, evLoad_dptr, loadO_vec, loadO_dvec1, stepK_load_map, idx_I, idx_W, rowW, set_rowW, app_rowW, app_rowW0, rep_rowW0, rowB, set_rowB, rep_rowB, rowN, lens_W, lensA_W, scal_rowW, default_W, w_or, w_and, w_andNot, w_and1, w_shl, w_shl1, w_shr, w_sub1, w_neg, w_add, w_bit, w_eq0, w_eq1, w_eq, Bool.decide_eq_true, idx_Rat, idx_Loc, idx_Act, idx_Step, idx_Stamp, stepK_idx_ref, evStore_ptr, storeO_vec, stepK_store_map1, loadDT_f, rowI, RatG.row, LocG.row, ActG.row, StepG.row, StampG.row, ActG.av, ActG.eta, RatG.eta, LocG.eta, beq_true, beq_false, loadDT_t, set_rowI, app_rowI, rep_rowI, set_rowRat, app_rowRat, rep_rowRat, set_rowLoc, app_rowLoc, app_rowAct, app_rowStep, List.length_set, List.length_replicate, toNat_cast, Int.reduceToNat, evLen, evAppend, srcOf, Src.all, Src.len, Src.leaf, joinV, drows_rep1, drows_rep2, drows_rep3, drows_rep4, drows_rep5, drows_rep6, drows_rep7, drows_rep8, mkVec, drows, evMk, List.length_map, take_mapF, drop_mapF, List.take_length, List.take_left, List.length_append, Nat.le_add_right, ite_self, List.take_of_length_le, evSlice, intOr, intOpd, Option.isSome_none, Option.isSome_some, Nat.sub_zero, loadQ, loadT, evBin, evUn, evIdxArr_d, evIdxArr_p, binT, binQ, chk, apartF, List.contains_cons, List.contains_nil, Bool.or_false, Bool.false_or, Bool.and_self, resQ, resV, resT, pickV, evCallT, evCall, fnOf, viewsT, isD, HO.drow, viewT, evInt2, evEq, eqV, eqK, eqC1, buildQ, buildT, buildRQ, buildRT, lens_I, lensA_I, lens_Rat, lensA_Rat, lens_Loc, lensA_Loc, lens_Act, lensA_Act, lens_Step, lensA_Step, lens_Stamp, lensA_Stamp, List.mem_cons, List.not_mem_nil, or_false, forall_eq, putRow, dcells, get_nil, RetS, RetF, RetD, AV.frz, AV.frzL, AV.freshP, AV.freshL, DV.less, scal_int, scal_bool, scal_nil, scal_rowI, scal_rowRat, scal_rowStep, Option.some.injEq, AV.tup.injEq, AV.agg.injEq, List.cons.injEq, DV.list.injEq, List.isEmpty_nil, Nat.le_refl, AV.d.injEq, DV.int.injEq, DV.bool.injEq, ↓reduceIte, Nat.reduceEqDiff, Nat.reduceAdd, Nat.reduceBEq, List.length_cons, List.length_nil, List.replicate_succ, List.replicate_zero, List.nil_append, List.cons_append, List.append_nil, List.foldl_cons, List.foldl_nil, List.map_cons, List.map_nil, List.all_cons, List.all_nil, List.set_cons_zero, List.set_cons_succ, List.getD_cons_zero, List.getD_cons_succ, List.drop_zero, List.drop_succ_cons, List.take_succ_cons, List.take_zero, List.flatten_cons, List.flatten_nil, Bool.true_and, Bool.and_true, Bool.not_true, Bool.not_false, true_and, and_true, true_or, or_true, Option.bind_some, Option.map_some, decide_true, decide_false, beq_self_eq_true, true_implies, false_implies, implies_true, not_true_eq_false, not_false_eq_true, and_self, Bool.and_false, Bool.false_and, Nat.reduceLT, Nat.reduceLeDiff, List.reverse_cons, List.reverse_nil, Nat.zero_add, Nat.add_zero, Bool.false_eq_true, List.getElem?_cons_zero, Nat.reduceMul, Nat.mul_one, F1, G1, F2, G2, at_fit, at_trim, XG.up, XG.rel, lsX, Nat.reduceLT, Int.cast_ofNat_Int, Int.reduceLT, Int.reduceLE, Int.reduceAdd, Int.reduceToNat, w64_1, w64_2, w64_3, w64_4, w64_5, w64_6, w64_7, w64_8, w64_9, w64_10, w64_11]
    rw [List.length_take, hmin]
    refine ⟨⟨hx.addr, hn64⟩, ⟨by rw [trimG_len]; omega, hn64⟩, FamNext.mk [0, 1] 5 (by simp) (by simp) ?_ (by omega) (by omega)⟩
    simp only [State.can, AV.can, AV.canL, HO.can, canRows, idx, get_hit, get_next, Heap.at, Nat.reduceBEq, ↓reduceIte, Nat.reduceEqDiff, Option.getD_some, Option.map_some, List.map_cons, List.map_nil, List.getD_cons_zero, List.getD_cons_succ, lsW, fitX, Nat.reduceLT, Int.cast_ofNat_Int]
  · simp only [↓vck_skip, ↓vck_ret, ↓vck_exit, ↓vck_region, ↓vck_nilq, ↓nilTo_to, nilG_d, nilG_r, ↓vck_seq, ↓vck_cond, ↓vck_block, ↓vck_loop, ↓vckTo_to, ↓thenK_n, ↓thenK_x, ↓thenK_r, ↓blockK_n, ↓blockK_x, ↓blockK_o, ↓blockK_r, ↓regK_to, ↓retK_r, ↓retK_n, ↓loopV_n, ↓loopV_x, ↓loopV_r, ↓famK_n, ↓famK_x, ↓famK_r, ↓boolK_true, ↓boolK_false, ↓boolK_not, ↓boolK_dec, ↓boolK_and, nf_mk, RGk_end_f, RGk_end_t, RGk_op, RGk_guard, opK_to, evN, evCallN, grow_mk, feet_f, feet_t, foot_mk, stepK_mk, stepK_v, stepK_no, guardG_t, guardG_f, guardG_no, condG_b, evT, Opd.ev, get_hit, get_next, app_to, app_no, app_up, app_skip, app_skipn, know_mk, knowO_t, knowO_c, envFrom, reserve, keeps, LOp.isNew, State.prune, cellsQ, cellsT, AV.leaf, Heap.at, evLoad_ptr, evLoad_dptr, loadO_vec, loadO_dvec1, stepK_load_map, idx_I, idx_W, rowW, set_rowW, app_rowW, app_rowW0, rep_rowW0, rowB, set_rowB, rep_rowB, rowN, lens_W, lensA_W, scal_rowW, default_W, w_or, w_and, w_andNot, w_and1, w_shl, w_shl1, w_shr, w_sub1, w_neg, w_add, w_bit, w_eq0, w_eq1, w_eq, Bool.decide_eq_true, idx_Rat, idx_Loc, idx_Act, idx_Step, idx_Stamp, stepK_idx_ref, evStore_ptr, storeO_vec, stepK_store_map1, loadDT_f, rowI, RatG.row, LocG.row, ActG.row, StepG.row, StampG.row, ActG.av, ActG.eta, RatG.eta, LocG.eta, beq_true, beq_false, loadDT_t, set_rowI, app_rowI, rep_rowI, set_rowRat, app_rowRat, rep_rowRat, set_rowLoc, app_rowLoc, app_rowAct, app_rowStep, List.length_set, List.length_replicate, toNat_cast, Int.reduceToNat, evLen, evAppend, srcOf, Src.all, Src.len, Src.leaf, joinV, drows_rep1, drows_rep2, drows_rep3, drows_rep4, drows_rep5, drows_rep6, drows_rep7, drows_rep8, mkVec, drows, evMk, List.length_map, take_mapF, drop_mapF, List.take_length, List.take_left, List.length_append, Nat.le_add_right, ite_self, List.take_of_length_le, evSlice, intOr, intOpd, Option.isSome_none, Option.isSome_some, Nat.sub_zero, loadQ, loadT, evBin, evUn, evIdxArr_d, evIdxArr_p, binT, binQ, chk, apartF, List.contains_cons, List.contains_nil, Bool.or_false, Bool.false_or, Bool.and_self, resQ, resV, resT, pickV, evCallT, evCall, fnOf, viewsT, isD, HO.drow, viewT, evInt2, evEq, eqV, eqK, eqC1, buildQ, buildT, buildRQ, buildRT, lens_I, lensA_I, lens_Rat, lensA_Rat, lens_Loc, lensA_Loc, lens_Act, lensA_Act, lens_Step, lensA_Step, lens_Stamp, lensA_Stamp, List.mem_cons, List.not_mem_nil, or_false, forall_eq, putRow, dcells, get_nil, RetS, RetF, RetD, AV.frz, AV.frzL, AV.freshP, AV.freshL, DV.less, scal_int, scal_bool, scal_nil, scal_rowI, scal_rowRat, scal_rowStep, Option.some.injEq, AV.tup.injEq, AV.agg.injEq, List.cons.injEq, DV.list.injEq, List.isEmpty_nil, Nat.le_refl, AV.d.injEq, DV.int.injEq, DV.bool.injEq, ↓reduceIte, Nat.reduceEqDiff, Nat.reduceAdd, Nat.reduceBEq, List.length_cons, List.length_nil, List.replicate_succ, List.replicate_zero, List.nil_append, List.cons_append, List.append_nil, List.foldl_cons, List.foldl_nil, List.map_cons, List.map_nil, List.all_cons, List.all_nil, List.set_cons_zero, List.set_cons_succ, List.getD_cons_zero, List.getD_cons_succ, List.drop_zero, List.drop_succ_cons, List.take_succ_cons, List.take_zero, List.flatten_cons, List.flatten_nil, Bool.true_and, Bool.and_true, Bool.not_true, Bool.not_false, true_and, and_true, true_or, or_true, Option.bind_some, Option.map_some, decide_true, decide_false, beq_self_eq_true, true_implies, false_implies, implies_true, not_true_eq_false, not_false_eq_true, and_self, Bool.and_false, Bool.false_and, Nat.reduceLT, Nat.reduceLeDiff, List.reverse_cons, List.reverse_nil, Nat.zero_add, Nat.add_zero, Bool.false_eq_true, List.getElem?_cons_zero, Nat.reduceMul, Nat.mul_one, F1, G1, F2, G2, at_fit, at_trim, XG.up, XG.rel, lsX, Nat.reduceLT, Int.cast_ofNat_Int, Int.reduceLT, Int.reduceLE, Int.reduceAdd, Int.reduceToNat, w64_1, w64_2, w64_3, w64_4, w64_5, w64_6, w64_7, w64_8, w64_9, w64_10, w64_11]
    rw [List.length_take, hmin]
    refine ⟨⟨hx.data, hn64⟩, ⟨by rw [trimG_len]; omega, hn64⟩, FamNext.mk [0, 1] 6 (by simp) (by simp) ?_ (by omega) (by omega)⟩
    simp only [State.can, AV.can, AV.canL, HO.can, canRows, idx, get_hit, get_next, Heap.at, Nat.reduceBEq, ↓reduceIte, Nat.reduceEqDiff, Option.getD_some, Option.map_some, List.map_cons, List.map_nil, List.getD_cons_zero, List.getD_cons_succ, lsW, fitX, Nat.reduceLT, Int.cast_ofNat_Int]
  · simp only [↓vck_skip, ↓vck_ret, ↓vck_exit, ↓vck_region, ↓vck_nilq, ↓nilTo_to, nilG_d, nilG_r, ↓vck_seq, ↓vck_cond, ↓vck_block, ↓vck_loop, ↓vckTo_to, ↓thenK_n, ↓thenK_x, ↓thenK_r, ↓blockK_n, ↓blockK_x, ↓blockK_o, ↓blockK_r, ↓regK_to, ↓retK_r, ↓retK_n, ↓loopV_n, ↓loopV_x, ↓loopV_r, ↓famK_n, ↓famK_x, ↓famK_r, ↓boolK_true, ↓boolK_false, ↓boolK_not, ↓boolK_dec, ↓boolK_and, nf_mk, RGk_end_f, RGk_end_t, RGk_op, RGk_guard, opK_to, evN, evCallN, grow_mk, feet_f, feet_t, foot_mk, stepK_mk, stepK_v, stepK_no, guardG_t, guardG_f, guardG_no, condG_b, evT, Opd.ev, get_hit, get_next, app_to, app_no, app_up, app_skip, app_skipn, know_mk, knowO_t, knowO_c, envFrom, reserve, keeps, LOp.isNew, State.prune, cellsQ, cellsT, AV.leaf, Heap.at, evLoad_ptr, evLoad_dptr, loadO_vec, loadO_dvec1, stepK_load_map, idx_I, idx_W, rowW, set_rowW, app_rowW, app_rowW0, rep_rowW0, rowB, set_rowB, rep_rowB, rowN, lens_W, lensA_W, scal_rowW, default_W, w_or, w_and, w_andNot, w_and1, w_shl, w_shl1, w_shr, w_sub1, w_neg, w_add, w_bit, w_eq0, w_eq1, w_eq, Bool.decide_eq_true, idx_Rat, idx_Loc, idx_Act, idx_Step, idx_Stamp, stepK_idx_ref, evStore_ptr, storeO_vec, stepK_store_map1, loadDT_f, rowI, RatG.row, LocG.row, ActG.row, StepG.row, StampG.row, ActG.av, ActG.eta, RatG.eta, LocG.eta, beq_true, beq_false, loadDT_t, set_rowI, app_rowI, rep_rowI, set_rowRat, app_rowRat, rep_rowRat, set_rowLoc, app_rowLoc, app_rowAct, app_rowStep, List.length_set, List.length_replicate, toNat_cast, Int.reduceToNat, evLen, evAppend, srcOf, Src.all, Src.len, Src.leaf, joinV, drows_rep1, drows_rep2, drows_rep3, drows_rep4, drows_rep5, drows_rep6, drows_rep7, drows_rep8, mkVec, drows, evMk, List.length_map, take_mapF, drop_mapF, List.take_length, List.take_left, List.length_append, Nat.le_add_right, ite_self, List.take_of_length_le, evSlice, intOr, intOpd, Option.isSome_none, Option.isSome_some, Nat.sub_zero, loadQ, loadT, evBin, evUn, evIdxArr_d, evIdxArr_p, binT, binQ, chk, apartF, List.contains_cons, List.contains_nil, Bool.or_false, Bool.false_or, Bool.and_self, resQ, resV, resT, pickV, evCallT, evCall, fnOf, viewsT, isD, HO.drow, viewT, evInt2, evEq, eqV, eqK, eqC1, buildQ, buildT, buildRQ, buildRT, lens_I, lensA_I, lens_Rat, lensA_Rat, lens_Loc, lensA_Loc, lens_Act, lensA_Act, lens_Step, lensA_Step, lens_Stamp, lensA_Stamp, List.mem_cons, List.not_mem_nil, or_false, forall_eq, putRow, dcells, get_nil, RetS, RetF, RetD, AV.frz, AV.frzL, AV.freshP, AV.freshL, DV.less, scal_int, scal_bool, scal_nil, scal_rowI, scal_rowRat, scal_rowStep, Option.some.injEq, AV.tup.injEq, AV.agg.injEq, List.cons.injEq, DV.list.injEq, List.isEmpty_nil, Nat.le_refl, AV.d.injEq, DV.int.injEq, DV.bool.injEq, ↓reduceIte, Nat.reduceEqDiff, Nat.reduceAdd, Nat.reduceBEq, List.length_cons, List.length_nil, List.replicate_succ, List.replicate_zero, List.nil_append, List.cons_append, List.append_nil, List.foldl_cons, List.foldl_nil, List.map_cons, List.map_nil, List.all_cons, List.all_nil, List.set_cons_zero, List.set_cons_succ, List.getD_cons_zero, List.getD_cons_succ, List.drop_zero, List.drop_succ_cons, List.take_succ_cons, List.take_zero, List.flatten_cons, List.flatten_nil, Bool.true_and, Bool.and_true, Bool.not_true, Bool.not_false, true_and, and_true, true_or, or_true, Option.bind_some, Option.map_some, decide_true, decide_false, beq_self_eq_true, true_implies, false_implies, implies_true, not_true_eq_false, not_false_eq_true, and_self, Bool.and_false, Bool.false_and, Nat.reduceLT, Nat.reduceLeDiff, List.reverse_cons, List.reverse_nil, Nat.zero_add, Nat.add_zero, Bool.false_eq_true, List.getElem?_cons_zero, Nat.reduceMul, Nat.mul_one, F1, G1, F2, G2, at_fit, at_trim, XG.up, XG.rel, lsX, Nat.reduceLT, Int.cast_ofNat_Int, Int.reduceLT, Int.reduceLE, Int.reduceAdd, Int.reduceToNat, w64_1, w64_2, w64_3, w64_4, w64_5, w64_6, w64_7, w64_8, w64_9, w64_10, w64_11]
    rw [List.length_take, hmin]
    refine ⟨⟨hx.ctrl, hn64⟩, ⟨by rw [trimG_len]; omega, hn64⟩, FamNext.mk [0, 1] 7 (by simp) (by simp) ?_ (by omega) (by omega)⟩
    simp only [State.can, AV.can, AV.canL, HO.can, canRows, idx, get_hit, get_next, Heap.at, Nat.reduceBEq, ↓reduceIte, Nat.reduceEqDiff, Option.getD_some, Option.map_some, List.map_cons, List.map_nil, List.getD_cons_zero, List.getD_cons_succ, lsW, fitX, Nat.reduceLT, Int.cast_ofNat_Int]
  · simp only [↓vck_skip, ↓vck_ret, ↓vck_exit, ↓vck_region, ↓vck_nilq, ↓nilTo_to, nilG_d, nilG_r, ↓vck_seq, ↓vck_cond, ↓vck_block, ↓vck_loop, ↓vckTo_to, ↓thenK_n, ↓thenK_x, ↓thenK_r, ↓blockK_n, ↓blockK_x, ↓blockK_o, ↓blockK_r, ↓regK_to, ↓retK_r, ↓retK_n, ↓loopV_n, ↓loopV_x, ↓loopV_r, ↓famK_n, ↓famK_x, ↓famK_r, ↓boolK_true, ↓boolK_false, ↓boolK_not, ↓boolK_dec, ↓boolK_and, nf_mk, RGk_end_f, RGk_end_t, RGk_op, RGk_guard, opK_to, evN, evCallN, grow_mk, feet_f, feet_t, foot_mk, stepK_mk, stepK_v, stepK_no, guardG_t, guardG_f, guardG_no, condG_b, evT, Opd.ev, get_hit, get_next, app_to, app_no, app_up, app_skip, app_skipn, know_mk, knowO_t, knowO_c, envFrom, reserve, keeps, LOp.isNew, State.prune, cellsQ, cellsT, AV.leaf, Heap.at, evLoad_ptr, evLoad_dptr, loadO_vec, loadO_dvec1, stepK_load_map, idx_I, idx_W, rowW, set_rowW, app_rowW, app_rowW0, rep_rowW0, rowB, set_rowB, rep_rowB, rowN, lens_W, lensA_W, scal_rowW, default_W, w_or, w_and, w_andNot, w_and1, w_shl, w_shl1, w_shr, w_sub1, w_neg, w_add, w_bit, w_eq0, w_eq1, w_eq, Bool.decide_eq_true, idx_Rat, idx_Loc, idx_Act, idx_Step, idx_Stamp, stepK_idx_ref, evStore_ptr, storeO_vec, stepK_store_map1, loadDT_f, rowI, RatG.row, LocG.row, ActG.row, StepG.row, StampG.row, ActG.av, ActG.eta, RatG.eta, LocG.eta, beq_true, beq_false, loadDT_t, set_rowI, app_rowI, rep_rowI, set_rowRat, app_rowRat, rep_rowRat, set_rowLoc, app_rowLoc, app_rowAct, app_rowStep, List.length_set, List.length_replicate, toNat_cast, Int.reduceToNat, evLen, evAppend, srcOf, Src.all, Src.len, Src.leaf, joinV, drows_rep1, drows_rep2, drows_rep3, drows_rep4, drows_rep5, drows_rep6, drows_rep7, drows_rep8, mkVec, drows, evMk, List.length_map, take_mapF, drop_mapF, List.take_length, List.take_left, List.length_append, Nat.le_add_right, ite_self, List.take_of_length_le, evSlice, intOr, intOpd, Option.isSome_none, Option.isSome_some, Nat.sub_zero, loadQ, loadT, evBin, evUn, evIdxArr_d, evIdxArr_p, binT, binQ, chk, apartF, List.contains_cons, List.contains_nil, Bool.or_false, Bool.false_or, Bool.and_self, resQ, resV, resT, pickV, evCallT, evCall, fnOf, viewsT, isD, HO.drow, viewT, evInt2, evEq, eqV, eqK, eqC1, buildQ, buildT, buildRQ, buildRT, lens_I, lensA_I, lens_Rat, lensA_Rat, lens_Loc, lensA_Loc, lens_Act, lensA_Act, lens_Step, lensA_Step, lens_Stamp, lensA_Stamp, List.mem_cons, List.not_mem_nil, or_false, forall_eq, putRow, dcells, get_nil, RetS, RetF, RetD, AV.frz, AV.frzL, AV.freshP, AV.freshL, DV.less, scal_int, scal_bool, scal_nil, scal_rowI, scal_rowRat, scal_rowStep, Option.some.injEq, AV.tup.injEq, AV.agg.injEq, List.cons.injEq, DV.list.injEq, List.isEmpty_nil, Nat.le_refl, AV.d.injEq, DV.int.injEq, DV.bool.injEq, ↓reduceIte, Nat.reduceEqDiff, Nat.reduceAdd, Nat.reduceBEq, List.length_cons, List.length_nil, List.replicate_succ, List.replicate_zero, List.nil_append, List.cons_append, List.append_nil, List.foldl_cons, List.foldl_nil, List.map_cons, List.map_nil, List.all_cons, List.all_nil, List.set_cons_zero, List.set_cons_succ, List.getD_cons_zero, List.getD_cons_succ, List.drop_zero, List.drop_succ_cons, List.take_succ_cons, List.take_zero, List.flatten_cons, List.flatten_nil, Bool.true_and, Bool.and_true, Bool.not_true, Bool.not_false, true_and, and_true, true_or, or_true, Option.bind_some, Option.map_some, decide_true, decide_false, beq_self_eq_true, true_implies, false_implies, implies_true, not_true_eq_false, not_false_eq_true, and_self, Bool.and_false, Bool.false_and, Nat.reduceLT, Nat.reduceLeDiff, List.reverse_cons, List.reverse_nil, Nat.zero_add, Nat.add_zero, Bool.false_eq_true, List.getElem?_cons_zero, Nat.reduceMul, Nat.mul_one, F1, G1, F2, G2, at_fit, at_trim, XG.up, XG.rel, lsX, Nat.reduceLT, Int.cast_ofNat_Int, Int.reduceLT, Int.reduceLE, Int.reduceAdd, Int.reduceToNat, w64_1, w64_2, w64_3, w64_4, w64_5, w64_6, w64_7, w64_8, w64_9, w64_10, w64_11]
    rw [List.length_take, hmin]
    refine ⟨⟨hx.fenced, hn64⟩, ⟨by rw [trimG_len]; omega, hn64⟩, FamNext.mk [0, 1] 8 (by simp) (by simp) ?_ (by omega) (by omega)⟩
    simp only [State.can, AV.can, AV.canL, HO.can, canRows, idx, get_hit, get_next, Heap.at, Nat.reduceBEq, ↓reduceIte, Nat.reduceEqDiff, Option.getD_some, Option.map_some, List.map_cons, List.map_nil, List.getD_cons_zero, List.getD_cons_succ, lsW, fitX, Nat.reduceLT, Int.cast_ofNat_Int]
  · simp only [↓vck_skip, ↓vck_ret, ↓vck_exit, ↓vck_region, ↓vck_nilq, ↓nilTo_to, nilG_d, nilG_r, ↓vck_seq, ↓vck_cond, ↓vck_block, ↓vck_loop, ↓vckTo_to, ↓thenK_n, ↓thenK_x, ↓thenK_r, ↓blockK_n, ↓blockK_x, ↓blockK_o, ↓blockK_r, ↓regK_to, ↓retK_r, ↓retK_n, ↓loopV_n, ↓loopV_x, ↓loopV_r, ↓famK_n, ↓famK_x, ↓famK_r, ↓boolK_true, ↓boolK_false, ↓boolK_not, ↓boolK_dec, ↓boolK_and, nf_mk, RGk_end_f, RGk_end_t, RGk_op, RGk_guard, opK_to, evN, evCallN, grow_mk, feet_f, feet_t, foot_mk, stepK_mk, stepK_v, stepK_no, guardG_t, guardG_f, guardG_no, condG_b, evT, Opd.ev, get_hit, get_next, app_to, app_no, app_up, app_skip, app_skipn, know_mk, knowO_t, knowO_c, envFrom, reserve, keeps, LOp.isNew, State.prune, cellsQ, cellsT, AV.leaf, Heap.at, evLoad_ptr, evLoad_dptr, loadO_vec, loadO_dvec1, stepK_load_map, idx_I, idx_W, rowW, set_rowW, app_rowW, app_rowW0, rep_rowW0, rowB, set_rowB, rep_rowB, rowN, lens_W, lensA_W, scal_rowW, default_W, w_or, w_and, w_andNot, w_and1, w_shl, w_shl1, w_shr, w_sub1, w_neg, w_add, w_bit, w_eq0, w_eq1, w_eq, Bool.decide_eq_true, idx_Rat, idx_Loc, idx_Act, idx_Step, idx_Stamp, stepK_idx_ref, evStore_ptr, storeO_vec, stepK_store_map1, loadDT_f, rowI, RatG.row, LocG.row, ActG.row, StepG.row, StampG.row, ActG.av, ActG.eta, RatG.eta, LocG.eta, beq_true, beq_false, loadDT_t, set_rowI, app_rowI, rep_rowI, set_rowRat, app_rowRat, rep_rowRat, set_rowLoc, app_rowLoc, app_rowAct, app_rowStep, List.length_set, List.length_replicate, toNat_cast, Int.reduceToNat, evLen, evAppend, srcOf, Src.all, Src.len, Src.leaf, joinV, drows_rep1, drows_rep2, drows_rep3, drows_rep4, drows_rep5, drows_rep6, drows_rep7, drows_rep8, mkVec, drows, evMk, List.length_map, take_mapF, drop_mapF, List.take_length, List.take_left, List.length_append, Nat.le_add_right, ite_self, List.take_of_length_le, evSlice, intOr, intOpd, Option.isSome_none, Option.isSome_some, Nat.sub_zero, loadQ, loadT, evBin, evUn, evIdxArr_d, evIdxArr_p, binT, binQ, chk, apartF, List.contains_cons, List.contains_nil, Bool.or_false, Bool.false_or, Bool.and_self, resQ, resV, resT, pickV, evCallT, evCall, fnOf, viewsT, isD, HO.drow, viewT, evInt2, evEq, eqV, eqK, eqC1, buildQ, buildT, buildRQ, buildRT, lens_I, lensA_I, lens_Rat, lensA_Rat, lens_Loc, lensA_Loc, lens_Act, lensA_Act, lens_Step, lensA_Step, lens_Stamp, lensA_Stamp, List.mem_cons, List.not_mem_nil, or_false, forall_eq, putRow, dcells, get_nil, RetS, RetF, RetD, AV.frz, AV.frzL, AV.freshP, AV.freshL, DV.less, scal_int, scal_bool, scal_nil, scal_rowI, scal_rowRat, scal_rowStep, Option.some.injEq, AV.tup.injEq, AV.agg.injEq, List.cons.injEq, DV.list.injEq, List.isEmpty_nil, Nat.le_refl, AV.d.injEq, DV.int.injEq, DV.bool.injEq, ↓reduceIte, Nat.reduceEqDiff, Nat.reduceAdd, Nat.reduceBEq, List.length_cons, List.length_nil, List.replicate_succ, List.replicate_zero, List.nil_append, List.cons_append, List.append_nil, List.foldl_cons, List.foldl_nil, List.map_cons, List.map_nil, List.all_cons, List.all_nil, List.set_cons_zero, List.set_cons_succ, List.getD_cons_zero, List.getD_cons_succ, List.drop_zero, List.drop_succ_cons, List.take_succ_cons, List.take_zero, List.flatten_cons, List.flatten_nil, Bool.true_and, Bool.and_true, Bool.not_true, Bool.not_false, true_and, and_true, true_or, or_true, Option.bind_some, Option.map_some, decide_true, decide_false, beq_self_eq_true, true_implies, false_implies, implies_true, not_true_eq_false, not_false_eq_true, and_self, Bool.and_false, Bool.false_and, Nat.reduceLT, Nat.reduceLeDiff, List.reverse_cons, List.reverse_nil, Nat.zero_add, Nat.add_zero, Bool.false_eq_true, List.getElem?_cons_zero, Nat.reduceMul, Nat.mul_one, F1, G1, F2, G2, at_fit, at_trim, XG.up, XG.rel, lsX, Nat.reduceLT, Int.cast_ofNat_Int, Int.reduceLT, Int.reduceLE, Int.reduceAdd, Int.reduceToNat, w64_1, w64_2, w64_3, w64_4, w64_5, w64_6, w64_7, w64_8, w64_9, w64_10, w64_11]
    rw [List.length_take, hmin]
    refine ⟨⟨hx.sync, hn64⟩, ⟨by rw [trimG_len]; omega, hn64⟩, FamNext.mk [0, 1] 9 (by simp) (by simp) ?_ (by omega) (by omega)⟩
    simp only [State.can, AV.can, AV.canL, HO.can, canRows, idx, get_hit, get_next, Heap.at, Nat.reduceBEq, ↓reduceIte, Nat.reduceEqDiff, Option.getD_some, Option.map_some, List.map_cons, List.map_nil, List.getD_cons_zero, List.getD_cons_succ, lsW, fitX, Nat.reduceLT, Int.cast_ofNat_Int]
  · simp only [↓vck_skip, ↓vck_ret, ↓vck_exit, ↓vck_region, ↓vck_nilq, ↓nilTo_to, nilG_d, nilG_r, ↓vck_seq, ↓vck_cond, ↓vck_block, ↓vck_loop, ↓vckTo_to, ↓thenK_n, ↓thenK_x, ↓thenK_r, ↓blockK_n, ↓blockK_x, ↓blockK_o, ↓blockK_r, ↓regK_to, ↓retK_r, ↓retK_n, ↓loopV_n, ↓loopV_x, ↓loopV_r, ↓famK_n, ↓famK_x, ↓famK_r, ↓boolK_true, ↓boolK_false, ↓boolK_not, ↓boolK_dec, ↓boolK_and, nf_mk, RGk_end_f, RGk_end_t, RGk_op, RGk_guard, opK_to, evN, evCallN, grow_mk, feet_f, feet_t, foot_mk, stepK_mk, stepK_v, stepK_no, guardG_t, guardG_f, guardG_no, condG_b, evT, Opd.ev, get_hit, get_next, app_to, app_no, app_up, app_skip, app_skipn, know_mk, knowO_t, knowO_c, envFrom, reserve, keeps, LOp.isNew, State.prune, cellsQ, cellsT, AV.leaf, Heap.at, evLoad_ptr, evLoad_dptr, loadO_vec, loadO_dvec1, stepK_load_map, idx_I, idx_W, rowW, set_rowW, app_rowW, app_rowW0, rep_rowW0, rowB, set_rowB, rep_rowB, rowN, lens_W, lensA_W, scal_rowW, default_W, w_or, w_and, w_andNot, w_and1, w_shl, w_shl1, w_shr, w_sub1, w_neg, w_add, w_bit, w_eq0, w_eq1, w_eq, Bool.decide_eq_true, idx_Rat, idx_Loc, idx_Act, idx_Step, idx_Stamp, stepK_idx_ref, evStore_ptr, storeO_vec, stepK_store_map1, loadDT_f, rowI, RatG.row, LocG.row, ActG.row, StepG.row, StampG.row, ActG.av, ActG.eta, RatG.eta, LocG.eta, beq_true, beq_false, loadDT_t, set_rowI, app_rowI, rep_rowI, set_rowRat, app_rowRat, rep_rowRat, set_rowLoc, app_rowLoc, app_rowAct, app_rowStep, List.length_set, List.length_replicate, toNat_cast, Int.reduceToNat, evLen, evAppend, srcOf, Src.all, Src.len, Src.leaf, joinV, drows_rep1, drows_rep2, drows_rep3, drows_rep4, drows_rep5, drows_rep6, drows_rep7, drows_rep8, mkVec, drows, evMk, List.length_map, take_mapF, drop_mapF, List.take_length, List.take_left, List.length_append, Nat.le_add_right, ite_self, List.take_of_length_le, evSlice, intOr, intOpd, Option.isSome_none, Option.isSome_some, Nat.sub_zero, loadQ, loadT, evBin, evUn, evIdxArr_d, evIdxArr_p, binT, binQ, chk, apartF, List.contains_cons, List.contains_nil, Bool.or_false, Bool.false_or, Bool.and_self, resQ, resV, resT, pickV, evCallT, evCall, fnOf, viewsT, isD, HO.drow, viewT, evInt2, evEq, eqV, eqK, eqC1, buildQ, buildT, buildRQ, buildRT, lens_I, lensA_I, lens_Rat, lensA_Rat, lens_Loc, lensA_Loc, lens_Act, lensA_Act, lens_Step, lensA_Step, lens_Stamp, lensA_Stamp, List.mem_cons, List.not_mem_nil, or_false, forall_eq, putRow, dcells, get_nil, RetS, RetF, RetD, AV.frz, AV.frzL, AV.freshP, AV.freshL, DV.less, scal_int, scal_bool, scal_nil, scal_rowI, scal_rowRat, scal_rowStep, Option.some.injEq, AV.tup.injEq, AV.agg.injEq, List.cons.injEq, DV.list.injEq, List.isEmpty_nil, Nat.le_refl, AV.d.injEq, DV.int.injEq, DV.bool.injEq, ↓reduceIte, Nat.reduceEqDiff, Nat.reduceAdd, Nat.reduceBEq, List.length_cons, List.length_nil, List.replicate_succ, List.replicate_zero, List.nil_append, List.cons_append, List.append_nil, List.foldl_cons, List.foldl_nil, List.map_cons, List.map_nil, List.all_cons, List.all_nil, List.set_cons_zero, List.set_cons_succ, List.getD_cons_zero, List.getD_cons_succ, List.drop_zero, List.drop_succ_cons, List.take_succ_cons, List.take_zero, List.flatten_cons, List.flatten_nil, Bool.true_and, Bool.and_true, Bool.not_true, Bool.not_false, true_and, and_true, true_or, or_true, Option.bind_some, Option.map_some, decide_true, decide_false, beq_self_eq_true, true_implies, false_implies, implies_true, not_true_eq_false, not_false_eq_true, and_self, Bool.and_false, Bool.false_and, Nat.reduceLT, Nat.reduceLeDiff, List.reverse_cons, List.reverse_nil, Nat.zero_add, Nat.add_zero, Bool.false_eq_true, List.getElem?_cons_zero, Nat.reduceMul, Nat.mul_one, F1, G1, F2, G2, at_fit, at_trim, XG.up, XG.rel, lsX, Nat.reduceLT, Int.cast_ofNat_Int, Int.reduceLT, Int.reduceLE, Int.reduceAdd, Int.reduceToNat, w64_1, w64_2, w64_3, w64_4, w64_5, w64_6, w64_7, w64_8, w64_9, w64_10, w64_11]
    rw [List.length_take, hmin]
    refine ⟨⟨hx.lwsync, hn64⟩, ⟨by rw [trimG_len]; omega, hn64⟩, FamNext.mk [0, 1] 10 (by simp) (by simp) ?_ (by omega) (by omega)⟩
    simp only [State.can, AV.can, AV.canL, HO.can, canRows, idx, get_hit, get_next, Heap.at, Nat.reduceBEq, ↓reduceIte, Nat.reduceEqDiff, Option.getD_some, Option.map_some, List.map_cons, List.map_nil, List.getD_cons_zero, List.getD_cons_succ, lsW, fitX, Nat.reduceLT, Int.cast_ofNat_Int]
  · simp only [↓vck_skip, ↓vck_ret, ↓vck_exit, ↓vck_region, ↓vck_nilq, ↓nilTo_to, nilG_d, nilG_r, ↓vck_seq, ↓vck_cond, ↓vck_block, ↓vck_loop, ↓vckTo_to, ↓thenK_n, ↓thenK_x, ↓thenK_r, ↓blockK_n, ↓blockK_x, ↓blockK_o, ↓blockK_r, ↓regK_to, ↓retK_r, ↓retK_n, ↓loopV_n, ↓loopV_x, ↓loopV_r, ↓famK_n, ↓famK_x, ↓famK_r, ↓boolK_true, ↓boolK_false, ↓boolK_not, ↓boolK_dec, ↓boolK_and, nf_mk, RGk_end_f, RGk_end_t, RGk_op, RGk_guard, opK_to, evN, evCallN, grow_mk, feet_f, feet_t, foot_mk, stepK_mk, stepK_v, stepK_no, guardG_t, guardG_f, guardG_no, condG_b, evT, Opd.ev, get_hit, get_next, app_to, app_no, app_up, app_skip, app_skipn, know_mk, knowO_t, knowO_c, envFrom, reserve, keeps, LOp.isNew, State.prune, cellsQ, cellsT, AV.leaf, Heap.at, evLoad_ptr, evLoad_dptr, loadO_vec, loadO_dvec1, stepK_load_map, idx_I, idx_W, rowW, set_rowW, app_rowW, app_rowW0, rep_rowW0, rowB, set_rowB, rep_rowB, rowN, lens_W, lensA_W, scal_rowW, default_W, w_or, w_and, w_andNot, w_and1, w_shl, w_shl1, w_shr, w_sub1, w_neg, w_add, w_bit, w_eq0, w_eq1, w_eq, Bool.decide_eq_true, idx_Rat, idx_Loc, idx_Act, idx_Step, idx_Stamp, stepK_idx_ref, evStore_ptr, storeO_vec, stepK_store_map1, loadDT_f, rowI, RatG.row, LocG.row, ActG.row, StepG.row, StampG.row, ActG.av, ActG.eta, RatG.eta, LocG.eta, beq_true, beq_false, loadDT_t, set_rowI, app_rowI, rep_rowI, set_rowRat, app_rowRat, rep_rowRat, set_rowLoc, app_rowLoc, app_rowAct, app_rowStep, List.length_set, List.length_replicate, toNat_cast, Int.reduceToNat, evLen, evAppend, srcOf, Src.all, Src.len, Src.leaf, joinV, drows_rep1, drows_rep2, drows_rep3, drows_rep4, drows_rep5, drows_rep6, drows_rep7, drows_rep8, mkVec, drows, evMk, List.length_map, take_mapF, drop_mapF, List.take_length, List.take_left, List.length_append, Nat.le_add_right, ite_self, List.take_of_length_le, evSlice, intOr, intOpd, Option.isSome_none, Option.isSome_some, Nat.sub_zero, loadQ, loadT, evBin, evUn, evIdxArr_d, evIdxArr_p, binT, binQ, chk, apartF, List.contains_cons, List.contains_nil, Bool.or_false, Bool.false_or, Bool.and_self, resQ, resV, resT, pickV, evCallT, evCall, fnOf, viewsT, isD, HO.drow, viewT, evInt2, evEq, eqV, eqK, eqC1, buildQ, buildT, buildRQ, buildRT, lens_I, lensA_I, lens_Rat, lensA_Rat, lens_Loc, lensA_Loc, lens_Act, lensA_Act, lens_Step, lensA_Step, lens_Stamp, lensA_Stamp, List.mem_cons, List.not_mem_nil, or_false, forall_eq, putRow, dcells, get_nil, RetS, RetF, RetD, AV.frz, AV.frzL, AV.freshP, AV.freshL, DV.less, scal_int, scal_bool, scal_nil, scal_rowI, scal_rowRat, scal_rowStep, Option.some.injEq, AV.tup.injEq, AV.agg.injEq, List.cons.injEq, DV.list.injEq, List.isEmpty_nil, Nat.le_refl, AV.d.injEq, DV.int.injEq, DV.bool.injEq, ↓reduceIte, Nat.reduceEqDiff, Nat.reduceAdd, Nat.reduceBEq, List.length_cons, List.length_nil, List.replicate_succ, List.replicate_zero, List.nil_append, List.cons_append, List.append_nil, List.foldl_cons, List.foldl_nil, List.map_cons, List.map_nil, List.all_cons, List.all_nil, List.set_cons_zero, List.set_cons_succ, List.getD_cons_zero, List.getD_cons_succ, List.drop_zero, List.drop_succ_cons, List.take_succ_cons, List.take_zero, List.flatten_cons, List.flatten_nil, Bool.true_and, Bool.and_true, Bool.not_true, Bool.not_false, true_and, and_true, true_or, or_true, Option.bind_some, Option.map_some, decide_true, decide_false, beq_self_eq_true, true_implies, false_implies, implies_true, not_true_eq_false, not_false_eq_true, and_self, Bool.and_false, Bool.false_and, Nat.reduceLT, Nat.reduceLeDiff, List.reverse_cons, List.reverse_nil, Nat.zero_add, Nat.add_zero, Bool.false_eq_true, List.getElem?_cons_zero, Nat.reduceMul, Nat.mul_one, F1, G1, F2, G2, at_fit, at_trim, XG.up, XG.rel, lsX, Nat.reduceLT, Int.cast_ofNat_Int, Int.reduceLT, Int.reduceLE, Int.reduceAdd, Int.reduceToNat, w64_1, w64_2, w64_3, w64_4, w64_5, w64_6, w64_7, w64_8, w64_9, w64_10, w64_11]
    rw [List.length_take, hmin]
    refine ⟨⟨hx.pairs, hn64⟩, ⟨by rw [trimG_len]; omega, hn64⟩, FamNext.mk [0, 1] 11 (by simp) (by simp) ?_ (by omega) (by omega)⟩
    simp only [State.can, AV.can, AV.canL, HO.can, canRows, idx, get_hit, get_next, Heap.at, Nat.reduceBEq, ↓reduceIte, Nat.reduceEqDiff, Option.getD_some, Option.map_some, List.map_cons, List.map_nil, List.getD_cons_zero, List.getD_cons_succ, lsW, fitX, Nat.reduceLT, Int.cast_ofNat_Int]
end Go.Ago

/- Power: the rules that are used until nothing more follows. Conditions: none. -/
set_option maxRecDepth 100000
set_option linter.unusedSimpArgs false
set_option linter.unusedVariables false
namespace Go.Ago

/-! ### Relations of n rows -/
structure Sq (n : Nat) (r : List W) : Prop where
  of ::
  eq : r = mkR n (hasN r)
theorem Sq.len {n : Nat} {r : List W} (h : Sq n r) : r.length = n := by
  rw [h.eq, mkR_len]
theorem Sq.mk {n : Nat} (hn : n ≤ 64) (p : Nat → Nat → Bool) : Sq n (mkR n p) := by
  constructor
  apply mkR_congr
  intro i k hi hk
  rw [hasN_mk hn]; simp [hi, hk]
theorem Sq.ext {n : Nat} {a b : List W} (ha : Sq n a) (hb : Sq n b) (h : ∀ i k, i < n → k < n → hasN a i k = hasN b i k) : a = b := by
  rw [ha.eq, hb.eq]
  exact mkR_congr h
theorem hasN_off64 {r : List W} {i k : Nat} (h : hasN r i k = true) : i < 64 ∧ k < 64 := by
  have := hasN_lt h; have := szR_le r; omega
theorem Sq.lt {n : Nat} {r : List W} (hs : Sq n r) {i k : Nat} (h : hasN r i k = true) : i < n ∧ k < n := by
  have := hasN_lt h; have := szR_len r; rw [hs.len] at this; omega
theorem mxR_eq {n : Nat} {a b : List W} (ha : a.length = n) (hb : b.length = n) (hn : n ≤ 64) : mxR a b = n := by unfold mxR szR; omega
theorem Sq.lay2 {n : Nat} {q : Bool → Bool → Bool} {a b : List W} (ha : a.length = n) (hb : b.length = n) (hn : n ≤ 64) : Sq n (lay2 q a b) := by
  unfold Go.Ago.lay2; rw [mxR_eq ha hb hn]; exact Sq.mk hn _
theorem Sq.thenG {n : Nat} {a b : List W} (ha : a.length = n) (hb : b.length = n) (hn : n ≤ 64) : Sq n (thenG a b) := by
  unfold Go.Ago.thenG; rw [mxR_eq ha hb hn]; exact Sq.mk hn _
theorem hasN_lay2 {q : Bool → Bool → Bool} (hq : q false false = false) (a b : List W) (i k : Nat) : hasN (lay2 q a b) i k = q (hasN a i k) (hasN b i k) := by
  unfold lay2
  rw [hasN_mk (mxR_le a b)]
  by_cases h1 : i < mxR a b
  · by_cases h2 : k < mxR a b
    · simp [h1, h2]
    · have e1 : hasN a i k = false := hasN_off (by unfold mxR at h2; omega)
      have e2 : hasN b i k = false := hasN_off (by unfold mxR at h2; omega)
      rw [e1, e2, hq]; simp [h2]
  · have e1 : hasN a i k = false := hasN_off1 (by unfold mxR at h1; omega)
    have e2 : hasN b i k = false := hasN_off1 (by unfold mxR at h1; omega)
    rw [e1, e2, hq]; simp [h1]
theorem hasN_or (a b : List W) (i k : Nat) : hasN (lay2 qOr a b) i k = (hasN a i k || hasN b i k) := hasN_lay2 rfl a b i k
theorem hasN_then (a b : List W) (i k : Nat) : hasN (thenG a b) i k = thenP a b i k := by
  unfold thenG
  rw [hasN_mk (mxR_le a b)]
  cases h : thenP a b i k with
  | false => simp
  | true =>
    obtain ⟨j, h1, h2⟩ := thenP_iff.1 h
    have := hasN_lt h1; have := hasN_lt h2
    have e1 : i < mxR a b := by unfold mxR; omega
    have e2 : k < mxR a b := by unfold mxR; omega
    simp [e1, e2]
def orL (l : List (List W)) : List W := l.foldl (lay2 qOr) []
theorem hasN_nil (i k : Nat) : hasN [] i k = false := by unfold hasN szR; simp
theorem hasN_fold (i k : Nat) : ∀ (l : List (List W)) (o : List W), hasN (l.foldl (lay2 qOr) o) i k = (hasN o i k || l.any fun r => hasN r i k) := by
  intro l
  induction l with
  | nil => intro o; simp
  | cons r l ih => intro o; rw [List.foldl_cons, ih, hasN_or, List.any_cons, Bool.or_assoc]
theorem hasN_orL (l : List (List W)) (i k : Nat) : hasN (orL l) i k = l.any fun r => hasN r i k := by
  unfold orL; rw [hasN_fold, hasN_nil, Bool.false_or]
theorem Sq.fold {n : Nat} (hn : n ≤ 64) : ∀ (l : List (List W)) (o : List W), Sq n o → (∀ r ∈ l, r.length = n) → Sq n (l.foldl (Go.Ago.lay2 qOr) o) := by
  intro l
  induction l with
  | nil => exact fun o ho _ => ho
  | cons r l ih => exact fun o ho hl => ih _ (Sq.lay2 ho.len (hl r (by simp)) hn) (fun x hx => hl x (by simp [hx]))
theorem mxR_nil {n : Nat} {r : List W} (h : r.length = n) (hn : n ≤ 64) : mxR [] r = n := by unfold mxR szR; simp; omega
theorem Sq.orL {n : Nat} (hn : n ≤ 64) {r : List W} {l : List (List W)} (h : r.length = n) (hl : ∀ x ∈ l, x.length = n) : Sq n (orL (r :: l)) := by
  unfold Go.Ago.orL
  rw [List.foldl_cons]
  refine Sq.fold hn l _ ?_ hl
  unfold Go.Ago.lay2; rw [mxR_nil h hn]; exact Sq.mk hn _
theorem orG_orL (l : List (List W × Bool)) : orG l = orL (l.map (·.1)) := by unfold orG orL; rw [List.foldl_map]

/-! ### all, of some -/
theorem at_pall2 (a b : List W) (f1 f2 f : Bool) : sp_pall.at [.d (.list [[.list (a.map rowW) f1], [.list (b.map rowW) f2]] f)] = .data (a.length ≤ 64 ∧ b.length ≤ 64) (.d (.list ((orL [a, b]).map rowW) false)) false := by
  refine (at_pall [(a, f1), (b, f2)] f).trans ?_
  rw [orG_orL]
  congr 1
  apply propext; simp
theorem at_pall3 (a b c : List W) (f1 f2 f3 f : Bool) : sp_pall.at [.d (.list [[.list (a.map rowW) f1], [.list (b.map rowW) f2], [.list (c.map rowW) f3]] f)] = .data (a.length ≤ 64 ∧ b.length ≤ 64 ∧ c.length ≤ 64) (.d (.list ((orL [a, b, c]).map rowW) false)) false := by
  refine (at_pall [(a, f1), (b, f2), (c, f3)] f).trans ?_
  rw [orG_orL]
  congr 1
  apply propext; simp
theorem at_pall4 (a b c d : List W) (f1 f2 f3 f4 f : Bool) : sp_pall.at [.d (.list [[.list (a.map rowW) f1], [.list (b.map rowW) f2], [.list (c.map rowW) f3], [.list (d.map rowW) f4]] f)] = .data (a.length ≤ 64 ∧ b.length ≤ 64 ∧ c.length ≤ 64 ∧ d.length ≤ 64) (.d (.list ((orL [a, b, c, d]).map rowW) false)) false := by
  refine (at_pall [(a, f1), (b, f2), (c, f3), (d, f4)] f).trans ?_
  rw [orG_orL]
  congr 1
  apply propext; simp
theorem at_pall5 (a b c d e : List W) (f1 f2 f3 f4 f5 f : Bool) : sp_pall.at [.d (.list [[.list (a.map rowW) f1], [.list (b.map rowW) f2], [.list (c.map rowW) f3], [.list (d.map rowW) f4], [.list (e.map rowW) f5]] f)] = .data (a.length ≤ 64 ∧ b.length ≤ 64 ∧ c.length ≤ 64 ∧ d.length ≤ 64 ∧ e.length ≤ 64) (.d (.list ((orL [a, b, c, d, e]).map rowW) false)) false := by
  refine (at_pall [(a, f1), (b, f2), (c, f3), (d, f4), (e, f5)] f).trans ?_
  rw [orG_orL]
  congr 1
  apply propext; simp

/-! ### Until nothing more follows -/
def fixF {α : Type} [DecidableEq α] (f : α → α) : Nat → α → α
  | 0, s => s
  | k + 1, s => if f s = s then s else fixF f k (f s)
section
variable {α : Type} [DecidableEq α] {f : α → α} {Inv : α → Prop} {μ : α → Nat} {B : Nat}
theorem fixF_fuel (hi : ∀ s, Inv s → Inv (f s)) (hb : ∀ s, Inv s → μ s ≤ B) (hm : ∀ s, Inv s → f s ≠ s → μ s < μ (f s)) :
    ∀ (k k' : Nat) (s : α), Inv s → B - μ s < k → B - μ s < k' → fixF f k s = fixF f k' s := by
  intro k
  induction k with
  | zero => intro k' s _ h; omega
  | succ k ih =>
    intro k' s hs h1 h2
    cases k' with
    | zero => omega
    | succ k' =>
      simp only [fixF]
      split
      · rfl
      · rename_i hne
        have := hm s hs hne
        have := hb (f s) (hi s hs)
        exact ih k' (f s) (hi s hs) (by omega) (by omega)
theorem fixF_step (hi : ∀ s, Inv s → Inv (f s)) (hb : ∀ s, Inv s → μ s ≤ B) (hm : ∀ s, Inv s → f s ≠ s → μ s < μ (f s)) {s : α} (hs : Inv s) : fixF f (B + 1) s = fixF f (B + 1) (f s) := by
  by_cases h : f s = s
  · rw [h]
  · rw [show fixF f (B + 1) s = fixF f B (f s) by rw [fixF, if_neg h]]
    have := hm s hs h
    have := hb (f s) (hi s hs)
    exact fixF_fuel hi hb hm B (B + 1) (f s) (hi s hs) (by omega) (by omega)
theorem fixF_end {k : Nat} {s : α} (h : f s = s) : fixF f (k + 1) s = s := by rw [fixF, if_pos h]
/-- What holds at first and is kept holds at the end. -/
theorem fixF_keep {Q : α → Prop} (hq : ∀ s, Q s → Q (f s)) : ∀ (k : Nat) (s : α), Q s → Q (fixF f k s) := by
  intro k
  induction k with
  | zero => exact fun s h => h
  | succ k ih => intro s h; rw [fixF]; split; exact h; exact ih _ (hq s h)
theorem fixF_fix (hi : ∀ s, Inv s → Inv (f s)) (hb : ∀ s, Inv s → μ s ≤ B) (hm : ∀ s, Inv s → f s ≠ s → μ s < μ (f s)) : ∀ (k : Nat) (s : α), Inv s → B - μ s < k → f (fixF f k s) = fixF f k s := by
  intro k
  induction k with
  | zero => intro s _ h; omega
  | succ k ih =>
    intro s hs h
    rw [fixF]
    split
    · assumption
    · rename_i hne
      have := hm s hs hne
      have := hb (f s) (hi s hs)
      exact ih _ (hi s hs) (by omega)
end

/-! ### How many pairs -/
def cntR (r : List W) : Nat := (List.range 4096).countP fun t => hasN r (t / 64) (t % 64)
theorem cntR_le (r : List W) : cntR r ≤ 4096 := by
  unfold cntR; exact Nat.le_trans List.countP_le_length (by simp)
theorem cntR_mono {a b : List W} (h : ∀ i k, hasN a i k = true → hasN b i k = true) : cntR a ≤ cntR b := by
  unfold cntR; exact List.countP_mono_left fun t _ ht => h _ _ ht
theorem countP_lt {p q : Nat → Bool} : ∀ (l : List Nat), (∀ t ∈ l, p t = true → q t = true) → (∃ t ∈ l, p t = false ∧ q t = true) → l.countP p < l.countP q := by
  intro l
  induction l with
  | nil => rintro _ ⟨t, h, _⟩; simp at h
  | cons a l ih =>
    rintro h ⟨t, ht, h1, h2⟩
    rw [List.countP_cons, List.countP_cons]
    have hm : l.countP p ≤ l.countP q := List.countP_mono_left fun t ht => h t (by simp [ht])
    rcases List.mem_cons.1 ht with rfl | ht
    · rw [h1, h2]; simp; omega
    · have := ih (fun t ht => h t (by simp [ht])) ⟨t, ht, h1, h2⟩
      have h3 := h a (by simp)
      cases hp : p a with
      | false => simp; omega
      | true => rw [h3 hp]; simp; omega
theorem cntR_lt {n : Nat} {a b : List W} (ha : Sq n a) (hb : Sq n b) (h : ∀ i k, hasN a i k = true → hasN b i k = true) (hne : b ≠ a) : cntR a < cntR b := by
  unfold cntR
  refine countP_lt _ (fun t _ ht => h _ _ ht) ?_
  apply Classical.byContradiction
  intro hno
  apply hne
  refine hb.ext ha fun i k _ _ => ?_
  cases e : hasN b i k with
  | false =>
    cases e2 : hasN a i k with
    | false => rfl
    | true => rw [h i k e2] at e; cases e
  | true =>
    cases e2 : hasN a i k with
    | true => rfl
    | false =>
      exfalso; apply hno
      obtain ⟨h1, h2⟩ := hasN_off64 e
      refine ⟨i * 64 + k, by simp; omega, ?_, ?_⟩
      · rw [show (i * 64 + k) / 64 = i by omega, show (i * 64 + k) % 64 = k by omega]; exact e2
      · rw [show (i * 64 + k) / 64 = i by omega, show (i * 64 + k) % 64 = k by omega]; exact e

/-! ### ppo -/
structure P4 where
  ii : List W
  ci : List W
  ic : List W
  cc : List W
  deriving DecidableEq
def stepP (s : P4) : P4 := ⟨orL [s.ii, s.ci, thenG s.ic s.ci, thenG s.ii s.ii], orL [s.ci, thenG s.ci s.ii, thenG s.cc s.ci], orL [s.ic, s.ii, s.cc, thenG s.ic s.cc, thenG s.ii s.ic], orL [s.cc, s.ci, thenG s.ci s.ic, thenG s.cc s.cc]⟩
structure P4.Ok (n : Nat) (s : P4) : Prop where
  ii : Sq n s.ii
  ci : Sq n s.ci
  ic : Sq n s.ic
  cc : Sq n s.cc
theorem Sq.or3 {n : Nat} (hn : n ≤ 64) {a b c : List W} (ha : a.length = n) (hb : b.length = n) (hc : c.length = n) : Sq n (Go.Ago.orL [a, b, c]) :=
  Sq.orL hn ha (fun x hx => by simp only [List.mem_cons, List.not_mem_nil, or_false] at hx; rcases hx with rfl | rfl <;> assumption)
theorem Sq.or4 {n : Nat} (hn : n ≤ 64) {a b c d : List W} (ha : a.length = n) (hb : b.length = n) (hc : c.length = n) (hd : d.length = n) : Sq n (Go.Ago.orL [a, b, c, d]) :=
  Sq.orL hn ha (fun x hx => by simp only [List.mem_cons, List.not_mem_nil, or_false] at hx; rcases hx with rfl | rfl | rfl <;> assumption)
theorem Sq.or5 {n : Nat} (hn : n ≤ 64) {a b c d e : List W} (ha : a.length = n) (hb : b.length = n) (hc : c.length = n) (hd : d.length = n) (he : e.length = n) : Sq n (Go.Ago.orL [a, b, c, d, e]) :=
  Sq.orL hn ha (fun x hx => by simp only [List.mem_cons, List.not_mem_nil, or_false] at hx; rcases hx with rfl | rfl | rfl | rfl <;> assumption)
theorem Sq.or2 {n : Nat} (hn : n ≤ 64) {a b : List W} (ha : a.length = n) (hb : b.length = n) : Sq n (Go.Ago.orL [a, b]) :=
  Sq.orL hn ha (fun x hx => by simp only [List.mem_cons, List.not_mem_nil, or_false] at hx; subst hx; exact hb)
theorem then_len {n : Nat} (hn : n ≤ 64) {a b : List W} (ha : Sq n a) (hb : Sq n b) : (thenG a b).length = n := (Sq.thenG ha.len hb.len hn).len
attribute [local irreducible] orL thenG lay2 whereG keepG mkR cntR
theorem stepP_ok {n : Nat} (hn : n ≤ 64) {s : P4} (h : s.Ok n) : (stepP s).Ok n where
  ii := Sq.or4 hn h.ii.len h.ci.len (then_len hn h.ic h.ci) (then_len hn h.ii h.ii)
  ci := Sq.or3 hn h.ci.len (then_len hn h.ci h.ii) (then_len hn h.cc h.ci)
  ic := Sq.or5 hn h.ic.len h.ii.len h.cc.len (then_len hn h.ic h.cc) (then_len hn h.ii h.ic)
  cc := Sq.or4 hn h.cc.len h.ci.len (then_len hn h.ci h.ic) (then_len hn h.cc h.cc)
def cnt4 (s : P4) : Nat := cntR s.ii + cntR s.ci + cntR s.ic + cntR s.cc
theorem cnt4_le (s : P4) : cnt4 s ≤ 16384 := by
  have := cntR_le s.ii; have := cntR_le s.ci; have := cntR_le s.ic; have := cntR_le s.cc; unfold cnt4; omega
theorem orL_head {r : List W} {l : List (List W)} {i k : Nat} (h : hasN r i k = true) : hasN (orL (r :: l)) i k = true := by
  rw [hasN_orL, List.any_cons, h]; rfl
theorem stepP_more {n : Nat} (hn : n ≤ 64) {s : P4} (h : s.Ok n) (hne : stepP s ≠ s) : cnt4 s < cnt4 (stepP s) := by
  have h' := stepP_ok hn h
  have m1 : cntR s.ii ≤ cntR (stepP s).ii := cntR_mono fun i k => orL_head
  have m2 : cntR s.ci ≤ cntR (stepP s).ci := cntR_mono fun i k => orL_head
  have m3 : cntR s.ic ≤ cntR (stepP s).ic := cntR_mono fun i k => orL_head
  have m4 : cntR s.cc ≤ cntR (stepP s).cc := cntR_mono fun i k => orL_head
  by_cases e1 : (stepP s).ii = s.ii
  · by_cases e2 : (stepP s).ci = s.ci
    · by_cases e3 : (stepP s).ic = s.ic
      · by_cases e4 : (stepP s).cc = s.cc
        · exact absurd (by cases s; cases hs : stepP _; simp_all) hne
        · have := cntR_lt h.cc h'.cc (fun i k => orL_head) e4
          unfold cnt4; omega
      · have := cntR_lt h.ic h'.ic (fun i k => orL_head) e3
        unfold cnt4; omega
    · have := cntR_lt h.ci h'.ci (fun i k => orL_head) e2
      unfold cnt4; omega
  · have := cntR_lt h.ii h'.ii (fun i k => orL_head) e1
    unfold cnt4; omega
def limP (s : P4) : P4 := fixF stepP 16385 s
theorem limP_step {n : Nat} (hn : n ≤ 64) {s : P4} (h : s.Ok n) : limP s = limP (stepP s) :=
  fixF_step (Inv := P4.Ok n) (μ := cnt4) (B := 16384) (fun s hs => stepP_ok hn hs) (fun s _ => cnt4_le s) (fun s hs hne => stepP_more hn hs hne) h
theorem limP_fix {n : Nat} (hn : n ≤ 64) {s : P4} (h : s.Ok n) : stepP (limP s) = limP s :=
  fixF_fix (Inv := P4.Ok n) (μ := cnt4) (B := 16384) (fun s hs => stepP_ok hn hs) (fun s _ => cnt4_le s) (fun s hs hne => stepP_more hn hs hne) _ _ h (by have := cnt4_le s; omega)

theorem eqT {p : Prop} (h : p) : p = True := propext ⟨fun _ => trivial, fun _ => h⟩
theorem le_M {n : Nat} (h : n ≤ 64) : n ≤ maxLen := by unfold maxLen; omega
theorem lay2_64 (q : Bool → Bool → Bool) (a b : List W) : ((lay2 q a b).length ≤ 64) = True := eqT (by rw [lay2_len]; exact mxR_le _ _)
theorem lay2_M (q : Bool → Bool → Bool) (a b : List W) : ((lay2 q a b).length ≤ maxLen) = True := eqT (le_M (by rw [lay2_len]; exact mxR_le _ _))
theorem thenG_64 (a b : List W) : ((thenG a b).length ≤ 64) = True := eqT (by unfold thenG; rw [mkR_len]; exact mxR_le _ _)
theorem thenG_M (a b : List W) : ((thenG a b).length ≤ maxLen) = True := eqT (le_M (by unfold thenG; rw [mkR_len]; exact mxR_le _ _))
theorem whereG_len (l : List NodeG) (q : NodeG → NodeG → Bool) (r : List W) : (whereG l q r).length = r.length := by unfold whereG; rw [mkR_len]
theorem keepG_len (r : List W) (a b : W) : (keepG r a b).length = r.length := by unfold keepG; rw [mapW_len]
theorem orL_le (l : List (List W)) : (orL l).length ≤ 64 := by
  have := orG_len (l.map fun x => (x, false)); rw [orG_orL, List.map_map] at this
  rwa [show ((fun x : List W × Bool => x.1) ∘ fun x : List W => (x, false)) = id from rfl, List.map_id] at this
theorem orL_64 (l : List (List W)) : ((orL l).length ≤ 64) = True := eqT (orL_le l)
theorem orL_M (l : List (List W)) : ((orL l).length ≤ maxLen) = True := eqT (le_M (orL_le l))
structure MG.Ok (m : MG) : Prop where
  n : m.nodes.length ≤ 64
  po : Sq m.nodes.length m.po
  rf : Sq m.nodes.length m.rf
  co : Sq m.nodes.length m.co
  fr : Sq m.nodes.length m.fr
  addr : Sq m.nodes.length m.addr
  data : Sq m.nodes.length m.data
  ctrl : Sq m.nodes.length m.ctrl
  fenced : Sq m.nodes.length m.fenced
  sync : Sq m.nodes.length m.sync
  lwsync : Sq m.nodes.length m.lwsync
  pairs : Sq m.nodes.length m.pairs
def MG.ext (m : MG) (r : List W) : List W := whereG m.nodes apartQ r
def MG.poloc (m : MG) : List W := whereG m.nodes locQ m.po
def MG.dd (m : MG) : List W := lay2 qOr m.addr m.data
def MG.start (m : MG) : P4 := ⟨orL [m.dd, lay2 qMinus m.rf (m.ext m.rf), lay2 qAnd m.poloc (thenG (m.ext m.fr) (m.ext m.rf))],
  orL [m.fenced, lay2 qAnd m.poloc (thenG (m.ext m.co) (m.ext m.rf))],
  List.replicate m.nodes.length 0#64,
  orL [m.dd, m.poloc, m.ctrl, thenG m.addr m.po]⟩
def MG.ppo (m : MG) : List W := lay2 qOr (keepG (limP m.start).ii m.read m.read) (keepG (limP m.start).ic m.read m.write)
def sp_ppo : Sp := ⟨MG, fun m => [.dptr m.cells 0], fun m => .data m.Ok (.d (.list (m.ppo.map rowW) false)) false⟩
theorem at_ppo (m : MG) : sp_ppo.at [.dptr m.cells 0] = .data m.Ok (.d (.list (m.ppo.map rowW) false)) false :=
  Sp.at_enc (s := sp_ppo) (fun (x y : MG) h => by
    simp only [sp_ppo, List.cons.injEq, AV.dptr.injEq, and_true] at h
    exact MG.cells_inj _ _ h) m
theorem body_power_model_ppo {T : Tab} {n1 n2 n3 n4 n5 n6 n7 n8 n9 : Nat} (k1 : Knows T n1 (sp_lay2 qOr).dat) (k2 : Knows T n2 (sp_lay2 qAnd).dat) (k3 : Knows T n3 sp_Then.dat) (k4 : Knows T n4 sp_ext) (k5 : Knows T n5 sp_poloc)
    (k6 : Knows T n6 (sp_lay2 qMinus).dat) (k7 : Knows T n7 sp_keep) (k8 : Knows T n8 sp_pall) (k9 : Knows T n9 sp_eqW) :
    sp_ppo.Body T V_power_model_ppo (L_power_model_ppo n1 n2 n3 n4 n5 n6 n7 n8 n9) R_power_model_ppo := by
  have F1 := k1.F; have G1 := k1.G; have F2 := k2.F; have G2 := k2.G; have F3 := k3.F; have G3 := k3.G; have F4 := k4.F; have G4 := k4.G; have F5 := k5.F; have G5 := k5.G
  have F6 := k6.F; have G6 := k6.G; have F7 := k7.F; have G7 := k7.G; have F8 := k8.F; have G8 := k8.G; have F9 := k9.F; have G9 := k9.G
  rintro (m : MG) hm
  have hm : m.Ok := hm
  refine ⟨rfl, ?_⟩
  unfold V_power_model_ppo L_power_model_ppo R_power_model_ppo
  simp only [↓vck_skip, ↓vck_ret, ↓vck_exit, ↓vck_region, ↓vck_nilq, ↓nilTo_to, nilG_d, nilG_r, ↓vck_seq, ↓vck_cond, ↓vck_block, ↓vck_loop, ↓vckTo_to, ↓thenK_n, ↓thenK_x, ↓thenK_r, ↓blockK_n, ↓blockK_x, ↓blockK_o, ↓blockK_r, ↓regK_to, ↓retK_r, ↓retK_n, ↓loopV_n, ↓loopV_x, ↓loopV_r, ↓famK_n, ↓famK_x, ↓famK_r, ↓boolK_true, ↓boolK_false, ↓boolK_not, ↓boolK_dec, ↓boolK_and, nf_mk, RGk_end_f, RGk_end_t, RGk_op, RGk_guard, opK_to, evN, evCallN, grow_mk, feet_f, feet_t, foot_mk, stepK_mk, stepK_v, stepK_no, guardG_t, guardG_f, guardG_no, condG_b, evT, Opd.ev, get_hit, get_next, app_to, app_no, app_up, app_skip, app_skipn, know_mk, knowO_t, knowO_c, envFrom, reserve, keeps, LOp.isNew, State.prune, cellsQ, cellsT, AV.leaf, Heap.at, evLoad_ptr, evLoad_dptr, loadO_vec, loadO_dvec1, stepK_load_map, idx_I, idx_W, rowW, set_rowW, app_rowW, app_rowW0, rep_rowW0, rowB, set_rowB, rep_rowB, rowN, lens_W, lensA_W, scal_rowW, default_W, w_or, w_and, w_andNot, w_and1, w_shl, w_shl1, w_shr, w_sub1, w_neg, w_add, w_bit, w_eq0, w_eq1, w_eq, Bool.decide_eq_true, idx_Rat, idx_Loc, idx_Act, idx_Step, idx_Stamp, stepK_idx_ref, evStore_ptr, storeO_vec, stepK_store_map1, loadDT_f, rowI, RatG.row, LocG.row, ActG.row, StepG.row, StampG.row, ActG.av, ActG.eta, RatG.eta, LocG.eta, beq_true, beq_false, loadDT_t, set_rowI, app_rowI, rep_rowI, set_rowRat, app_rowRat, rep_rowRat, set_rowLoc, app_rowLoc, app_rowAct, app_rowStep, List.length_set, List.length_replicate, toNat_cast, Int.reduceToNat, evLen, evAppend, srcOf, Src.all, Src.len, Src.leaf, joinV, drows_rep1, drows_rep2, drows_rep3, drows_rep4, drows_rep5, drows_rep6, drows_rep7, drows_rep8, mkVec, drows, evMk, List.length_map, take_mapF, drop_mapF, List.take_length, List.take_left, List.length_append, Nat.le_add_right, ite_self, List.take_of_length_le, evSlice, intOr, intOpd, Option.isSome_none, Option.isSome_some, Nat.sub_zero, loadQ, loadT, evBin, evUn, evIdxArr_d, evIdxArr_p, binT, binQ, chk, apartF, List.contains_cons, List.contains_nil, Bool.or_false, Bool.false_or, Bool.and_self, resQ, resV, resT, pickV, evCallT, evCall, fnOf, viewsT, isD, HO.drow, viewT, evInt2, evEq, eqV, eqK, eqC1, buildQ, buildT, buildRQ, buildRT, lens_I, lensA_I, lens_Rat, lensA_Rat, lens_Loc, lensA_Loc, lens_Act, lensA_Act, lens_Step, lensA_Step, lens_Stamp, lensA_Stamp, List.mem_cons, List.not_mem_nil, or_false, forall_eq, putRow, dcells, get_nil, RetS, RetF, RetD, AV.frz, AV.frzL, AV.freshP, AV.freshL, DV.less, scal_int, scal_bool, scal_nil, scal_rowI, scal_rowRat, scal_rowStep, Option.some.injEq, AV.tup.injEq, AV.agg.injEq, List.cons.injEq, DV.list.injEq, List.isEmpty_nil, Nat.le_refl, AV.d.injEq, DV.int.injEq, DV.bool.injEq, ↓reduceIte, Nat.reduceEqDiff, Nat.reduceAdd, Nat.reduceBEq, List.length_cons, List.length_nil, List.replicate_succ, List.replicate_zero, List.nil_append, List.cons_append, List.append_nil, List.foldl_cons, List.foldl_nil, List.map_cons, List.map_nil, List.all_cons, List.all_nil, List.set_cons_zero, List.set_cons_succ, List.getD_cons_zero, List.getD_cons_succ, List.drop_zero, List.drop_succ_cons, List.take_succ_cons, List.take_zero, List.flatten_cons, List.flatten_nil, Bool.true_and, Bool.and_true, Bool.not_true, Bool.not_false, true_and, and_true, true_or, or_true, Option.bind_some, Option.map_some, decide_true, decide_false, beq_self_eq_true, true_implies, false_implies, implies_true, not_true_eq_false, not_false_eq_true, and_self, Bool.and_false, Bool.false_and, Nat.reduceLT, Nat.reduceLeDiff, List.reverse_cons, List.reverse_nil, Nat.zero_add, Nat.add_zero, Bool.false_eq_true, List.getElem?_cons_zero, Nat.reduceMul, Nat.mul_one, sp_ppo, F1, G1, F2, G2, F3, G3, F4, G4, F5, G5, F6, G6, F7, G7, F8, G8, F9, G9, Sp.at_dat, SpecR.dat_rows, at_lay2, at_Then, at_ext, at_poloc, at_keep, at_pall2, at_pall3, at_pall4, at_pall5, at_eqW,
    cells_len, cells_0, cells_1, cells_2, cells_3, cells_4, cells_5, cells_6, cells_7, cells_8, cells_9, cells_10, cells_11, cells_12, cells_13, cells_14]
  have hn := hm.n
  simp only [lay2_64, lay2_M, thenG_64, thenG_M, whereG_len, orL_64, orL_M, hm.po.len, hm.rf.len, hm.co.len, hm.fr.len, hm.addr.len, hm.data.len, hm.ctrl.len, hm.fenced.len, eqT hm.n, eqT (le_M hm.n), Nat.le_refl, and_true, true_and]
  refine ⟨⟨by omega, by omega, roomy_of (by omega) (by omega)⟩, ?_⟩
  refine Loop.ices [17] (Nat.zero_le _) ?_
  simp only [↓vck_skip, ↓vck_ret, ↓vck_exit, ↓vck_region, ↓vck_nilq, ↓nilTo_to, nilG_d, nilG_r, ↓vck_seq, ↓vck_cond, ↓vck_block, ↓vck_loop, ↓vckTo_to, ↓thenK_n, ↓thenK_x, ↓thenK_r, ↓blockK_n, ↓blockK_x, ↓blockK_o, ↓blockK_r, ↓regK_to, ↓retK_r, ↓retK_n, ↓loopV_n, ↓loopV_x, ↓loopV_r, ↓famK_n, ↓famK_x, ↓famK_r, ↓boolK_true, ↓boolK_false, ↓boolK_not, ↓boolK_dec, ↓boolK_and, nf_mk, RGk_end_f, RGk_end_t, RGk_op, RGk_guard, opK_to, evN, evCallN, grow_mk, feet_f, feet_t, foot_mk, stepK_mk, stepK_v, stepK_no, guardG_t, guardG_f, guardG_no, condG_b, evT, Opd.ev, get_hit, get_next, app_to, app_no, app_up, app_skip, app_skipn, know_mk, knowO_t, knowO_c, envFrom, reserve, keeps, LOp.isNew, State.prune, cellsQ, cellsT, AV.leaf, Heap.at, evLoad_ptr, evLoad_dptr, loadO_vec, loadO_dvec1, stepK_load_map, idx_I, idx_W, rowW, set_rowW, app_rowW, app_rowW0, rep_rowW0, rowB, set_rowB, rep_rowB, rowN, lens_W, lensA_W, scal_rowW, default_W, w_or, w_and, w_andNot, w_and1, w_shl, w_shl1, w_shr, w_sub1, w_neg, w_add, w_bit, w_eq0, w_eq1, w_eq, Bool.decide_eq_true, idx_Rat, idx_Loc, idx_Act, idx_Step, idx_Stamp, stepK_idx_ref, evStore_ptr, storeO_vec, stepK_store_map1, loadDT_f, rowI, RatG.row, LocG.row, ActG.row, StepG.row, StampG.row, ActG.av, ActG.eta, RatG.eta, LocG.eta, beq_true, beq_false, loadDT_t, set_rowI, app_rowI, rep_rowI, set_rowRat, app_rowRat, rep_rowRat, set_rowLoc, app_rowLoc, app_rowAct, app_rowStep, List.length_set, List.length_replicate, toNat_cast, Int.reduceToNat, evLen, evAppend, srcOf, Src.all, Src.len, Src.leaf, joinV, drows_rep1, drows_rep2, drows_rep3, drows_rep4, drows_rep5, drows_rep6, drows_rep7, drows_rep8, mkVec, drows, evMk, List.length_map, take_mapF, drop_mapF, List.take_length, List.take_left, List.length_append, Nat.le_add_right, ite_self, List.take_of_length_le, evSlice, intOr, intOpd, Option.isSome_none, Option.isSome_some, Nat.sub_zero, loadQ, loadT, evBin, evUn, evIdxArr_d, evIdxArr_p, binT, binQ, chk, apartF, List.contains_cons, List.contains_nil, Bool.or_false, Bool.false_or, Bool.and_self, resQ, resV, resT, pickV, evCallT, evCall, fnOf, viewsT, isD, HO.drow, viewT, evInt2, evEq, eqV, eqK, eqC1, buildQ, buildT, buildRQ, buildRT, lens_I, lensA_I, lens_Rat, lensA_Rat, lens_Loc, lensA_Loc, lens_Act, lensA_Act, lens_Step, lensA_Step, lens_Stamp, lensA_Stamp, List.mem_cons, List.not_mem_nil, or_false, forall_eq, putRow, dcells, get_nil, RetS, RetF, RetD, AV.frz, AV.frzL, AV.freshP, AV.freshL, DV.less, scal_int, scal_bool, scal_nil, scal_rowI, scal_rowRat, scal_rowStep, Option.some.injEq, AV.tup.injEq, AV.agg.injEq, List.cons.injEq, DV.list.injEq, List.isEmpty_nil, Nat.le_refl, AV.d.injEq, DV.int.injEq, DV.bool.injEq, ↓reduceIte, Nat.reduceEqDiff, Nat.reduceAdd, Nat.reduceBEq, List.length_cons, List.length_nil, List.replicate_succ, List.replicate_zero, List.nil_append, List.cons_append, List.append_nil, List.foldl_cons, List.foldl_nil, List.map_cons, List.map_nil, List.all_cons, List.all_nil, List.set_cons_zero, List.set_cons_succ, List.getD_cons_zero, List.getD_cons_succ, List.drop_zero, List.drop_succ_cons, List.take_succ_cons, List.take_zero, List.flatten_cons, List.flatten_nil, Bool.true_and, Bool.and_true, Bool.not_true, Bool.not_false, true_and, and_true, true_or, or_true, Option.bind_some, Option.map_some, decide_true, decide_false, beq_self_eq_true, true_implies, false_implies, implies_true, not_true_eq_false, not_false_eq_true, and_self, Bool.and_false, Bool.false_and, Nat.reduceLT, Nat.reduceLeDiff, List.reverse_cons, List.reverse_nil, Nat.zero_add, Nat.add_zero, Bool.false_eq_true, List.getElem?_cons_zero, Nat.reduceMul, Nat.mul_one, State.ices, State.ice, HO.data, iceEnv, iceHeap, HO.ice, AV.ice, AV.iceL]
  have hS : m.start.Ok m.nodes.length := by
    have e1 : (whereG m.nodes apartQ m.rf).length = m.nodes.length := by rw [whereG_len, hm.rf.len]
    have e2 : (whereG m.nodes apartQ m.fr).length = m.nodes.length := by rw [whereG_len, hm.fr.len]
    have e3 : (whereG m.nodes apartQ m.co).length = m.nodes.length := by rw [whereG_len, hm.co.len]
    have e4 : (whereG m.nodes locQ m.po).length = m.nodes.length := by rw [whereG_len, hm.po.len]
    exact {
      ii := Sq.or3 hn (Sq.lay2 hm.addr.len hm.data.len hn).len (Sq.lay2 hm.rf.len e1 hn).len (Sq.lay2 e4 (Sq.thenG e2 e1 hn).len hn).len
      ci := Sq.or2 hn hm.fenced.len (Sq.lay2 e4 (Sq.thenG e3 e1 hn).len hn).len
      ic := by
        show Sq _ (List.replicate m.nodes.length 0#64)
        rw [mkR_zero (p := fun _ _ => false) (fun _ _ _ _ => rfl)]
        exact Sq.mk hn _
      cc := Sq.or4 hn (Sq.lay2 hm.addr.len hm.data.len hn).len e4 hm.ctrl.len (Sq.thenG hm.addr.len hm.po.len hn).len }
  refine Loop.fam [0, 9, 10, 11, 12] (fun s : P4 => ⟨[(0, .dptr m.cells 0), (9, .d (.list (s.ii.map rowW) false)), (10, .d (.list (s.ci.map rowW) false)), (11, .d (.list (s.cc.map rowW) false)), (12, .d (.list (s.ic.map rowW) false))], []⟩)
    (fun s => s.Ok m.nodes.length ∧ limP s = limP m.start) (fun s => 16384 - cnt4 s) m.start [] (by simp) (by simp) (by simp only [State.can, AV.can, AV.canL, HO.can, canRows, idx, get_hit, get_next, Heap.at, Nat.reduceBEq, ↓reduceIte, Nat.reduceEqDiff, Option.getD_some, Option.map_some, List.map_cons, List.map_nil, List.getD_cons_zero, List.getD_cons_succ]; rfl) ⟨hS, rfl⟩ ?_
  rintro s ⟨hs, hl⟩
  simp only [↓vck_skip, ↓vck_ret, ↓vck_exit, ↓vck_region, ↓vck_nilq, ↓nilTo_to, nilG_d, nilG_r, ↓vck_seq, ↓vck_cond, ↓vck_block, ↓vck_loop, ↓vckTo_to, ↓thenK_n, ↓thenK_x, ↓thenK_r, ↓blockK_n, ↓blockK_x, ↓blockK_o, ↓blockK_r, ↓regK_to, ↓retK_r, ↓retK_n, ↓loopV_n, ↓loopV_x, ↓loopV_r, ↓famK_n, ↓famK_x, ↓famK_r, ↓boolK_true, ↓boolK_false, ↓boolK_not, ↓boolK_dec, ↓boolK_and, nf_mk, RGk_end_f, RGk_end_t, RGk_op, RGk_guard, opK_to, evN, evCallN, grow_mk, feet_f, feet_t, foot_mk, stepK_mk, stepK_v, stepK_no, guardG_t, guardG_f, guardG_no, condG_b, evT, Opd.ev, get_hit, get_next, app_to, app_no, app_up, app_skip, app_skipn, know_mk, knowO_t, knowO_c, envFrom, reserve, keeps, LOp.isNew, State.prune, cellsQ, cellsT, AV.leaf, Heap.at, evLoad_ptr, evLoad_dptr, loadO_vec, loadO_dvec1, stepK_load_map, idx_I, idx_W, rowW, set_rowW, app_rowW, app_rowW0, rep_rowW0, rowB, set_rowB, rep_rowB, rowN, lens_W, lensA_W, scal_rowW, default_W, w_or, w_and, w_andNot, w_and1, w_shl, w_shl1, w_shr, w_sub1, w_neg, w_add, w_bit, w_eq0, w_eq1, w_eq, Bool.decide_eq_true, idx_Rat, idx_Loc, idx_Act, idx_Step, idx_Stamp, stepK_idx_ref, evStore_ptr, storeO_vec, stepK_store_map1, loadDT_f, rowI, RatG.row, LocG.row, ActG.row, StepG.row, StampG.row, ActG.av, ActG.eta, RatG.eta, LocG.eta, beq_true, beq_false, loadDT_t, set_rowI, app_rowI, rep_rowI, set_rowRat, app_rowRat, rep_rowRat, set_rowLoc, app_rowLoc, app_rowAct, app_rowStep, List.length_set, List.length_replicate, toNat_cast, Int.reduceToNat, evLen, evAppend, srcOf, Src.all, Src.len, Src.leaf, joinV, drows_rep1, drows_rep2, drows_rep3, drows_rep4, drows_rep5, drows_rep6, drows_rep7, drows_rep8, mkVec, drows, evMk, List.length_map, take_mapF, drop_mapF, List.take_length, List.take_left, List.length_append, Nat.le_add_right, ite_self, List.take_of_length_le, evSlice, intOr, intOpd, Option.isSome_none, Option.isSome_some, Nat.sub_zero, loadQ, loadT, evBin, evUn, evIdxArr_d, evIdxArr_p, binT, binQ, chk, apartF, List.contains_cons, List.contains_nil, Bool.or_false, Bool.false_or, Bool.and_self, resQ, resV, resT, pickV, evCallT, evCall, fnOf, viewsT, isD, HO.drow, viewT, evInt2, evEq, eqV, eqK, eqC1, buildQ, buildT, buildRQ, buildRT, lens_I, lensA_I, lens_Rat, lensA_Rat, lens_Loc, lensA_Loc, lens_Act, lensA_Act, lens_Step, lensA_Step, lens_Stamp, lensA_Stamp, List.mem_cons, List.not_mem_nil, or_false, forall_eq, putRow, dcells, get_nil, RetS, RetF, RetD, AV.frz, AV.frzL, AV.freshP, AV.freshL, DV.less, scal_int, scal_bool, scal_nil, scal_rowI, scal_rowRat, scal_rowStep, Option.some.injEq, AV.tup.injEq, AV.agg.injEq, List.cons.injEq, DV.list.injEq, List.isEmpty_nil, Nat.le_refl, AV.d.injEq, DV.int.injEq, DV.bool.injEq, ↓reduceIte, Nat.reduceEqDiff, Nat.reduceAdd, Nat.reduceBEq, List.length_cons, List.length_nil, List.replicate_succ, List.replicate_zero, List.nil_append, List.cons_append, List.append_nil, List.foldl_cons, List.foldl_nil, List.map_cons, List.map_nil, List.all_cons, List.all_nil, List.set_cons_zero, List.set_cons_succ, List.getD_cons_zero, List.getD_cons_succ, List.drop_zero, List.drop_succ_cons, List.take_succ_cons, List.take_zero, List.flatten_cons, List.flatten_nil, Bool.true_and, Bool.and_true, Bool.not_true, Bool.not_false, true_and, and_true, true_or, or_true, Option.bind_some, Option.map_some, decide_true, decide_false, beq_self_eq_true, true_implies, false_implies, implies_true, not_true_eq_false, not_false_eq_true, and_self, Bool.and_false, Bool.false_and, Nat.reduceLT, Nat.reduceLeDiff, List.reverse_cons, List.reverse_nil, Nat.zero_add, Nat.add_zero, Bool.false_eq_true, List.getElem?_cons_zero, Nat.reduceMul, Nat.mul_one, sp_ppo, F1, G1, F2, G2, F3, G3, F4, G4, F5, G5, F6, G6, F7, G7, F8, G8, F9, G9, Sp.at_dat, SpecR.dat_rows, at_lay2, at_Then, at_ext, at_poloc, at_keep, at_pall2, at_pall3, at_pall4, at_pall5, at_eqW,
    cells_len, cells_13, cells_14]
  simp only [thenG_64, keepG_len, hs.ii.len, hs.ci.len, hs.ic.len, hs.cc.len, eqT hm.n, eqT (le_M hm.n), and_true, true_and]
  have next : ∀ {S : State}, stepP s ≠ s → S.can [] [0, 9, 10, 11, 12] = ⟨[(0, .dptr m.cells 0), (9, .d (.list ((stepP s).ii.map rowW) false)), (10, .d (.list ((stepP s).ci.map rowW) false)), (11, .d (.list ((stepP s).cc.map rowW) false)), (12, .d (.list ((stepP s).ic.map rowW) false))], []⟩ →
      FamNext [0, 9, 10, 11, 12] (fun s : P4 => ⟨[(0, .dptr m.cells 0), (9, .d (.list (s.ii.map rowW) false)), (10, .d (.list (s.ci.map rowW) false)), (11, .d (.list (s.cc.map rowW) false)), (12, .d (.list (s.ic.map rowW) false))], []⟩)
        (fun s => s.Ok m.nodes.length ∧ limP s = limP m.start) (fun s => 16384 - cnt4 s) (16384 - cnt4 s) S := fun {S} hne h => by
    have h1 := stepP_more hn hs hne
    have h2 := cnt4_le (stepP s)
    exact FamNext.mk [] (stepP s) (by simp) (by simp) h ⟨stepP_ok hn hs, by rw [← limP_step hn hs]; exact hl⟩ (by omega)
  refine ⟨fun e1 => ⟨fun e2 => ⟨fun e3 => ⟨fun e4 => ?_, fun e4 => ?_⟩, fun e3 => ?_⟩, fun e2 => ?_⟩, fun e1 => ?_⟩
  · have : stepP s = s := by
      have : stepP s = ⟨s.ii, s.ci, s.ic, s.cc⟩ := by
        unfold stepP; rw [← e1, ← e2, ← e3, ← e4]
      exact this
    unfold MG.ppo
    rw [← hl, show limP s = s from fixF_end this]
  · exact next (fun e => e4 (congrArg P4.cc e).symm) (by simp only [State.can, AV.can, AV.canL, HO.can, canRows, idx, get_hit, get_next, Heap.at, Nat.reduceBEq, ↓reduceIte, Nat.reduceEqDiff, Option.getD_some, Option.map_some, List.map_cons, List.map_nil, List.getD_cons_zero, List.getD_cons_succ]; rfl)
  · exact next (fun e => e3 (congrArg P4.ic e).symm) (by simp only [State.can, AV.can, AV.canL, HO.can, canRows, idx, get_hit, get_next, Heap.at, Nat.reduceBEq, ↓reduceIte, Nat.reduceEqDiff, Option.getD_some, Option.map_some, List.map_cons, List.map_nil, List.getD_cons_zero, List.getD_cons_succ]; rfl)
  · exact next (fun e => e2 (congrArg P4.ci e).symm) (by simp only [State.can, AV.can, AV.canL, HO.can, canRows, idx, get_hit, get_next, Heap.at, Nat.reduceBEq, ↓reduceIte, Nat.reduceEqDiff, Option.getD_some, Option.map_some, List.map_cons, List.map_nil, List.getD_cons_zero, List.getD_cons_succ]; rfl)
  · exact next (fun e => e1 (congrArg P4.ii e).symm) (by simp only [State.can, AV.can, AV.canL, HO.can, canRows, idx, get_hit, get_next, Heap.at, Nat.reduceBEq, ↓reduceIte, Nat.reduceEqDiff, Option.getD_some, Option.map_some, List.map_cons, List.map_nil, List.getD_cons_zero, List.getD_cons_succ]; rfl)
end Go.Ago

/- Power: what the axioms speak of, and Check. Conditions: none. -/
set_option maxRecDepth 100000
set_option linter.unusedSimpArgs false
set_option linter.unusedVariables false
namespace Go.Ago
theorem starG_le (a : List W) : (starG a).length ≤ 64 := by
  unfold starG; rw [mkR_len]; exact szR_le a
theorem starG_len (a : List W) : (starG a).length = szR a := by unfold starG; rw [mkR_len]
theorem cells_mid (m : MG) : (m.cells.drop 1).take 12 = [.list (m.xn.map ActG.row) m.xf, .list (m.po.map rowW) false, .list (m.rf.map rowW) false, .list (m.co.map rowW) false, .list (m.fr.map rowW) false, .list (m.addr.map rowW) false, .list (m.data.map rowW) false, .list (m.ctrl.map rowW) false, .list (m.fenced.map rowW) false, .list (m.sync.map rowW) false, .list (m.lwsync.map rowW) false, .list (m.pairs.map rowW) false] := rfl
attribute [local irreducible] orL thenG lay2 whereG keepG mkR cntR starG

def MG.fence (m : MG) : List W := lay2 qOr m.sync (lay2 qMinus m.lwsync (keepG m.lwsync m.write m.read))
def MG.hb (m : MG) : List W := orL [m.ppo, m.fence, m.ext m.rf]
def MG.com (m : MG) : List W := orL [m.rf, m.co, m.fr]
def MG.base (m : MG) : List W := thenG (lay2 qOr m.fence (thenG (m.ext m.rf) m.fence)) (starG m.hb)
def MG.strong (m : MG) : List W := thenG (thenG (thenG (starG m.com) (starG m.base)) m.sync) (starG m.hb)
def MG.prop (m : MG) : List W := lay2 qOr (keepG m.base m.write m.write) m.strong
def sp_made : Sp := ⟨MG, fun m => [.dptr m.cells 0], fun m => .data m.Ok (.tup [.d (.list (m.hb.map rowW) false), .d (.list (m.prop.map rowW) false), .d (.list (m.com.map rowW) false)]) false⟩
theorem at_made (m : MG) : sp_made.at [.dptr m.cells 0] = .data m.Ok (.tup [.d (.list (m.hb.map rowW) false), .d (.list (m.prop.map rowW) false), .d (.list (m.com.map rowW) false)]) false :=
  Sp.at_enc (s := sp_made) (fun (x y : MG) h => by
    simp only [sp_made, List.cons.injEq, AV.dptr.injEq, and_true] at h
    exact MG.cells_inj _ _ h) m
theorem starG_64 (a : List W) : ((starG a).length ≤ 64) = True := eqT (starG_le a)
theorem starG_M (a : List W) : ((starG a).length ≤ maxLen) = True := eqT (le_M (starG_le a))
theorem ppo_64 (m : MG) : (m.ppo.length ≤ 64) = True := lay2_64 _ _ _
theorem ppo_M (m : MG) : (m.ppo.length ≤ maxLen) = True := lay2_M _ _ _
theorem body_power_model_made {T : Tab} {n1 n2 n3 n4 n5 n6 n7 n8 : Nat} (k1 : Knows T n1 (sp_lay2 qOr).dat) (k2 : Knows T n2 sp_Then.dat) (k3 : Knows T n3 sp_ext) (k4 : Knows T n4 sp_Star.dat) (k5 : Knows T n5 sp_ppo)
    (k6 : Knows T n6 (sp_lay2 qMinus).dat) (k7 : Knows T n7 sp_keep) (k8 : Knows T n8 sp_pall) :
    sp_made.Body T V_power_model_made (L_power_model_made n1 n2 n3 n4 n5 n6 n7 n8) R_power_model_made := by
  have F1 := k1.F; have G1 := k1.G; have F2 := k2.F; have G2 := k2.G; have F3 := k3.F; have G3 := k3.G; have F4 := k4.F; have G4 := k4.G; have F5 := k5.F; have G5 := k5.G
  have F6 := k6.F; have G6 := k6.G; have F7 := k7.F; have G7 := k7.G; have F8 := k8.F; have G8 := k8.G
  rintro (m : MG) hm
  have hm : m.Ok := hm
  refine ⟨rfl, ?_⟩
  unfold V_power_model_made L_power_model_made R_power_model_made
  simp only [↓vck_skip, ↓vck_ret, ↓vck_exit, ↓vck_region, ↓vck_nilq, ↓nilTo_to, nilG_d, nilG_r, ↓vck_seq, ↓vck_cond, ↓vck_block, ↓vck_loop, ↓vckTo_to, ↓thenK_n, ↓thenK_x, ↓thenK_r, ↓blockK_n, ↓blockK_x, ↓blockK_o, ↓blockK_r, ↓regK_to, ↓retK_r, ↓retK_n, ↓loopV_n, ↓loopV_x, ↓loopV_r, ↓famK_n, ↓famK_x, ↓famK_r, ↓boolK_true, ↓boolK_false, ↓boolK_not, ↓boolK_dec, ↓boolK_and, nf_mk, RGk_end_f, RGk_end_t, RGk_op, RGk_guard, opK_to, evN, evCallN, grow_mk, feet_f, feet_t, foot_mk, stepK_mk, stepK_v, stepK_no, guardG_t, guardG_f, guardG_no, condG_b, evT, Opd.ev, get_hit, get_next, app_to, app_no, app_up, app_skip, app_skipn, know_mk, knowO_t, knowO_c, envFrom, reserve, keeps, LOp.isNew, State.prune, cellsQ, cellsT, AV.leaf, Heap.at, evLoad_ptr, evLoad_dptr, loadO_vec, loadO_dvec1, stepK_load_map, idx_I, idx_W, rowW, set_rowW, app_rowW, app_rowW0, rep_rowW0, rowB, set_rowB, rep_rowB, rowN, lens_W, lensA_W, scal_rowW, default_W, w_or, w_and, w_andNot, w_and1, w_shl, w_shl1, w_shr, w_sub1, w_neg, w_add, w_bit, w_eq0, w_eq1, w_eq, Bool.decide_eq_true, idx_Rat, idx_Loc, idx_Act, idx_Step, idx_Stamp, stepK_idx_ref, evStore_ptr, storeO_vec, stepK_store_map1, loadDT_f, rowI, RatG.row, LocG.row, ActG.row, StepG.row, StampG.row, ActG.av, ActG.eta, RatG.eta, LocG.eta, beq_true, beq_false, loadDT_t, set_rowI, app_rowI, rep_rowI, set_rowRat, app_rowRat, rep_rowRat, set_rowLoc, app_rowLoc, app_rowAct, app_rowStep, List.length_set, List.length_replicate, toNat_cast, Int.reduceToNat, evLen, evAppend, srcOf, Src.all, Src.len, Src.leaf, joinV, drows_rep1, drows_rep2, drows_rep3, drows_rep4, drows_rep5, drows_rep6, drows_rep7, drows_rep8, mkVec, drows, evMk, List.length_map, take_mapF, drop_mapF, List.take_length, List.take_left, List.length_append, Nat.le_add_right, ite_self, List.take_of_length_le, evSlice, intOr, intOpd, Option.isSome_none, Option.isSome_some, Nat.sub_zero, loadQ, loadT, evBin, evUn, evIdxArr_d, evIdxArr_p, binT, binQ, chk, apartF, List.contains_cons, List.contains_nil, Bool.or_false, Bool.false_or, Bool.and_self, resQ, resV, resT, pickV, evCallT, evCall, fnOf, viewsT, isD, HO.drow, viewT, evInt2, evEq, eqV, eqK, eqC1, buildQ, buildT, buildRQ, buildRT, lens_I, lensA_I, lens_Rat, lensA_Rat, lens_Loc, lensA_Loc, lens_Act, lensA_Act, lens_Step, lensA_Step, lens_Stamp, lensA_Stamp, List.mem_cons, List.not_mem_nil, or_false, forall_eq, putRow, dcells, get_nil, RetS, RetF, RetD, AV.frz, AV.frzL, AV.freshP, AV.freshL, DV.less, scal_int, scal_bool, scal_nil, scal_rowI, scal_rowRat, scal_rowStep, Option.some.injEq, AV.tup.injEq, AV.agg.injEq, List.cons.injEq, DV.list.injEq, List.isEmpty_nil, Nat.le_refl, AV.d.injEq, DV.int.injEq, DV.bool.injEq, ↓reduceIte, Nat.reduceEqDiff, Nat.reduceAdd, Nat.reduceBEq, List.length_cons, List.length_nil, List.replicate_succ, List.replicate_zero, List.nil_append, List.cons_append, List.append_nil, List.foldl_cons, List.foldl_nil, List.map_cons, List.map_nil, List.all_cons, List.all_nil, List.set_cons_zero, List.set_cons_succ, List.getD_cons_zero, List.getD_cons_succ, List.drop_zero, List.drop_succ_cons, List.take_succ_cons, List.take_zero, List.flatten_cons, List.flatten_nil, Bool.true_and, Bool.and_true, Bool.not_true, Bool.not_false, true_and, and_true, true_or, or_true, Option.bind_some, Option.map_some, decide_true, decide_false, beq_self_eq_true, true_implies, false_implies, implies_true, not_true_eq_false, not_false_eq_true, and_self, Bool.and_false, Bool.false_and, Nat.reduceLT, Nat.reduceLeDiff, List.reverse_cons, List.reverse_nil, Nat.zero_add, Nat.add_zero, Bool.false_eq_true, List.getElem?_cons_zero, Nat.reduceMul, Nat.mul_one, sp_made, F1, G1, F2, G2, F3, G3, F4, G4, F5, G5, F6, G6, F7, G7, F8, G8, Sp.at_dat, SpecR.dat_rows, at_lay2, at_Then, at_ext, at_Star, at_ppo, at_keep, at_pall2, at_pall3, at_pall4, at_pall5,
    cells_len, cells_0, cells_1, cells_2, cells_3, cells_4, cells_5, cells_6, cells_7, cells_8, cells_9, cells_10, cells_11, cells_12, cells_13, cells_14, cells_mid]
  have hn := hm.n
  simp only [lay2_64, lay2_M, thenG_64, thenG_M, starG_64, starG_M, ppo_64, ppo_M, whereG_len, keepG_len, orL_64, orL_M, hm.po.len, hm.rf.len, hm.co.len, hm.fr.len, hm.sync.len, hm.lwsync.len, eqT hm, eqT hm.n, eqT (le_M hm.n), Nat.le_refl, and_true, true_and]
  exact ⟨rfl, rfl, rfl⟩

/-! ### Ppo, Prop, Check -/
def sp_Ppo : Sp := ⟨XG, fun x => [x.av], fun x => .data (x.Ok ∧ (ofXG x).Ok) (.d (.list ((ofXG x).ppo.map rowW) false)) false⟩
theorem at_PpoX (x : XG) : sp_Ppo.at [x.av] = .data (x.Ok ∧ (ofXG x).Ok) (.d (.list ((ofXG x).ppo.map rowW) false)) false :=
  Sp.at_enc (s := sp_Ppo) (fun (x y : XG) h => by
    simp only [sp_Ppo, List.cons.injEq, and_true] at h
    exact XG.av_inj _ _ h) x
theorem fitX_sq {n : Nat} (hn : n ≤ 64) (r : List W × Bool) : Sq n (fitX r n) := Sq.mk hn _
theorem ofXG_len (x : XG) : (ofXG x).nodes.length = x.n := by
  show (x.nodes.take x.n).length = x.n
  rw [List.length_take]; exact Nat.min_eq_left (Nat.min_le_left _ _)
theorem ofXG_ok (x : XG) : (ofXG x).Ok := by
  have hn := n_le x
  constructor
  · rw [ofXG_len]; exact hn
  all_goals rw [ofXG_len]; exact fitX_sq hn _
theorem at_ofX (x : XG) : sp_of.at [.agg [.d (.list (x.nodes.map ActG.row) x.nf), .d (lsX x.po), .d (lsX x.rf), .d (lsX x.co), .d (lsX x.fr), .d (lsX x.addr), .d (lsX x.data), .d (lsX x.ctrl), .d (lsX x.fenced), .d (lsX x.sync), .d (lsX x.lwsync), .d (lsX x.pairs)]] = .data x.Ok (.dptr (ofXG x).cells 0) false := at_of x
theorem body_power_Ppo {T : Tab} {n1 n2 : Nat} (k1 : Knows T n1 sp_of) (k2 : Knows T n2 sp_ppo) : sp_Ppo.Body T V_power_Ppo (L_power_Ppo n1 n2) R_power_Ppo := by
  have F1 := k1.F; have G1 := k1.G; have F2 := k2.F; have G2 := k2.G
  rintro (x : XG) ⟨hx, hm⟩
  refine ⟨rfl, ?_⟩
  unfold V_power_Ppo L_power_Ppo R_power_Ppo
  simp only [↓vck_skip, ↓vck_ret, ↓vck_exit, ↓vck_region, ↓vck_nilq, ↓nilTo_to, nilG_d, nilG_r, ↓vck_seq, ↓vck_cond, ↓vck_block, ↓vck_loop, ↓vckTo_to, ↓thenK_n, ↓thenK_x, ↓thenK_r, ↓blockK_n, ↓blockK_x, ↓blockK_o, ↓blockK_r, ↓regK_to, ↓retK_r, ↓retK_n, ↓loopV_n, ↓loopV_x, ↓loopV_r, ↓famK_n, ↓famK_x, ↓famK_r, ↓boolK_true, ↓boolK_false, ↓boolK_not, ↓boolK_dec, ↓boolK_and, nf_mk, RGk_end_f, RGk_end_t, RGk_op, RGk_guard, opK_to, evN, evCallN, grow_mk, feet_f, feet_t, foot_mk, stepK_mk, stepK_v, stepK_no, guardG_t, guardG_f, guardG_no, condG_b, evT, Opd.ev, get_hit, get_next, app_to, app_no, app_up, app_skip, app_skipn, know_mk, knowO_t, knowO_c, envFrom, reserve, keeps, LOp.isNew, State.prune, cellsQ, cellsT, AV.leaf, Heap.at, evLoad_ptr, evLoad_dptr, loadO_vec, loadO_dvec1, stepK_load_map, idx_I, idx_W, rowW, set_rowW, app_rowW, app_rowW0, rep_rowW0, rowB, set_rowB, rep_rowB, rowN, lens_W, lensA_W, scal_rowW, default_W, w_or, w_and, w_andNot, w_and1, w_shl, w_shl1, w_shr, w_sub1, w_neg, w_add, w_bit, w_eq0, w_eq1, w_eq, Bool.decide_eq_true, idx_Rat, idx_Loc, idx_Act, idx_Step, idx_Stamp, stepK_idx_ref, evStore_ptr, storeO_vec, stepK_store_map1, loadDT_f, rowI, RatG.row, LocG.row, ActG.row, StepG.row, StampG.row, ActG.av, ActG.eta, RatG.eta, LocG.eta, beq_true, beq_false, loadDT_t, set_rowI, app_rowI, rep_rowI, set_rowRat, app_rowRat, rep_rowRat, set_rowLoc, app_rowLoc, app_rowAct, app_rowStep, List.length_set, List.length_replicate, toNat_cast, Int.reduceToNat, evLen, evAppend, srcOf, Src.all, Src.len, Src.leaf, joinV, drows_rep1, drows_rep2, drows_rep3, drows_rep4, drows_rep5, drows_rep6, drows_rep7, drows_rep8, mkVec, drows, evMk, List.length_map, take_mapF, drop_mapF, List.take_length, List.take_left, List.length_append, Nat.le_add_right, ite_self, List.take_of_length_le, evSlice, intOr, intOpd, Option.isSome_none, Option.isSome_some, Nat.sub_zero, loadQ, loadT, evBin, evUn, evIdxArr_d, evIdxArr_p, binT, binQ, chk, apartF, List.contains_cons, List.contains_nil, Bool.or_false, Bool.false_or, Bool.and_self, resQ, resV, resT, pickV, evCallT, evCall, fnOf, viewsT, isD, HO.drow, viewT, evInt2, evEq, eqV, eqK, eqC1, buildQ, buildT, buildRQ, buildRT, lens_I, lensA_I, lens_Rat, lensA_Rat, lens_Loc, lensA_Loc, lens_Act, lensA_Act, lens_Step, lensA_Step, lens_Stamp, lensA_Stamp, List.mem_cons, List.not_mem_nil, or_false, forall_eq, putRow, dcells, get_nil, RetS, RetF, RetD, AV.frz, AV.frzL, AV.freshP, AV.freshL, DV.less, scal_int, scal_bool, scal_nil, scal_rowI, scal_rowRat, scal_rowStep, Option.some.injEq, AV.tup.injEq, AV.agg.injEq, List.cons.injEq, DV.list.injEq, List.isEmpty_nil, Nat.le_refl, AV.d.injEq, DV.int.injEq, DV.bool.injEq, ↓reduceIte, Nat.reduceEqDiff, Nat.reduceAdd, Nat.reduceBEq, List.length_cons, List.length_nil, List.replicate_succ, List.replicate_zero, List.nil_append, List.cons_append, List.append_nil, List.foldl_cons, List.foldl_nil, List.map_cons, List.map_nil, List.all_cons, List.all_nil, List.set_cons_zero, List.set_cons_succ, List.getD_cons_zero, List.getD_cons_succ, List.drop_zero, List.drop_succ_cons, List.take_succ_cons, List.take_zero, List.flatten_cons, List.flatten_nil, Bool.true_and, Bool.and_true, Bool.not_true, Bool.not_false, true_and, and_true, true_or, or_true, Option.bind_some, Option.map_some, decide_true, decide_false, beq_self_eq_true, true_implies, false_implies, implies_true, not_true_eq_false, not_false_eq_true, and_self, Bool.and_false, Bool.false_and, Nat.reduceLT, Nat.reduceLeDiff, List.reverse_cons, List.reverse_nil, Nat.zero_add, Nat.add_zero, Bool.false_eq_true, List.getElem?_cons_zero, Nat.reduceMul, Nat.mul_one, sp_Ppo, F1, G1, F2, G2, at_ofX, at_ppo, XG.av]
  exact ⟨hx, hm⟩
def sp_Prop : Sp := ⟨XG, fun x => [x.av], fun x => .data (x.Ok ∧ (ofXG x).Ok) (.d (.list ((ofXG x).prop.map rowW) false)) false⟩
theorem at_PropX (x : XG) : sp_Prop.at [x.av] = .data (x.Ok ∧ (ofXG x).Ok) (.d (.list ((ofXG x).prop.map rowW) false)) false :=
  Sp.at_enc (s := sp_Prop) (fun (x y : XG) h => by
    simp only [sp_Prop, List.cons.injEq, and_true] at h
    exact XG.av_inj _ _ h) x
theorem body_power_Prop {T : Tab} {n1 n2 : Nat} (k1 : Knows T n1 sp_of) (k2 : Knows T n2 sp_made) : sp_Prop.Body T V_power_Prop (L_power_Prop n1 n2) R_power_Prop := by
  have F1 := k1.F; have G1 := k1.G; have F2 := k2.F; have G2 := k2.G
  rintro (x : XG) ⟨hx, hm⟩
  refine ⟨rfl, ?_⟩
  unfold V_power_Prop L_power_Prop R_power_Prop
  simp only [↓vck_skip, ↓vck_ret, ↓vck_exit, ↓vck_region, ↓vck_nilq, ↓nilTo_to, nilG_d, nilG_r, ↓vck_seq, ↓vck_cond, ↓vck_block, ↓vck_loop, ↓vckTo_to, ↓thenK_n, ↓thenK_x, ↓thenK_r, ↓blockK_n, ↓blockK_x, ↓blockK_o, ↓blockK_r, ↓regK_to, ↓retK_r, ↓retK_n, ↓loopV_n, ↓loopV_x, ↓loopV_r, ↓famK_n, ↓famK_x, ↓famK_r, ↓boolK_true, ↓boolK_false, ↓boolK_not, ↓boolK_dec, ↓boolK_and, nf_mk, RGk_end_f, RGk_end_t, RGk_op, RGk_guard, opK_to, evN, evCallN, grow_mk, feet_f, feet_t, foot_mk, stepK_mk, stepK_v, stepK_no, guardG_t, guardG_f, guardG_no, condG_b, evT, Opd.ev, get_hit, get_next, app_to, app_no, app_up, app_skip, app_skipn, know_mk, knowO_t, knowO_c, envFrom, reserve, keeps, LOp.isNew, State.prune, cellsQ, cellsT, AV.leaf, Heap.at, evLoad_ptr, evLoad_dptr, loadO_vec, loadO_dvec1, stepK_load_map, idx_I, idx_W, rowW, set_rowW, app_rowW, app_rowW0, rep_rowW0, rowB, set_rowB, rep_rowB, rowN, lens_W, lensA_W, scal_rowW, default_W, w_or, w_and, w_andNot, w_and1, w_shl, w_shl1, w_shr, w_sub1, w_neg, w_add, w_bit, w_eq0, w_eq1, w_eq, Bool.decide_eq_true, idx_Rat, idx_Loc, idx_Act, idx_Step, idx_Stamp, stepK_idx_ref, evStore_ptr, storeO_vec, stepK_store_map1, loadDT_f, rowI, RatG.row, LocG.row, ActG.row, StepG.row, StampG.row, ActG.av, ActG.eta, RatG.eta, LocG.eta, beq_true, beq_false, loadDT_t, set_rowI, app_rowI, rep_rowI, set_rowRat, app_rowRat, rep_rowRat, set_rowLoc, app_rowLoc, app_rowAct, app_rowStep, List.length_set, List.length_replicate, toNat_cast, Int.reduceToNat, evLen, evAppend, srcOf, Src.all, Src.len, Src.leaf, joinV, drows_rep1, drows_rep2, drows_rep3, drows_rep4, drows_rep5, drows_rep6, drows_rep7, drows_rep8, mkVec, drows, evMk, List.length_map, take_mapF, drop_mapF, List.take_length, List.take_left, List.length_append, Nat.le_add_right, ite_self, List.take_of_length_le, evSlice, intOr, intOpd, Option.isSome_none, Option.isSome_some, Nat.sub_zero, loadQ, loadT, evBin, evUn, evIdxArr_d, evIdxArr_p, binT, binQ, chk, apartF, List.contains_cons, List.contains_nil, Bool.or_false, Bool.false_or, Bool.and_self, resQ, resV, resT, pickV, evCallT, evCall, fnOf, viewsT, isD, HO.drow, viewT, evInt2, evEq, eqV, eqK, eqC1, buildQ, buildT, buildRQ, buildRT, lens_I, lensA_I, lens_Rat, lensA_Rat, lens_Loc, lensA_Loc, lens_Act, lensA_Act, lens_Step, lensA_Step, lens_Stamp, lensA_Stamp, List.mem_cons, List.not_mem_nil, or_false, forall_eq, putRow, dcells, get_nil, RetS, RetF, RetD, AV.frz, AV.frzL, AV.freshP, AV.freshL, DV.less, scal_int, scal_bool, scal_nil, scal_rowI, scal_rowRat, scal_rowStep, Option.some.injEq, AV.tup.injEq, AV.agg.injEq, List.cons.injEq, DV.list.injEq, List.isEmpty_nil, Nat.le_refl, AV.d.injEq, DV.int.injEq, DV.bool.injEq, ↓reduceIte, Nat.reduceEqDiff, Nat.reduceAdd, Nat.reduceBEq, List.length_cons, List.length_nil, List.replicate_succ, List.replicate_zero, List.nil_append, List.cons_append, List.append_nil, List.foldl_cons, List.foldl_nil, List.map_cons, List.map_nil, List.all_cons, List.all_nil, List.set_cons_zero, List.set_cons_succ, List.getD_cons_zero, List.getD_cons_succ, List.drop_zero, List.drop_succ_cons, List.take_succ_cons, List.take_zero, List.flatten_cons, List.flatten_nil, Bool.true_and, Bool.and_true, Bool.not_true, Bool.not_false, true_and, and_true, true_or, or_true, Option.bind_some, Option.map_some, decide_true, decide_false, beq_self_eq_true, true_implies, false_implies, implies_true, not_true_eq_false, not_false_eq_true, and_self, Bool.and_false, Bool.false_and, Nat.reduceLT, Nat.reduceLeDiff, List.reverse_cons, List.reverse_nil, Nat.zero_add, Nat.add_zero, Bool.false_eq_true, List.getElem?_cons_zero, Nat.reduceMul, Nat.mul_one, sp_Prop, F1, G1, F2, G2, at_ofX, at_made, XG.av]
  exact ⟨hx, hm⟩
def selfG (r : List W) : Bool := (List.range r.length).any fun i => (r.getD i 0#64).getLsbD i
def MG.seen (m : MG) : List W := thenG (thenG (m.ext m.fr) m.prop) (starG m.hb)
def MG.check (m : MG) : Int :=
  if ringG (lay2 qOr m.poloc m.com) = true then 1
  else if ringG m.hb = true then 2
  else if selfG m.seen = true then 3
  else if ringG (lay2 qOr m.co m.prop) = true then 4
  else if ((lay2 qAnd m.pairs (thenG (m.ext m.fr) (m.ext m.co))).any nzW) = true then 5
  else 0
def sp_Check : Sp := ⟨XG, fun x => [x.av], fun x => .data (x.Ok ∧ (ofXG x).Ok) (.d (.int .i64 (ofXG x).check)) true⟩
theorem at_CheckX (x : XG) : sp_Check.at [x.av] = .data (x.Ok ∧ (ofXG x).Ok) (.d (.int .i64 (ofXG x).check)) true :=
  Sp.at_enc (s := sp_Check) (fun (x y : XG) h => by
    simp only [sp_Check, List.cons.injEq, and_true] at h
    exact XG.av_inj _ _ h) x
theorem body_power_Check {T : Tab} {n1 n2 n3 n4 n5 n6 n7 n8 n9 n10 : Nat} (k1 : Knows T n1 (sp_lay2 qOr).dat) (k2 : Knows T n2 sp_Ring) (k3 : Knows T n3 (sp_lay2 qAnd).dat) (k4 : Knows T n4 sp_Then.dat) (k5 : Knows T n5 sp_of)
    (k6 : Knows T n6 sp_made) (k7 : Knows T n7 sp_ext) (k8 : Knows T n8 sp_Star.dat) (k9 : Knows T n9 sp_poloc) (k10 : Knows T n10 sp_empty) :
    sp_Check.Body T V_power_Check (L_power_Check n1 n2 n3 n4 n5 n6 n7 n8 n9 n10) R_power_Check := by
  have F1 := k1.F; have G1 := k1.G; have F2 := k2.F; have G2 := k2.G; have F3 := k3.F; have G3 := k3.G; have F4 := k4.F; have G4 := k4.G; have F5 := k5.F; have G5 := k5.G
  have F6 := k6.F; have G6 := k6.G; have F7 := k7.F; have G7 := k7.G; have F8 := k8.F; have G8 := k8.G; have F9 := k9.F; have G9 := k9.G; have F10 := k10.F; have G10 := k10.G
  rintro (x : XG) ⟨hx, hm⟩
  refine .inl ⟨rfl, ?_⟩
  unfold V_power_Check L_power_Check R_power_Check
  simp only [↓vck_skip, ↓vck_ret, ↓vck_exit, ↓vck_region, ↓vck_nilq, ↓nilTo_to, nilG_d, nilG_r, ↓vck_seq, ↓vck_cond, ↓vck_block, ↓vck_loop, ↓vckTo_to, ↓thenK_n, ↓thenK_x, ↓thenK_r, ↓blockK_n, ↓blockK_x, ↓blockK_o, ↓blockK_r, ↓regK_to, ↓retK_r, ↓retK_n, ↓loopV_n, ↓loopV_x, ↓loopV_r, ↓famK_n, ↓famK_x, ↓famK_r, ↓boolK_true, ↓boolK_false, ↓boolK_not, ↓boolK_dec, ↓boolK_and, nf_mk, RGk_end_f, RGk_end_t, RGk_op, RGk_guard, opK_to, evN, evCallN, grow_mk, feet_f, feet_t, foot_mk, stepK_mk, stepK_v, stepK_no, guardG_t, guardG_f, guardG_no, condG_b, evT, Opd.ev, get_hit, get_next, app_to, app_no, app_up, app_skip, app_skipn, know_mk, knowO_t, knowO_c, envFrom, reserve, keeps, LOp.isNew, State.prune, cellsQ, cellsT, AV.leaf, Heap.at, evLoad_ptr, evLoad_dptr, loadO_vec, loadO_dvec1, stepK_load_map, idx_I, idx_W, rowW, set_rowW, app_rowW, app_rowW0, rep_rowW0, rowB, set_rowB, rep_rowB, rowN, lens_W, lensA_W, scal_rowW, default_W, w_or, w_and, w_andNot, w_and1, w_shl, w_shl1, w_shr, w_sub1, w_neg, w_add, w_bit, w_eq0, w_eq1, w_eq, Bool.decide_eq_true, idx_Rat, idx_Loc, idx_Act, idx_Step, idx_Stamp, stepK_idx_ref, evStore_ptr, storeO_vec, stepK_store_map1, loadDT_f, rowI, RatG.row, LocG.row, ActG.row, StepG.row, StampG.row, ActG.av, ActG.eta, RatG.eta, LocG.eta, beq_true, beq_false, loadDT_t, set_rowI, app_rowI, rep_rowI, set_rowRat, app_rowRat, rep_rowRat, set_rowLoc, app_rowLoc, app_rowAct, app_rowStep, List.length_set, List.length_replicate, toNat_cast, Int.reduceToNat, evLen, evAppend, srcOf, Src.all, Src.len, Src.leaf, joinV, drows_rep1, drows_rep2, drows_rep3, drows_rep4, drows_rep5, drows_rep6, drows_rep7, drows_rep8, mkVec, drows, evMk, List.length_map, take_mapF, drop_mapF, List.take_length, List.take_left, List.length_append, Nat.le_add_right, ite_self, List.take_of_length_le, evSlice, intOr, intOpd, Option.isSome_none, Option.isSome_some, Nat.sub_zero, loadQ, loadT, evBin, evUn, evIdxArr_d, evIdxArr_p, binT, binQ, chk, apartF, List.contains_cons, List.contains_nil, Bool.or_false, Bool.false_or, Bool.and_self, resQ, resV, resT, pickV, evCallT, evCall, fnOf, viewsT, isD, HO.drow, viewT, evInt2, evEq, eqV, eqK, eqC1, buildQ, buildT, buildRQ, buildRT, lens_I, lensA_I, lens_Rat, lensA_Rat, lens_Loc, lensA_Loc, lens_Act, lensA_Act, lens_Step, lensA_Step, lens_Stamp, lensA_Stamp, List.mem_cons, List.not_mem_nil, or_false, forall_eq, putRow, dcells, get_nil, RetS, RetF, RetD, AV.frz, AV.frzL, AV.freshP, AV.freshL, DV.less, scal_int, scal_bool, scal_nil, scal_rowI, scal_rowRat, scal_rowStep, Option.some.injEq, AV.tup.injEq, AV.agg.injEq, List.cons.injEq, DV.list.injEq, List.isEmpty_nil, Nat.le_refl, AV.d.injEq, DV.int.injEq, DV.bool.injEq, ↓reduceIte, Nat.reduceEqDiff, Nat.reduceAdd, Nat.reduceBEq, List.length_cons, List.length_nil, List.replicate_succ, List.replicate_zero, List.nil_append, List.cons_append, List.append_nil, List.foldl_cons, List.foldl_nil, List.map_cons, List.map_nil, List.all_cons, List.all_nil, List.set_cons_zero, List.set_cons_succ, List.getD_cons_zero, List.getD_cons_succ, List.drop_zero, List.drop_succ_cons, List.take_succ_cons, List.take_zero, List.flatten_cons, List.flatten_nil, Bool.true_and, Bool.and_true, Bool.not_true, Bool.not_false, true_and, and_true, true_or, or_true, Option.bind_some, Option.map_some, decide_true, decide_false, beq_self_eq_true, true_implies, false_implies, implies_true, not_true_eq_false, not_false_eq_true, and_self, Bool.and_false, Bool.false_and, Nat.reduceLT, Nat.reduceLeDiff, List.reverse_cons, List.reverse_nil, Nat.zero_add, Nat.add_zero, Bool.false_eq_true, List.getElem?_cons_zero, Nat.reduceMul, Nat.mul_one, sp_Check, F1, G1, F2, G2, F3, G3, F4, G4, F5, G5, F6, G6, F7, G7, F8, G8, F9, G9, F10, G10, Sp.at_dat, SpecR.dat_rows, at_lay2, at_Then, at_ext, at_Star, at_Ring, at_made, at_poloc, at_empty, at_ofX, XG.av,
    cells_len, cells_0, cells_1, cells_2, cells_3, cells_4, cells_5, cells_6, cells_7, cells_8, cells_9, cells_10, cells_11, cells_12, cells_13, cells_14]
  revert hm
  generalize ofXG x = m
  intro hm
  have hn := hm.n
  have hb : (m.hb.length ≤ maxLen) = True := orL_M _
  have hp : (m.prop.length ≤ maxLen) = True := lay2_M _ _ _
  have hc : (m.com.length ≤ maxLen) = True := orL_M _
  have hS : (thenG (thenG (whereG m.nodes apartQ m.fr) m.prop) (starG m.hb)).length ≤ 64 := by rw [thenG_64]; trivial
  simp only [lay2_64, lay2_M, thenG_64, thenG_M, starG_64, starG_M, whereG_len, orL_64, orL_M, hm.po.len, hm.rf.len, hm.co.len, hm.fr.len, hm.pairs.len, hb, hp, hc, eqT hx, eqT hm, eqT hm.n, eqT (le_M hm.n), Nat.le_refl, and_true, true_and]
  have he : m.seen = thenG (thenG (whereG m.nodes apartQ m.fr) m.prop) (starG m.hb) := rfl
  rw [← he] at hS ⊢
  have hchk : m.check = if ringG (lay2 qOr (whereG m.nodes locQ m.po) m.com) = true then 1
  else if ringG m.hb = true then 2
  else if selfG m.seen = true then 3
  else if ringG (lay2 qOr m.co m.prop) = true then 4
  else if ((lay2 qAnd m.pairs (thenG (whereG m.nodes apartQ m.fr) (whereG m.nodes apartQ m.co))).any nzW) = true then 5
  else 0 := rfl
  rw [hchk]
  generalize m.seen = S at *
  refine Loop.fam [3, 4, 5, 6, 7, 9, 33, 34, 35] (fun i : Nat => ⟨[(3, .dptr m.cells 0), (4, .d (.list (m.hb.map rowW) false)), (5, .d (.list (m.prop.map rowW) false)), (6, .d (.list (m.com.map rowW) false)), (7, .d (.list ((whereG m.nodes apartQ m.fr).map rowW) false)),
      (9, .d (.bool ((List.range i).any fun i => (S.getD i 0#64).getLsbD i))), (33, .d (.list (S.map rowW) false)), (34, .d (.int .i64 S.length)), (35, .d (.int .i64 i))], []⟩) (fun i => i ≤ S.length) (fun i => S.length - i) 0 [] (by simp) (by simp) (by simp only [State.can, AV.can, AV.canL, HO.can, canRows, idx, get_hit, get_next, Heap.at, Nat.reduceBEq, ↓reduceIte, Nat.reduceEqDiff, Option.getD_some, Option.map_some, List.map_cons, List.map_nil, List.getD_cons_zero, List.getD_cons_succ]; rfl) (by omega) ?_
  intro i hi
  simp only [↓vck_skip, ↓vck_ret, ↓vck_exit, ↓vck_region, ↓vck_nilq, ↓nilTo_to, nilG_d, nilG_r, ↓vck_seq, ↓vck_cond, ↓vck_block, ↓vck_loop, ↓vckTo_to, ↓thenK_n, ↓thenK_x, ↓thenK_r, ↓blockK_n, ↓blockK_x, ↓blockK_o, ↓blockK_r, ↓regK_to, ↓retK_r, ↓retK_n, ↓loopV_n, ↓loopV_x, ↓loopV_r, ↓famK_n, ↓famK_x, ↓famK_r, ↓boolK_true, ↓boolK_false, ↓boolK_not, ↓boolK_dec, ↓boolK_and, nf_mk, RGk_end_f, RGk_end_t, RGk_op, RGk_guard, opK_to, evN, evCallN, grow_mk, feet_f, feet_t, foot_mk, stepK_mk, stepK_v, stepK_no, guardG_t, guardG_f, guardG_no, condG_b, evT, Opd.ev, get_hit, get_next, app_to, app_no, app_up, app_skip, app_skipn, know_mk, knowO_t, knowO_c, envFrom, reserve, keeps, LOp.isNew, State.prune, cellsQ, cellsT, AV.leaf, Heap.at, evLoad_ptr, evLoad_dptr, loadO_vec, loadO_dvec1, stepK_load_map, idx_I, idx_W, rowW, set_rowW, app_rowW, app_rowW0, rep_rowW0, rowB, set_rowB, rep_rowB, rowN, lens_W, lensA_W, scal_rowW, default_W, w_or, w_and, w_andNot, w_and1, w_shl, w_shl1, w_shr, w_sub1, w_neg, w_add, w_bit, w_eq0, w_eq1, w_eq, Bool.decide_eq_true, idx_Rat, idx_Loc, idx_Act, idx_Step, idx_Stamp, stepK_idx_ref, evStore_ptr, storeO_vec, stepK_store_map1, loadDT_f, rowI, RatG.row, LocG.row, ActG.row, StepG.row, StampG.row, ActG.av, ActG.eta, RatG.eta, LocG.eta, beq_true, beq_false, loadDT_t, set_rowI, app_rowI, rep_rowI, set_rowRat, app_rowRat, rep_rowRat, set_rowLoc, app_rowLoc, app_rowAct, app_rowStep, List.length_set, List.length_replicate, toNat_cast, Int.reduceToNat, evLen, evAppend, srcOf, Src.all, Src.len, Src.leaf, joinV, drows_rep1, drows_rep2, drows_rep3, drows_rep4, drows_rep5, drows_rep6, drows_rep7, drows_rep8, mkVec, drows, evMk, List.length_map, take_mapF, drop_mapF, List.take_length, List.take_left, List.length_append, Nat.le_add_right, ite_self, List.take_of_length_le, evSlice, intOr, intOpd, Option.isSome_none, Option.isSome_some, Nat.sub_zero, loadQ, loadT, evBin, evUn, evIdxArr_d, evIdxArr_p, binT, binQ, chk, apartF, List.contains_cons, List.contains_nil, Bool.or_false, Bool.false_or, Bool.and_self, resQ, resV, resT, pickV, evCallT, evCall, fnOf, viewsT, isD, HO.drow, viewT, evInt2, evEq, eqV, eqK, eqC1, buildQ, buildT, buildRQ, buildRT, lens_I, lensA_I, lens_Rat, lensA_Rat, lens_Loc, lensA_Loc, lens_Act, lensA_Act, lens_Step, lensA_Step, lens_Stamp, lensA_Stamp, List.mem_cons, List.not_mem_nil, or_false, forall_eq, putRow, dcells, get_nil, RetS, RetF, RetD, AV.frz, AV.frzL, AV.freshP, AV.freshL, DV.less, scal_int, scal_bool, scal_nil, scal_rowI, scal_rowRat, scal_rowStep, Option.some.injEq, AV.tup.injEq, AV.agg.injEq, List.cons.injEq, DV.list.injEq, List.isEmpty_nil, Nat.le_refl, AV.d.injEq, DV.int.injEq, DV.bool.injEq, ↓reduceIte, Nat.reduceEqDiff, Nat.reduceAdd, Nat.reduceBEq, List.length_cons, List.length_nil, List.replicate_succ, List.replicate_zero, List.nil_append, List.cons_append, List.append_nil, List.foldl_cons, List.foldl_nil, List.map_cons, List.map_nil, List.all_cons, List.all_nil, List.set_cons_zero, List.set_cons_succ, List.getD_cons_zero, List.getD_cons_succ, List.drop_zero, List.drop_succ_cons, List.take_succ_cons, List.take_zero, List.flatten_cons, List.flatten_nil, Bool.true_and, Bool.and_true, Bool.not_true, Bool.not_false, true_and, and_true, true_or, or_true, Option.bind_some, Option.map_some, decide_true, decide_false, beq_self_eq_true, true_implies, false_implies, implies_true, not_true_eq_false, not_false_eq_true, and_self, Bool.and_false, Bool.false_and, Nat.reduceLT, Nat.reduceLeDiff, List.reverse_cons, List.reverse_nil, Nat.zero_add, Nat.add_zero, Bool.false_eq_true, List.getElem?_cons_zero, Nat.reduceMul, Nat.mul_one, sp_Check, F1, G1, F2, G2, F3, G3, F4, G4, F5, G5, F6, G6, F7, G7, F8, G8, F9, G9, F10, G10, Sp.at_dat, SpecR.dat_rows, at_lay2, at_Then, at_ext, at_Star, at_Ring, at_made, at_poloc, at_empty,
    cells_len, cells_0, cells_1, cells_2, cells_3, cells_4, cells_5, cells_6, cells_7, cells_8, cells_9, cells_10, cells_11, cells_12, cells_13, cells_14]
  refine ⟨fun c => ?_, fun c => ?_⟩
  · have c' : i < S.length := by omega
    have hnext : ∀ b : Bool, ((List.range (i + 1)).any fun i => (S.getD i 0#64).getLsbD i) = (((List.range i).any fun i => (S.getD i 0#64).getLsbD i) || (S.getD i 0#64).getLsbD i) := fun _ => by
      rw [List.range_succ, List.any_append]; simp
    rw [wrapU (k := i) (by omega), wrap_succ c' (by unfold maxLen; omega)]
    simp only [toNat_cast]
    refine ⟨⟨by omega, by omega⟩, fun h => ?_, fun h => ⟨by omega, ?_⟩⟩
    · refine FamNext.mk [] (i + 1) (by simp) (by simp) ?_ (by omega) (by omega)
      rw [hnext true, h]
      simp only [State.can, AV.can, AV.canL, HO.can, canRows, idx, get_hit, get_next, Heap.at, Nat.reduceBEq, ↓reduceIte, Nat.reduceEqDiff, Option.getD_some, Option.map_some, List.map_cons, List.map_nil, List.getD_cons_zero, List.getD_cons_succ, Bool.true_or]
    · refine FamNext.mk [] (i + 1) (by simp) (by simp) ?_ (by omega) (by omega)
      rw [hnext true, h]
      simp only [State.can, AV.can, AV.canL, HO.can, canRows, idx, get_hit, get_next, Heap.at, Nat.reduceBEq, ↓reduceIte, Nat.reduceEqDiff, Option.getD_some, Option.map_some, List.map_cons, List.map_nil, List.getD_cons_zero, List.getD_cons_succ, Bool.false_or]
  · have : i = S.length := by omega
    subst this
    have hself : ((List.range S.length).any fun i => (S.getD i 0#64).getLsbD i) = selfG S := rfl
    simp only [hself, lay2_64, lay2_M, thenG_64, thenG_M, starG_64, starG_M, whereG_len, orL_64, orL_M, hm.po.len, hm.rf.len, hm.co.len, hm.fr.len, hm.pairs.len, hb, hp, hc, eqT hm, eqT hm.n, eqT (le_M hm.n), Nat.le_refl, and_true, true_and]
    refine ⟨fun h1 => ?_, fun h1 => ⟨fun h2 => ?_, fun h2 => ⟨fun h3 => ?_, fun h3 => ⟨fun h4 => ?_, fun h4 => ?_⟩⟩⟩⟩
    · rw [if_pos h1]
    · rw [h1, if_neg (by simp), if_pos h2]
    · rw [h1, h2, if_neg (by simp), if_neg (by simp), if_pos h3]
    · rw [h1, h2, h3, if_neg (by simp), if_neg (by simp), if_neg (by simp), if_pos h4]
    · rw [h1, h2, h3, h4, if_neg (by simp), if_neg (by simp), if_neg (by simp), if_neg (by simp)]
      exact ⟨fun h => by rw [if_pos h], fun h => by rw [h]; rfl⟩
end Go.Ago

/- Relations that package power is handed, as data. Conditions: none. -/
set_option linter.unusedSimpArgs false
set_option linter.unusedVariables false
namespace Go.Ago
theorem scal_lay2 {q : Bool → Bool → Bool} (x : (sp_lay2 q).A) (ok : Prop) (sz : Nat) (l : List (List DV)) (h : (sp_lay2 q).out x = .rows ok sz l) : ∀ r ∈ l, ∀ y ∈ r, DV.scal y = true := by
  simp only [sp_lay2, SpecR.rows.injEq] at h
  rw [← h.2.2]; exact scal_W
theorem bodyD_rel_Union {T : Tab} {n1 n2 n_rel_Union_1 n_rel_Inter_1 n_rel_Minus_1 n_rel_Plus_1 : Nat} (k1 : Knows T n1 (sp_lay (hs4 n_rel_Union_1 n_rel_Inter_1 n_rel_Minus_1 n_rel_Plus_1))) (e1 : hs4 n_rel_Union_1 n_rel_Inter_1 n_rel_Minus_1 n_rel_Plus_1 n2 = some orW) :
    (Sp.dat (sp_lay2 qOr)).Body T V_rel_Union (L_rel_Union n1 n2) R_rel_Union := (body_rel_Union k1 e1).dat scal_lay2
theorem bodyD_rel_Inter {T : Tab} {n1 n2 n_rel_Union_1 n_rel_Inter_1 n_rel_Minus_1 n_rel_Plus_1 : Nat} (k1 : Knows T n1 (sp_lay (hs4 n_rel_Union_1 n_rel_Inter_1 n_rel_Minus_1 n_rel_Plus_1))) (e1 : hs4 n_rel_Union_1 n_rel_Inter_1 n_rel_Minus_1 n_rel_Plus_1 n2 = some andW) :
    (Sp.dat (sp_lay2 qAnd)).Body T V_rel_Inter (L_rel_Inter n1 n2) R_rel_Inter := (body_rel_Inter k1 e1).dat scal_lay2
theorem bodyD_rel_Minus {T : Tab} {n1 n2 n_rel_Union_1 n_rel_Inter_1 n_rel_Minus_1 n_rel_Plus_1 : Nat} (k1 : Knows T n1 (sp_lay (hs4 n_rel_Union_1 n_rel_Inter_1 n_rel_Minus_1 n_rel_Plus_1))) (e1 : hs4 n_rel_Union_1 n_rel_Inter_1 n_rel_Minus_1 n_rel_Plus_1 n2 = some minusW) :
    (Sp.dat (sp_lay2 qMinus)).Body T V_rel_Minus (L_rel_Minus n1 n2) R_rel_Minus := (body_rel_Minus k1 e1).dat scal_lay2
theorem bodyD_rel_Then {T : Tab} {n1 n2 n3 : Nat} (k1 : Knows T n1 sp_size) (k2 : Knows T n2 sp_row) (k3 : Knows T n3 sp_tz) : (Sp.dat sp_Then).Body T V_rel_Then (L_rel_Then n1 n2 n3) R_rel_Then :=
  (body_rel_Then k1 k2 k3).dat (fun x ok sz l h => by simp only [sp_Then, SpecR.rows.injEq] at h; rw [← h.2.2]; exact scal_W)
theorem bodyD_rel_Star {T : Tab} {n1 : Nat} (k1 : Knows T n1 sp_Plus) : (Sp.dat sp_Star).Body T V_rel_Star (L_rel_Star n1) R_rel_Star :=
  (body_rel_Star k1).dat (fun x ok sz l h => by simp only [sp_Star, SpecR.rows.injEq] at h; rw [← h.2.2]; exact scal_W)
end Go.Ago

/- The laws of layer 19: PowerNone. Conditions: none. -/
set_option maxRecDepth 100000
set_option linter.unusedSimpArgs false
set_option linter.unusedVariables false
namespace Go.Ago

/-- Nothing stands to anything. -/
def Zr (r : List W) : Prop := ∀ i k, hasN r i k = false
theorem Zr.lay2 {q : Bool → Bool → Bool} (hq : q false false = false) {a b : List W} (ha : Zr a) (hb : Zr b) : Zr (lay2 q a b) := fun i k => by
  rw [hasN_lay2 hq, ha, hb, hq]
theorem Zr.and {a b : List W} (hb : Zr b) : Zr (Go.Ago.lay2 qAnd a b) := fun i k => by
  rw [hasN_lay2 rfl, hb]; simp [qAnd]
theorem Zr.minus {a b : List W} (ha : Zr a) : Zr (Go.Ago.lay2 qMinus a b) := fun i k => by
  rw [hasN_lay2 rfl, ha]; simp [qMinus]
theorem Zr.then1 {a b : List W} (ha : Zr a) : Zr (thenG a b) := fun i k => by
  rw [hasN_then]
  cases h : thenP a b i k with
  | false => rfl
  | true => obtain ⟨j, h1, _⟩ := thenP_iff.1 h; rw [ha] at h1; cases h1
theorem Zr.then2 {a b : List W} (hb : Zr b) : Zr (thenG a b) := fun i k => by
  rw [hasN_then]
  cases h : thenP a b i k with
  | false => rfl
  | true => obtain ⟨j, _, h1⟩ := thenP_iff.1 h; rw [hb] at h1; cases h1
theorem Zr.orL {l : List (List W)} (h : ∀ r ∈ l, Zr r) : Zr (Go.Ago.orL l) := fun i k => by
  rw [hasN_orL, List.any_eq_false]
  intro r hr; rw [h r hr]; simp
theorem Zr.keep {r : List W} {a b : W} (h : Zr r) : Zr (keepG r a b) := fun i k => by
  have := h i k
  unfold hasN at this ⊢
  have hl : szR (keepG r a b) = szR r := by unfold szR; rw [keepG_len]
  rw [hl]
  by_cases hi : i < szR r
  · have hr := szR_len r
    have e : (keepG r a b).getD i 0#64 = if a.getLsbD i then r.getD i 0#64 &&& b else 0#64 := by unfold keepG; rw [mapW_get (by omega)]
    rw [e]
    by_cases hk : k < szR r
    · simp only [hi, hk, decide_true, Bool.true_and] at this ⊢
      split
      · rw [BitVec.getLsbD_and, this]; rfl
      · simp
    · simp [hk]
  · simp [hi]
theorem Zr.whereG {l : List NodeG} {q : NodeG → NodeG → Bool} {r : List W} (hl : r.length ≤ 64) (h : Zr r) : Zr (Go.Ago.whereG l q r) := fun i k => by
  unfold Go.Ago.whereG
  rw [hasN_mk hl, h]; simp
theorem way_none {p : Nat → Nat → Bool} (h : ∀ i k, p i k = false) : ∀ (m i k : Nat), way p m i k = false := by
  intro m
  induction m with
  | zero => exact h
  | succ m ih => intro i k; simp only [way, ih, Bool.false_and, Bool.or_false]
theorem Zr.ring {r : List W} (h : Zr r) : ringG r = false := by
  unfold ringG
  rw [List.any_eq_false]
  intro i _
  rw [way_none h]; simp
theorem Zr.self {n : Nat} {r : List W} (hn : n ≤ 64) (hs : Sq n r) (h : Zr r) : selfG r = false := by
  unfold selfG
  rw [List.any_eq_false]
  intro i hi
  have hi : i < r.length := by simpa using hi
  have e : hasN r i i = (r.getD i 0#64).getLsbD i := by
    have hl := hs.len
    have : i < szR r := by unfold szR; omega
    unfold hasN; simp only [this, decide_true, Bool.true_and]
  rw [← e, h]; simp
theorem Zr.selfThen {a b : List W} (h : Zr (thenG a b)) : selfG (thenG a b) = false := Zr.self (mxR_le a b) (by unfold thenG; exact Sq.mk (mxR_le a b) _) h
theorem Zr.nz {n : Nat} {r : List W} (hs : Sq n r) (h : Zr r) : r.any nzW = false := by
  rw [hs.eq, List.any_eq_false]
  intro x hx
  unfold mkR at hx
  obtain ⟨i, _, rfl⟩ := List.mem_map.1 hx
  have : ofB (hasN r i) n = 0#64 := by
    apply W.ext
    intro k _
    rw [get_ofB, h]; simp
  rw [this]; simp [nzW]
attribute [local irreducible] orL thenG lay2 whereG keepG mkR cntR starG
theorem limP_zero {s : P4} (h : Zr s.ii ∧ Zr s.ci ∧ Zr s.ic ∧ Zr s.cc) : Zr (limP s).ii ∧ Zr (limP s).ci ∧ Zr (limP s).ic ∧ Zr (limP s).cc :=
  fixF_keep (f := stepP) (Q := fun s : P4 => Zr s.ii ∧ Zr s.ci ∧ Zr s.ic ∧ Zr s.cc) (fun s ⟨h1, h2, h3, h4⟩ => by
    unfold stepP
    refine ⟨Zr.orL ?_, Zr.orL ?_, Zr.orL ?_, Zr.orL ?_⟩ <;> intro r hr <;> simp only [List.mem_cons, List.not_mem_nil, or_false] at hr
    · rcases hr with rfl | rfl | rfl | rfl
      · exact h1
      · exact h2
      · exact Zr.then1 h3
      · exact Zr.then1 h1
    · rcases hr with rfl | rfl | rfl
      · exact h2
      · exact Zr.then1 h2
      · exact Zr.then1 h4
    · rcases hr with rfl | rfl | rfl | rfl | rfl
      · exact h3
      · exact h1
      · exact h4
      · exact Zr.then1 h3
      · exact Zr.then1 h1
    · rcases hr with rfl | rfl | rfl | rfl
      · exact h4
      · exact h2
      · exact Zr.then1 h2
      · exact Zr.then1 h4) _ _ h
theorem zr_zero (n : Nat) : Zr (List.replicate n 0#64) := fun i k => by
  unfold hasN
  have : (List.replicate n 0#64).getD i 0#64 = 0#64 := by
    rw [List.getD_eq_getElem?_getD, List.getElem?_replicate]; split <;> rfl
  rw [this]; simp
/-- Where nothing leads to anything, no axiom is broken. -/
theorem check_none {m : MG} (hm : m.Ok) (h1 : Zr m.po) (h2 : Zr m.rf) (h3 : Zr m.co) (h4 : Zr m.fr) (h5 : Zr m.addr) (h6 : Zr m.data) (h7 : Zr m.ctrl) (h8 : Zr m.fenced) (h9 : Zr m.sync) (h10 : Zr m.lwsync) : m.check = 0 := by
  have hn := hm.n
  have e : ∀ {r : List W} {q}, Sq m.nodes.length r → Zr r → Zr (whereG m.nodes q r) := fun hs h => Zr.whereG (by rw [hs.len]; exact hn) h
  have rfe : Zr (m.ext m.rf) := e hm.rf h2
  have fre : Zr (m.ext m.fr) := e hm.fr h4
  have coe : Zr (m.ext m.co) := e hm.co h3
  have loc : Zr m.poloc := e hm.po h1
  have dd : Zr m.dd := Zr.lay2 rfl h5 h6
  have st : Zr (limP m.start).ii ∧ Zr (limP m.start).ci ∧ Zr (limP m.start).ic ∧ Zr (limP m.start).cc := limP_zero (by
    unfold MG.start
    refine ⟨Zr.orL ?_, Zr.orL ?_, zr_zero _, Zr.orL ?_⟩ <;> intro r hr <;> simp only [List.mem_cons, List.not_mem_nil, or_false] at hr
    · rcases hr with rfl | rfl | rfl
      · exact dd
      · exact Zr.minus h2
      · exact Zr.and (Zr.then1 fre)
    · rcases hr with rfl | rfl
      · exact h8
      · exact Zr.and (Zr.then1 coe)
    · rcases hr with rfl | rfl | rfl | rfl
      · exact dd
      · exact loc
      · exact h7
      · exact Zr.then1 h5)
  have ppo : Zr m.ppo := Zr.lay2 rfl (Zr.keep st.1) (Zr.keep st.2.2.1)
  have fence : Zr m.fence := Zr.lay2 rfl h9 (Zr.minus h10)
  have hb : Zr m.hb := Zr.orL (fun r hr => by
    simp only [List.mem_cons, List.not_mem_nil, or_false] at hr
    rcases hr with rfl | rfl | rfl
    · exact ppo
    · exact fence
    · exact rfe)
  have com : Zr m.com := Zr.orL (fun r hr => by
    simp only [List.mem_cons, List.not_mem_nil, or_false] at hr
    rcases hr with rfl | rfl | rfl
    · exact h2
    · exact h3
    · exact h4)
  have base : Zr m.base := Zr.then1 (Zr.lay2 rfl fence (Zr.then1 rfe))
  have strong : Zr m.strong := Zr.then1 (Zr.then2 h9)
  have prop : Zr m.prop := Zr.lay2 rfl (Zr.keep base) strong
  have seen : Zr m.seen := Zr.then1 (Zr.then1 fre)
  have lw : ∀ q r, (whereG m.nodes q r).length = r.length := fun q r => whereG_len _ _ _
  have lext : ∀ {r}, Sq m.nodes.length r → (m.ext r).length = m.nodes.length := fun hs => by unfold MG.ext; rw [lw, hs.len]
  have sseen : selfG m.seen = false := Zr.selfThen seen
  have spair : (lay2 qAnd m.pairs (thenG (m.ext m.fr) (m.ext m.co))).any nzW = false :=
    Zr.nz (Sq.lay2 hm.pairs.len (Sq.thenG (lext hm.fr) (lext hm.co) hn).len hn) (Zr.and (Zr.then1 fre))
  unfold MG.check
  rw [Zr.ring (Zr.lay2 rfl loc com), Zr.ring hb, sseen, Zr.ring (Zr.lay2 rfl h3 prop), spair]
  rfl
/-- Nodes that nothing leads to. -/
def bareX (nodes : List NodeG) (nf : Bool) (pairs : List W) (pf : Bool) : XG := ⟨nodes, nf, ([], true), ([], true), ([], true), ([], true), ([], true), ([], true), ([], true), ([], true), ([], true), ([], true), (pairs, pf)⟩
theorem at_bare (nodes : List NodeG) (nf : Bool) (pairs : List W) (pf : Bool) : sp_Check.at [.agg [.d (.list (nodes.map ActG.row) nf), .d (.list [] true), .d (.list [] true), .d (.list [] true), .d (.list [] true), .d (.list [] true), .d (.list [] true), .d (.list [] true), .d (.list [] true), .d (.list [] true), .d (.list [] true), .d (.list (pairs.map rowW) pf)]] =
    .data ((bareX nodes nf pairs pf).Ok ∧ (ofXG (bareX nodes nf pairs pf)).Ok) (.d (.int .i64 (ofXG (bareX nodes nf pairs pf)).check)) true := at_CheckX (bareX nodes nf pairs pf)
theorem fit_nil (n : Nat) : Zr (fitX ([], true) n) := fun i k => by
  unfold fitX fitG
  have h0 : ∀ i k, hasN (trimG [] n) i k = false := fun i k => by
    have := zr_zero n i k
    simpa [trimG] using this
  by_cases hn : n ≤ 64
  · rw [hasN_mk hn, h0]; simp
  · have e : mkR n (hasN (trimG [] n)) = mkR n (fun _ _ => false) := mkR_congr fun i k _ _ => h0 i k
    rw [e, ← mkR_zero (p := fun _ _ => false) (fun _ _ _ _ => rfl)]
    exact zr_zero n i k
theorem law_PowerNone {T : Tab} {n1 n2 : Nat} (k1 : Knows T n1 sp_true) (k2 : Knows T n2 sp_Check) (nodes : List NodeG) (nf : Bool) (pairs : List W) (pf : Bool) (h1 : nodes.length ≤ maxLen) (h2 : pairs.length ≤ maxLen) :
    Holds T V_law19_PowerNone (L_law19_PowerNone n1 n2) R_law19_PowerNone [.d (.list (nodes.map ActG.row) nf), .d (.list (pairs.map rowW) pf)] := by
  have F1 := k1.F; have G1 := k1.G; have F2 := k2.F; have G2 := k2.G
  unfold Holds V_law19_PowerNone L_law19_PowerNone R_law19_PowerNone
  simp only [↓vck_skip, ↓vck_ret, ↓vck_exit, ↓vck_region, ↓vck_nilq, ↓nilTo_to, nilG_d, nilG_r, ↓vck_seq, ↓vck_cond, ↓vck_block, ↓vck_loop, ↓vckTo_to, ↓thenK_n, ↓thenK_x, ↓thenK_r, ↓blockK_n, ↓blockK_x, ↓blockK_o, ↓blockK_r, ↓regK_to, ↓retK_r, ↓retK_n, ↓loopV_n, ↓loopV_x, ↓loopV_r, ↓famK_n, ↓famK_x, ↓famK_r, ↓boolK_true, ↓boolK_false, ↓boolK_not, ↓boolK_dec, ↓boolK_and, nf_mk, RGk_end_f, RGk_end_t, RGk_op, RGk_guard, opK_to, evN, evCallN, grow_mk, feet_f, feet_t, foot_mk, stepK_mk, stepK_v, stepK_no, guardG_t, guardG_f, guardG_no, condG_b, evT, Opd.ev, get_hit, get_next, app_to, app_no, app_up, app_skip, app_skipn, know_mk, knowO_t, knowO_c, envFrom, reserve, keeps, LOp.isNew, State.prune, cellsQ, cellsT, AV.leaf, Heap.at, evLoad_ptr, evLoad_dptr, loadO_vec, loadO_dvec1, stepK_load_map, idx_I, idx_W, rowW, set_rowW, app_rowW, app_rowW0, rep_rowW0, rowB, set_rowB, rep_rowB, rowN, lens_W, lensA_W, scal_rowW, default_W, w_or, w_and, w_andNot, w_and1, w_shl, w_shl1, w_shr, w_sub1, w_neg, w_add, w_bit, w_eq0, w_eq1, w_eq, Bool.decide_eq_true, idx_Rat, idx_Loc, idx_Act, idx_Step, idx_Stamp, stepK_idx_ref, evStore_ptr, storeO_vec, stepK_store_map1, loadDT_f, rowI, RatG.row, LocG.row, ActG.row, StepG.row, StampG.row, ActG.av, ActG.eta, RatG.eta, LocG.eta, beq_true, beq_false, loadDT_t, set_rowI, app_rowI, rep_rowI, set_rowRat, app_rowRat, rep_rowRat, set_rowLoc, app_rowLoc, app_rowAct, app_rowStep, List.length_set, List.length_replicate, toNat_cast, Int.reduceToNat, evLen, evAppend, srcOf, Src.all, Src.len, Src.leaf, joinV, drows_rep1, drows_rep2, drows_rep3, drows_rep4, drows_rep5, drows_rep6, drows_rep7, drows_rep8, mkVec, drows, evMk, List.length_map, take_mapF, drop_mapF, List.take_length, List.take_left, List.length_append, Nat.le_add_right, ite_self, List.take_of_length_le, evSlice, intOr, intOpd, Option.isSome_none, Option.isSome_some, Nat.sub_zero, loadQ, loadT, evBin, evUn, evIdxArr_d, evIdxArr_p, binT, binQ, chk, apartF, List.contains_cons, List.contains_nil, Bool.or_false, Bool.false_or, Bool.and_self, resQ, resV, resT, pickV, evCallT, evCall, fnOf, viewsT, isD, HO.drow, viewT, evInt2, evEq, eqV, eqK, eqC1, buildQ, buildT, buildRQ, buildRT, lens_I, lensA_I, lens_Rat, lensA_Rat, lens_Loc, lensA_Loc, lens_Act, lensA_Act, lens_Step, lensA_Step, lens_Stamp, lensA_Stamp, List.mem_cons, List.not_mem_nil, or_false, forall_eq, putRow, dcells, get_nil, RetS, RetF, RetD, AV.frz, AV.frzL, AV.freshP, AV.freshL, DV.less, scal_int, scal_bool, scal_nil, scal_rowI, scal_rowRat, scal_rowStep, Option.some.injEq, AV.tup.injEq, AV.agg.injEq, List.cons.injEq, DV.list.injEq, List.isEmpty_nil, Nat.le_refl, AV.d.injEq, DV.int.injEq, DV.bool.injEq, ↓reduceIte, Nat.reduceEqDiff, Nat.reduceAdd, Nat.reduceBEq, List.length_cons, List.length_nil, List.replicate_succ, List.replicate_zero, List.nil_append, List.cons_append, List.append_nil, List.foldl_cons, List.foldl_nil, List.map_cons, List.map_nil, List.all_cons, List.all_nil, List.set_cons_zero, List.set_cons_succ, List.getD_cons_zero, List.getD_cons_succ, List.drop_zero, List.drop_succ_cons, List.take_succ_cons, List.take_zero, List.flatten_cons, List.flatten_nil, Bool.true_and, Bool.and_true, Bool.not_true, Bool.not_false, true_and, and_true, true_or, or_true, Option.bind_some, Option.map_some, decide_true, decide_false, beq_self_eq_true, true_implies, false_implies, implies_true, not_true_eq_false, not_false_eq_true, and_self, Bool.and_false, Bool.false_and, Nat.reduceLT, Nat.reduceLeDiff, List.reverse_cons, List.reverse_nil, Nat.zero_add, Nat.add_zero, Bool.false_eq_true, List.getElem?_cons_zero, Nat.reduceMul, Nat.mul_one, F1, G1, F2, G2, at_true, at_bare]
  have hok : (bareX nodes nf pairs pf).Ok := ⟨h1, Nat.zero_le _, Nat.zero_le _, Nat.zero_le _, Nat.zero_le _, Nat.zero_le _, Nat.zero_le _, Nat.zero_le _, Nat.zero_le _, Nat.zero_le _, Nat.zero_le _, h2⟩
  have hm := ofXG_ok (bareX nodes nf pairs pf)
  have hc : (ofXG (bareX nodes nf pairs pf)).check = 0 := check_none hm (fit_nil _) (fit_nil _) (fit_nil _) (fit_nil _) (fit_nil _) (fit_nil _) (fit_nil _) (fit_nil _) (fit_nil _) (fit_nil _)
  rw [hc]
  exact fun _ => ⟨⟨hok, hm⟩, rfl⟩

/-! ### awake -/
def nodesA : List NodeG := [⟨0, 1, 0, 0⟩, ⟨0, 2, 1, 0⟩, ⟨1, 1, 1, 0⟩, ⟨1, 2, 0, 0⟩]
def nilX : List W × Bool := ([], true)
def poA : List W × Bool := ([2, 0, 8, 0], false)
def rfA : List W × Bool := ([0, 4, 0, 1], false)
def xA : XG := ⟨nodesA, false, poA, rfA, nilX, nilX, nilX, nilX, nilX, nilX, nilX, nilX, nilX⟩
def yA : XG := ⟨nodesA, false, poA, rfA, nilX, nilX, nilX, nilX, poA, nilX, nilX, nilX, nilX⟩
def avA : AV := .agg [.d (.list [[.int .i64 0, .int .i64 1, .int .i64 0, .int .i64 0], [.int .i64 0, .int .i64 2, .int .i64 1, .int .i64 0], [.int .i64 1, .int .i64 1, .int .i64 1, .int .i64 0], [.int .i64 1, .int .i64 2, .int .i64 0, .int .i64 0]] false), .d (.list [[.int .u64 2], [.int .u64 0], [.int .u64 8], [.int .u64 0]] false), .d (.list [[.int .u64 0], [.int .u64 4], [.int .u64 0], [.int .u64 1]] false), .d (.list [] true), .d (.list [] true), .d (.list [] true), .d (.list [] true), .d (.list [] true), .d (.list [] true), .d (.list [] true), .d (.list [] true), .d (.list [] true)]
def avB : AV := .agg [.d (.list [[.int .i64 0, .int .i64 1, .int .i64 0, .int .i64 0], [.int .i64 0, .int .i64 2, .int .i64 1, .int .i64 0], [.int .i64 1, .int .i64 1, .int .i64 1, .int .i64 0], [.int .i64 1, .int .i64 2, .int .i64 0, .int .i64 0]] false), .d (.list [[.int .u64 2], [.int .u64 0], [.int .u64 8], [.int .u64 0]] false), .d (.list [[.int .u64 0], [.int .u64 4], [.int .u64 0], [.int .u64 1]] false), .d (.list [] true), .d (.list [] true), .d (.list [] true), .d (.list [] true), .d (.list [[.int .u64 2], [.int .u64 0], [.int .u64 8], [.int .u64 0]] false), .d (.list [] true), .d (.list [] true), .d (.list [] true), .d (.list [] true)]
theorem avA_eq : avA = xA.av := rfl
theorem avB_eq : avB = yA.av := rfl
theorem ok_xA : xA.Ok := by constructor <;> exact Nat.le_of_ble_eq_true rfl
theorem ok_yA : yA.Ok := by constructor <;> exact Nat.le_of_ble_eq_true rfl
theorem check_xA : (ofXG xA).check = 0 := by decide +kernel
theorem check_yA : (ofXG yA).check = 2 := by decide +kernel
theorem ppo_yA : hasI (ofXG yA).ppo 0 1 = true := by decide +kernel
theorem at_checkA : sp_Check.at [.agg [.d (.list [[.int .i64 0, .int .i64 1, .int .i64 0, .int .i64 0], [.int .i64 0, .int .i64 2, .int .i64 1, .int .i64 0], [.int .i64 1, .int .i64 1, .int .i64 1, .int .i64 0], [.int .i64 1, .int .i64 2, .int .i64 0, .int .i64 0]] false), .d (.list [[.int .u64 2], [.int .u64 0], [.int .u64 8], [.int .u64 0]] false), .d (.list [[.int .u64 0], [.int .u64 4], [.int .u64 0], [.int .u64 1]] false), .d (.list [] true), .d (.list [] true), .d (.list [] true), .d (.list [] true), .d (.list [] true), .d (.list [] true), .d (.list [] true), .d (.list [] true), .d (.list [] true)]] = .data (xA.Ok ∧ (ofXG xA).Ok) (.d (.int .i64 (ofXG xA).check)) true := at_CheckX xA
theorem at_checkB : sp_Check.at [.agg [.d (.list [[.int .i64 0, .int .i64 1, .int .i64 0, .int .i64 0], [.int .i64 0, .int .i64 2, .int .i64 1, .int .i64 0], [.int .i64 1, .int .i64 1, .int .i64 1, .int .i64 0], [.int .i64 1, .int .i64 2, .int .i64 0, .int .i64 0]] false), .d (.list [[.int .u64 2], [.int .u64 0], [.int .u64 8], [.int .u64 0]] false), .d (.list [[.int .u64 0], [.int .u64 4], [.int .u64 0], [.int .u64 1]] false), .d (.list [] true), .d (.list [] true), .d (.list [] true), .d (.list [] true), .d (.list [[.int .u64 2], [.int .u64 0], [.int .u64 8], [.int .u64 0]] false), .d (.list [] true), .d (.list [] true), .d (.list [] true), .d (.list [] true)]] = .data (yA.Ok ∧ (ofXG yA).Ok) (.d (.int .i64 (ofXG yA).check)) true := at_CheckX yA
theorem at_ppoB : sp_Ppo.at [.agg [.d (.list [[.int .i64 0, .int .i64 1, .int .i64 0, .int .i64 0], [.int .i64 0, .int .i64 2, .int .i64 1, .int .i64 0], [.int .i64 1, .int .i64 1, .int .i64 1, .int .i64 0], [.int .i64 1, .int .i64 2, .int .i64 0, .int .i64 0]] false), .d (.list [[.int .u64 2], [.int .u64 0], [.int .u64 8], [.int .u64 0]] false), .d (.list [[.int .u64 0], [.int .u64 4], [.int .u64 0], [.int .u64 1]] false), .d (.list [] true), .d (.list [] true), .d (.list [] true), .d (.list [] true), .d (.list [[.int .u64 2], [.int .u64 0], [.int .u64 8], [.int .u64 0]] false), .d (.list [] true), .d (.list [] true), .d (.list [] true), .d (.list [] true)]] = .data (yA.Ok ∧ (ofXG yA).Ok) (.d (.list ((ofXG yA).ppo.map rowW) false)) false := at_PpoX yA
theorem body_law19_awake {T : Tab} {n1 n2 n3 : Nat} (k1 : Knows T n1 sp_Check) (k2 : Knows T n2 sp_Ppo) (k3 : Knows T n3 sp_Has) : sp_true.Body T V_law19_awake (L_law19_awake n1 n2 n3) R_law19_awake := by
  have F1 := k1.F; have G1 := k1.G; have F2 := k2.F; have G2 := k2.G; have F3 := k3.F; have G3 := k3.G
  rintro ⟨⟩ -
  refine .inl ⟨rfl, ?_⟩
  unfold V_law19_awake L_law19_awake R_law19_awake
  simp only [↓vck_skip, ↓vck_ret, ↓vck_exit, ↓vck_region, ↓vck_nilq, ↓nilTo_to, nilG_d, nilG_r, ↓vck_seq, ↓vck_cond, ↓vck_block, ↓vck_loop, ↓vckTo_to, ↓thenK_n, ↓thenK_x, ↓thenK_r, ↓blockK_n, ↓blockK_x, ↓blockK_o, ↓blockK_r, ↓regK_to, ↓retK_r, ↓retK_n, ↓loopV_n, ↓loopV_x, ↓loopV_r, ↓famK_n, ↓famK_x, ↓famK_r, ↓boolK_true, ↓boolK_false, ↓boolK_not, ↓boolK_dec, ↓boolK_and, nf_mk, RGk_end_f, RGk_end_t, RGk_op, RGk_guard, opK_to, evN, evCallN, grow_mk, feet_f, feet_t, foot_mk, stepK_mk, stepK_v, stepK_no, guardG_t, guardG_f, guardG_no, condG_b, evT, Opd.ev, get_hit, get_next, app_to, app_no, app_up, app_skip, app_skipn, know_mk, knowO_t, knowO_c, envFrom, reserve, keeps, LOp.isNew, State.prune, cellsQ, cellsT, AV.leaf, Heap.at, evLoad_ptr, evLoad_dptr, loadO_vec, loadO_dvec1, stepK_load_map, idx_I, idx_W, rowW, set_rowW, app_rowW, app_rowW0, rep_rowW0, rowB, set_rowB, rep_rowB, rowN, lens_W, lensA_W, scal_rowW, default_W, w_or, w_and, w_andNot, w_and1, w_shl, w_shl1, w_shr, w_sub1, w_neg, w_add, w_bit, w_eq0, w_eq1, w_eq, Bool.decide_eq_true, idx_Rat, idx_Loc, idx_Act, idx_Step, idx_Stamp, stepK_idx_ref, evStore_ptr, storeO_vec, stepK_store_map1, loadDT_f, rowI, RatG.row, LocG.row, ActG.row, StepG.row, StampG.row, ActG.av, ActG.eta, RatG.eta, LocG.eta, beq_true, beq_false, loadDT_t, set_rowI, app_rowI, rep_rowI, set_rowRat, app_rowRat, rep_rowRat, set_rowLoc, app_rowLoc, app_rowAct, app_rowStep, List.length_set, List.length_replicate, toNat_cast, Int.reduceToNat, evLen, evAppend, srcOf, Src.all, Src.len, Src.leaf, joinV, drows_rep1, drows_rep2, drows_rep3, drows_rep4, drows_rep5, drows_rep6, drows_rep7, drows_rep8, mkVec, drows, evMk, List.length_map, take_mapF, drop_mapF, List.take_length, List.take_left, List.length_append, Nat.le_add_right, ite_self, List.take_of_length_le, evSlice, intOr, intOpd, Option.isSome_none, Option.isSome_some, Nat.sub_zero, loadQ, loadT, evBin, evUn, evIdxArr_d, evIdxArr_p, binT, binQ, chk, apartF, List.contains_cons, List.contains_nil, Bool.or_false, Bool.false_or, Bool.and_self, resQ, resV, resT, pickV, evCallT, evCall, fnOf, viewsT, isD, HO.drow, viewT, evInt2, evEq, eqV, eqK, eqC1, buildQ, buildT, buildRQ, buildRT, lens_I, lensA_I, lens_Rat, lensA_Rat, lens_Loc, lensA_Loc, lens_Act, lensA_Act, lens_Step, lensA_Step, lens_Stamp, lensA_Stamp, List.mem_cons, List.not_mem_nil, or_false, forall_eq, putRow, dcells, get_nil, RetS, RetF, RetD, AV.frz, AV.frzL, AV.freshP, AV.freshL, DV.less, scal_int, scal_bool, scal_nil, scal_rowI, scal_rowRat, scal_rowStep, Option.some.injEq, AV.tup.injEq, AV.agg.injEq, List.cons.injEq, DV.list.injEq, List.isEmpty_nil, Nat.le_refl, AV.d.injEq, DV.int.injEq, DV.bool.injEq, ↓reduceIte, Nat.reduceEqDiff, Nat.reduceAdd, Nat.reduceBEq, List.length_cons, List.length_nil, List.replicate_succ, List.replicate_zero, List.nil_append, List.cons_append, List.append_nil, List.foldl_cons, List.foldl_nil, List.map_cons, List.map_nil, List.all_cons, List.all_nil, List.set_cons_zero, List.set_cons_succ, List.getD_cons_zero, List.getD_cons_succ, List.drop_zero, List.drop_succ_cons, List.take_succ_cons, List.take_zero, List.flatten_cons, List.flatten_nil, Bool.true_and, Bool.and_true, Bool.not_true, Bool.not_false, true_and, and_true, true_or, or_true, Option.bind_some, Option.map_some, decide_true, decide_false, beq_self_eq_true, true_implies, false_implies, implies_true, not_true_eq_false, not_false_eq_true, and_self, Bool.and_false, Bool.false_and, Nat.reduceLT, Nat.reduceLeDiff, List.reverse_cons, List.reverse_nil, Nat.zero_add, Nat.add_zero, Bool.false_eq_true, List.getElem?_cons_zero, Nat.reduceMul, Nat.mul_one, sp_true, F1, G1, F2, G2, F3, G3, at_checkA, at_checkB, at_ppoB, at_Has, check_xA, check_yA, ppo_yA]
  exact ⟨⟨ok_xA, ofXG_ok _⟩, ⟨ok_yA, ofXG_ok _⟩, ⟨ok_yA, ofXG_ok _⟩, le_M (by rw [ppo_64]; trivial)⟩
end Go.Ago
