/- Contracts of package rel: Back, Plus, Star, Ring. Conditions: none. -/
import Derived.Test.YtkcdbaagjhgmcaaDoorAgoP5
import Derived.Test.YtkcdbaagjhgmcaaDoorAgoP4
set_option maxRecDepth 100000
set_option linter.unusedSimpArgs false
set_option linter.unusedVariables false
namespace Go.Ago

/-! ### Back -/
def backG (R : List W) : List W := mkR (szR R) fun i k => hasN R k i
def backS (R : List W) (i : Nat) (x : W) (a k : Nat) : Bool := hasN R k a && (decide (k < i) || decide (k = i) && !x.getLsbD a)
def sp_Back : Sp := ⟨List W × Bool, fun x => [.d (.list (x.1.map rowW) x.2)], fun x => .rows (x.1.length ≤ maxLen) 1 ((backG x.1).map rowW)⟩
theorem at_Back (A : List W) (e : Bool) : sp_Back.at [.d (.list (A.map rowW) e)] = .rows (A.length ≤ maxLen) 1 ((backG A).map rowW) :=
  Sp.at_enc (s := sp_Back) (fun x y h => by
    obtain ⟨a, b⟩ := x; obtain ⟨a', b'⟩ := y
    simp only [sp_Back, List.cons.injEq, AV.d.injEq, DV.list.injEq, and_true] at h
    rw [rows_inj rowW_inj h.1, h.2]) (A, e)
theorem one_shl {i k : Nat} (hi : i < 64) : (1#64 <<< i).getLsbD k = decide (i = k) := by
  by_cases hk : k < 64
  · rw [BitVec.getLsbD_shiftLeft, BitVec.getLsbD_one]
    by_cases e : i = k
    · subst e; simp [hi]
    · by_cases e2 : k < i
      · simp [e2, e]
      · have : ¬ k - i = 0 := by omega
        simp [e, this]
  · rw [getLsb_ge (by omega)]; simp; omega
theorem body_rel_Back {T : Tab} {n1 n2 n3 : Nat} (k1 : Knows T n1 sp_size) (k2 : Knows T n2 sp_row) (k3 : Knows T n3 sp_tz) : sp_Back.Body T V_rel_Back (L_rel_Back n1 n2 n3) R_rel_Back := by
  have F1 := k1.F; have G1 := k1.G; have F2 := k2.F; have G2 := k2.G; have F3 := k3.F; have G3 := k3.G
  rintro ⟨A, e⟩ h1
  have h1 : A.length ≤ maxLen := h1
  refine ⟨rows_len (f := rowW) (fun _ => rfl) _, ?_⟩
  unfold V_rel_Back L_rel_Back R_rel_Back
  simp only [↓vck_skip, ↓vck_ret, ↓vck_exit, ↓vck_region, ↓vck_nilq, ↓nilTo_to, nilG_d, nilG_r, ↓vck_seq, ↓vck_cond, ↓vck_block, ↓vck_loop, ↓vckTo_to, ↓thenK_n, ↓thenK_x, ↓thenK_r, ↓blockK_n, ↓blockK_x, ↓blockK_o, ↓blockK_r, ↓regK_to, ↓retK_r, ↓retK_n, ↓loopV_n, ↓loopV_x, ↓loopV_r, ↓famK_n, ↓famK_x, ↓famK_r, ↓boolK_true, ↓boolK_false, ↓boolK_not, ↓boolK_dec, ↓boolK_and, nf_mk, RGk_end_f, RGk_end_t, RGk_op, RGk_guard, opK_to, evN, evCallN, grow_mk, feet_f, feet_t, foot_mk, stepK_mk, stepK_v, stepK_no, guardG_t, guardG_f, guardG_no, condG_b, evT, Opd.ev, get_hit, get_next, app_to, app_no, app_up, app_skip, app_skipn, know_mk, knowO_t, knowO_c, envFrom, reserve, keeps, LOp.isNew, State.prune, cellsQ, cellsT, AV.leaf, Heap.at, evLoad_ptr, evLoad_dptr, loadO_vec, loadO_dvec1, stepK_load_map, idx_I, idx_W, rowW, set_rowW, app_rowW, app_rowW0, rep_rowW0, rowB, set_rowB, rep_rowB, rowN, lens_W, lensA_W, scal_rowW, default_W, w_or, w_and, w_andNot, w_and1, w_shl, w_shl1, w_shr, w_sub1, w_neg, w_add, w_bit, w_eq0, w_eq1, w_eq, Bool.decide_eq_true, idx_Rat, idx_Loc, idx_Act, idx_Step, idx_Stamp, stepK_idx_ref, evStore_ptr, storeO_vec, stepK_store_map1, loadDT_f, rowI, RatG.row, LocG.row, ActG.row, StepG.row, StampG.row, ActG.av, ActG.eta, RatG.eta, LocG.eta, beq_true, beq_false, loadDT_t, set_rowI, app_rowI, rep_rowI, set_rowRat, app_rowRat, rep_rowRat, set_rowLoc, app_rowLoc, app_rowAct, app_rowStep, List.length_set, List.length_replicate, toNat_cast, Int.reduceToNat, evLen, evAppend, srcOf, Src.all, Src.len, Src.leaf, joinV, drows_rep1, drows_rep2, drows_rep3, drows_rep4, drows_rep5, drows_rep6, drows_rep7, drows_rep8, mkVec, drows, evMk, List.length_map, take_mapF, drop_mapF, List.take_length, List.take_left, List.length_append, Nat.le_add_right, ite_self, List.take_of_length_le, evSlice, intOr, intOpd, Option.isSome_none, Option.isSome_some, Nat.sub_zero, loadQ, loadT, evBin, evUn, evIdxArr_d, evIdxArr_p, binT, binQ, chk, apartF, List.contains_cons, List.contains_nil, Bool.or_false, Bool.false_or, Bool.and_self, resQ, resV, resT, pickV, evCallT, evCall, fnOf, viewsT, isD, HO.drow, viewT, evInt2, evEq, eqV, eqK, eqC1, buildQ, buildT, buildRQ, buildRT, lens_I, lensA_I, lens_Rat, lensA_Rat, lens_Loc, lensA_Loc, lens_Act, lensA_Act, lens_Step, lensA_Step, lens_Stamp, lensA_Stamp, List.mem_cons, List.not_mem_nil, or_false, forall_eq, putRow, dcells, get_nil, RetS, RetF, RetD, AV.frz, AV.frzL, AV.freshP, AV.freshL, DV.less, scal_int, scal_bool, scal_nil, scal_rowI, scal_rowRat, scal_rowStep, Option.some.injEq, AV.tup.injEq, AV.agg.injEq, List.cons.injEq, DV.list.injEq, List.isEmpty_nil, Nat.le_refl, AV.d.injEq, DV.int.injEq, DV.bool.injEq, ↓reduceIte, Nat.reduceEqDiff, Nat.reduceAdd, Nat.reduceBEq, List.length_cons, List.length_nil, List.replicate_succ, List.replicate_zero, List.nil_append, List.cons_append, List.append_nil, List.foldl_cons, List.foldl_nil, List.map_cons, List.map_nil, List.all_cons, List.all_nil, List.set_cons_zero, List.set_cons_succ, List.getD_cons_zero, List.getD_cons_succ, List.drop_zero, List.drop_succ_cons, List.take_succ_cons, List.take_zero, List.flatten_cons, List.flatten_nil, Bool.true_and, Bool.and_true, Bool.not_true, Bool.not_false, true_and, and_true, true_or, or_true, Option.bind_some, Option.map_some, decide_true, decide_false, beq_self_eq_true, true_implies, false_implies, implies_true, not_true_eq_false, not_false_eq_true, and_self, Bool.and_false, Bool.false_and, Nat.reduceLT, Nat.reduceLeDiff, List.reverse_cons, List.reverse_nil, Nat.zero_add, Nat.add_zero, Bool.false_eq_true, List.getElem?_cons_zero, Nat.reduceMul, Nat.mul_one, sp_Back, F1, G1, F2, G2, F3, G3, at_size, at_row, at_tz]
  have hle := szR_le A
  generalize hn : szR A = n at *
  refine ⟨h1, ⟨by omega, by omega, roomy_of (by omega) (by omega)⟩, ?_⟩
  refine Loop.fam [0, 3, 10, 11] (fun i : Nat => ⟨[(0, .d (.list (A.map rowW) e)), (3, .ref 0 1 0 n true), (10, .d (.int .i64 n)), (11, .d (.int .i64 i))],
      [.dvec 1 ((mkR n (backS A i (rowG A i))).map rowW)]⟩) (fun i => i ≤ n) (fun i => n - i) 0 [0] (by simp) (by simp) (by
        simp only [State.can, AV.can, AV.canL, HO.can, canRows, idx, get_hit, get_next, Heap.at, Nat.reduceBEq, ↓reduceIte, Nat.reduceEqDiff, Option.getD_some, Option.map_some, List.map_cons, List.map_nil, List.getD_cons_zero, List.getD_cons_succ]
        rw [mkR_zero (p := backS A 0 (rowG A 0))]
        · rfl
        · intro a k _ _
          unfold backS
          rw [get_rowG]
          by_cases e0 : k = 0
          · subst e0; cases hasN A 0 a <;> simp
          · simp [e0]) (by omega) ?_
  intro i hi
  simp only [↓vck_skip, ↓vck_ret, ↓vck_exit, ↓vck_region, ↓vck_nilq, ↓nilTo_to, nilG_d, nilG_r, ↓vck_seq, ↓vck_cond, ↓vck_block, ↓vck_loop, ↓vckTo_to, ↓thenK_n, ↓thenK_x, ↓thenK_r, ↓blockK_n, ↓blockK_x, ↓blockK_o, ↓blockK_r, ↓regK_to, ↓retK_r, ↓retK_n, ↓loopV_n, ↓loopV_x, ↓loopV_r, ↓famK_n, ↓famK_x, ↓famK_r, ↓boolK_true, ↓boolK_false, ↓boolK_not, ↓boolK_dec, ↓boolK_and, nf_mk, RGk_end_f, RGk_end_t, RGk_op, RGk_guard, opK_to, evN, evCallN, grow_mk, feet_f, feet_t, foot_mk, stepK_mk, stepK_v, stepK_no, guardG_t, guardG_f, guardG_no, condG_b, evT, Opd.ev, get_hit, get_next, app_to, app_no, app_up, app_skip, app_skipn, know_mk, knowO_t, knowO_c, envFrom, reserve, keeps, LOp.isNew, State.prune, cellsQ, cellsT, AV.leaf, Heap.at, evLoad_ptr, evLoad_dptr, loadO_vec, loadO_dvec1, stepK_load_map, idx_I, idx_W, rowW, set_rowW, app_rowW, app_rowW0, rep_rowW0, rowB, set_rowB, rep_rowB, rowN, lens_W, lensA_W, scal_rowW, default_W, w_or, w_and, w_andNot, w_and1, w_shl, w_shl1, w_shr, w_sub1, w_neg, w_add, w_bit, w_eq0, w_eq1, w_eq, Bool.decide_eq_true, idx_Rat, idx_Loc, idx_Act, idx_Step, idx_Stamp, stepK_idx_ref, evStore_ptr, storeO_vec, stepK_store_map1, loadDT_f, rowI, RatG.row, LocG.row, ActG.row, StepG.row, StampG.row, ActG.av, ActG.eta, RatG.eta, LocG.eta, beq_true, beq_false, loadDT_t, set_rowI, app_rowI, rep_rowI, set_rowRat, app_rowRat, rep_rowRat, set_rowLoc, app_rowLoc, app_rowAct, app_rowStep, List.length_set, List.length_replicate, toNat_cast, Int.reduceToNat, evLen, evAppend, srcOf, Src.all, Src.len, Src.leaf, joinV, drows_rep1, drows_rep2, drows_rep3, drows_rep4, drows_rep5, drows_rep6, drows_rep7, drows_rep8, mkVec, drows, evMk, List.length_map, take_mapF, drop_mapF, List.take_length, List.take_left, List.length_append, Nat.le_add_right, ite_self, List.take_of_length_le, evSlice, intOr, intOpd, Option.isSome_none, Option.isSome_some, Nat.sub_zero, loadQ, loadT, evBin, evUn, evIdxArr_d, evIdxArr_p, binT, binQ, chk, apartF, List.contains_cons, List.contains_nil, Bool.or_false, Bool.false_or, Bool.and_self, resQ, resV, resT, pickV, evCallT, evCall, fnOf, viewsT, isD, HO.drow, viewT, evInt2, evEq, eqV, eqK, eqC1, buildQ, buildT, buildRQ, buildRT, lens_I, lensA_I, lens_Rat, lensA_Rat, lens_Loc, lensA_Loc, lens_Act, lensA_Act, lens_Step, lensA_Step, lens_Stamp, lensA_Stamp, List.mem_cons, List.not_mem_nil, or_false, forall_eq, putRow, dcells, get_nil, RetS, RetF, RetD, AV.frz, AV.frzL, AV.freshP, AV.freshL, DV.less, scal_int, scal_bool, scal_nil, scal_rowI, scal_rowRat, scal_rowStep, Option.some.injEq, AV.tup.injEq, AV.agg.injEq, List.cons.injEq, DV.list.injEq, List.isEmpty_nil, Nat.le_refl, AV.d.injEq, DV.int.injEq, DV.bool.injEq, ↓reduceIte, Nat.reduceEqDiff, Nat.reduceAdd, Nat.reduceBEq, List.length_cons, List.length_nil, List.replicate_succ, List.replicate_zero, List.nil_append, List.cons_append, List.append_nil, List.foldl_cons, List.foldl_nil, List.map_cons, List.map_nil, List.all_cons, List.all_nil, List.set_cons_zero, List.set_cons_succ, List.getD_cons_zero, List.getD_cons_succ, List.drop_zero, List.drop_succ_cons, List.take_succ_cons, List.take_zero, List.flatten_cons, List.flatten_nil, Bool.true_and, Bool.and_true, Bool.not_true, Bool.not_false, true_and, and_true, true_or, or_true, Option.bind_some, Option.map_some, decide_true, decide_false, beq_self_eq_true, true_implies, false_implies, implies_true, not_true_eq_false, not_false_eq_true, and_self, Bool.and_false, Bool.false_and, Nat.reduceLT, Nat.reduceLeDiff, List.reverse_cons, List.reverse_nil, Nat.zero_add, Nat.add_zero, Bool.false_eq_true, List.getElem?_cons_zero, Nat.reduceMul, Nat.mul_one, F1, G1, F2, G2, F3, G3, at_size, at_row, at_tz]
  refine ⟨fun c => ?_, fun c => ?_⟩
  · have c' : i < n := by omega
    refine ⟨⟨by omega, h1⟩, ?_⟩
    refine Loop.fam [0, 3, 4, 5, 10, 11] (fun x : W => ⟨[(0, .d (.list (A.map rowW) e)), (3, .ref 0 1 0 n true), (4, .d (.int .i64 i)), (5, .d (.int .u64 (x.toNat : Int))), (10, .d (.int .i64 n)), (11, .d (.int .i64 i))],
      [.dvec 1 ((mkR n (backS A i x)).map rowW)]⟩) (fun x => ∀ j, x.getLsbD j = true → hasN A i j = true) (fun x => x.toNat) (rowG A i) [0] (by simp) (by simp) (by simp only [State.can, AV.can, AV.canL, HO.can, canRows, idx, get_hit, get_next, Heap.at, Nat.reduceBEq, ↓reduceIte, Nat.reduceEqDiff, Option.getD_some, Option.map_some, List.map_cons, List.map_nil, List.getD_cons_zero, List.getD_cons_succ]) (fun j h => by rw [get_rowG] at h; exact h) ?_
    intro x hx
    simp only [↓vck_skip, ↓vck_ret, ↓vck_exit, ↓vck_region, ↓vck_nilq, ↓nilTo_to, nilG_d, nilG_r, ↓vck_seq, ↓vck_cond, ↓vck_block, ↓vck_loop, ↓vckTo_to, ↓thenK_n, ↓thenK_x, ↓thenK_r, ↓blockK_n, ↓blockK_x, ↓blockK_o, ↓blockK_r, ↓regK_to, ↓retK_r, ↓retK_n, ↓loopV_n, ↓loopV_x, ↓loopV_r, ↓famK_n, ↓famK_x, ↓famK_r, ↓boolK_true, ↓boolK_false, ↓boolK_not, ↓boolK_dec, ↓boolK_and, nf_mk, RGk_end_f, RGk_end_t, RGk_op, RGk_guard, opK_to, evN, evCallN, grow_mk, feet_f, feet_t, foot_mk, stepK_mk, stepK_v, stepK_no, guardG_t, guardG_f, guardG_no, condG_b, evT, Opd.ev, get_hit, get_next, app_to, app_no, app_up, app_skip, app_skipn, know_mk, knowO_t, knowO_c, envFrom, reserve, keeps, LOp.isNew, State.prune, cellsQ, cellsT, AV.leaf, Heap.at, evLoad_ptr, evLoad_dptr, loadO_vec, loadO_dvec1, stepK_load_map, idx_I, idx_W, rowW, set_rowW, app_rowW, app_rowW0, rep_rowW0, rowB, set_rowB, rep_rowB, rowN, lens_W, lensA_W, scal_rowW, default_W, w_or, w_and, w_andNot, w_and1, w_shl, w_shl1, w_shr, w_sub1, w_neg, w_add, w_bit, w_eq0, w_eq1, w_eq, Bool.decide_eq_true, idx_Rat, idx_Loc, idx_Act, idx_Step, idx_Stamp, stepK_idx_ref, evStore_ptr, storeO_vec, stepK_store_map1, loadDT_f, rowI, RatG.row, LocG.row, ActG.row, StepG.row, StampG.row, ActG.av, ActG.eta, RatG.eta, LocG.eta, beq_true, beq_false, loadDT_t, set_rowI, app_rowI, rep_rowI, set_rowRat, app_rowRat, rep_rowRat, set_rowLoc, app_rowLoc, app_rowAct, app_rowStep, List.length_set, List.length_replicate, toNat_cast, Int.reduceToNat, evLen, evAppend, srcOf, Src.all, Src.len, Src.leaf, joinV, drows_rep1, drows_rep2, drows_rep3, drows_rep4, drows_rep5, drows_rep6, drows_rep7, drows_rep8, mkVec, drows, evMk, List.length_map, take_mapF, drop_mapF, List.take_length, List.take_left, List.length_append, Nat.le_add_right, ite_self, List.take_of_length_le, evSlice, intOr, intOpd, Option.isSome_none, Option.isSome_some, Nat.sub_zero, loadQ, loadT, evBin, evUn, evIdxArr_d, evIdxArr_p, binT, binQ, chk, apartF, List.contains_cons, List.contains_nil, Bool.or_false, Bool.false_or, Bool.and_self, resQ, resV, resT, pickV, evCallT, evCall, fnOf, viewsT, isD, HO.drow, viewT, evInt2, evEq, eqV, eqK, eqC1, buildQ, buildT, buildRQ, buildRT, lens_I, lensA_I, lens_Rat, lensA_Rat, lens_Loc, lensA_Loc, lens_Act, lensA_Act, lens_Step, lensA_Step, lens_Stamp, lensA_Stamp, List.mem_cons, List.not_mem_nil, or_false, forall_eq, putRow, dcells, get_nil, RetS, RetF, RetD, AV.frz, AV.frzL, AV.freshP, AV.freshL, DV.less, scal_int, scal_bool, scal_nil, scal_rowI, scal_rowRat, scal_rowStep, Option.some.injEq, AV.tup.injEq, AV.agg.injEq, List.cons.injEq, DV.list.injEq, List.isEmpty_nil, Nat.le_refl, AV.d.injEq, DV.int.injEq, DV.bool.injEq, ↓reduceIte, Nat.reduceEqDiff, Nat.reduceAdd, Nat.reduceBEq, List.length_cons, List.length_nil, List.replicate_succ, List.replicate_zero, List.nil_append, List.cons_append, List.append_nil, List.foldl_cons, List.foldl_nil, List.map_cons, List.map_nil, List.all_cons, List.all_nil, List.set_cons_zero, List.set_cons_succ, List.getD_cons_zero, List.getD_cons_succ, List.drop_zero, List.drop_succ_cons, List.take_succ_cons, List.take_zero, List.flatten_cons, List.flatten_nil, Bool.true_and, Bool.and_true, Bool.not_true, Bool.not_false, true_and, and_true, true_or, or_true, Option.bind_some, Option.map_some, decide_true, decide_false, beq_self_eq_true, true_implies, false_implies, implies_true, not_true_eq_false, not_false_eq_true, and_self, Bool.and_false, Bool.false_and, Nat.reduceLT, Nat.reduceLeDiff, List.reverse_cons, List.reverse_nil, Nat.zero_add, Nat.add_zero, Bool.false_eq_true, List.getElem?_cons_zero, Nat.reduceMul, Nat.mul_one, F1, G1, F2, G2, F3, G3, at_size, at_row, at_tz, wrapU (k := i) (by omega)]
    refine ⟨fun hz => ?_, fun hz => ?_⟩
    rotate_left
    · obtain ⟨t1, t2, t3⟩ := tz_spec hz
      have hat := hx _ t2
      have htn : tz x < n := by have := (hasN_lt hat).2; omega
      rw [mkR_len]
      refine ⟨by omega, by omega, by omega, by omega, by omega, ?_⟩
      refine FamNext.mk [0] (x &&& (x - 1#64)) (by simp) (by simp) ?_ (fun j hj => hx j (by rw [tz_rest hz] at hj; rw [Bool.and_eq_true] at hj; exact hj.1)) (tz_less hz)
      rw [mkR_set (q := backS A i (x &&& (x - 1#64))) htn]
      · simp only [State.can, AV.can, AV.canL, HO.can, canRows, idx, get_hit, get_next, Heap.at, Nat.reduceBEq, ↓reduceIte, Nat.reduceEqDiff, Option.getD_some, Option.map_some, List.map_cons, List.map_nil, List.getD_cons_zero, List.getD_cons_succ]
      · intro k hk
        rw [BitVec.getLsbD_or, mkR_get htn, one_shl (by omega)]
        unfold backS
        rw [tz_rest hz]
        by_cases hkn : k < n
        · by_cases e1 : k = i
          · subst e1; simp [hkn, hk, hat]
          · have : ¬ i = k := fun h => e1 h.symm
            simp [hkn, hk, e1, this]
        · have : ¬ i = k := by omega
          simp [hkn, this]
      · intro a k ha hk hne
        unfold backS
        rw [tz_rest hz]
        simp [hne]
    · have hz : x = 0#64 := by simpa using hz
      subst hz
      rw [wrap_succ c' (by unfold maxLen; omega)]
      refine FamNext.mk [0] (i + 1) (by simp) (by simp) ?_ (by show i + 1 ≤ n; omega) (by show n - (i + 1) < n - i; omega)
      have : mkR n (backS A i 0#64) = mkR n (backS A (i + 1) (rowG A (i + 1))) := by
        apply mkR_congr
        intro a k ha hk
        unfold backS
        rw [get_rowG]
        by_cases e1 : k < i
        · have : k < i + 1 := by omega
          simp [e1, this]
        · by_cases e2 : k = i
          · subst e2; simp
          · have : ¬ k < i + 1 := by omega
            by_cases e3 : k = i + 1
            · subst e3; cases hasN A (i + 1) a <;> simp
            · simp [e1, e2, e3, this]
      rw [this]
      simp only [State.can, AV.can, AV.canL, HO.can, canRows, idx, get_hit, get_next, Heap.at, Nat.reduceBEq, ↓reduceIte, Nat.reduceEqDiff, Option.getD_some, Option.map_some, List.map_cons, List.map_nil, List.getD_cons_zero, List.getD_cons_succ]
  · have : i = n := by omega
    subst this
    have : mkR i (backS A i (rowG A i)) = backG A := by
      unfold backG
      rw [hn]
      apply mkR_congr
      intro a k ha hk
      unfold backS
      simp [hk]
    rw [this]
    exact .inl ⟨0, true, by simp [backG, mkR_len, hn], rfl⟩

/-! ### Plus -/
/-- Ways whose places between are ahead of m. -/
def way (p : Nat → Nat → Bool) : Nat → Nat → Nat → Bool
  | 0, i, k => p i k
  | m + 1, i, k => way p m i k || way p m i m && way p m m k
def plusG (R : List W) : List W := mkR (szR R) (way (hasN R) (szR R))
def plusS (R : List W) (m i a b : Nat) : Bool := if a < i then way (hasN R) (m + 1) a b else way (hasN R) m a b
def sp_Plus : Sp := ⟨List W × Bool, fun x => [.d (.list (x.1.map rowW) x.2)], fun x => .rows (x.1.length ≤ maxLen) 1 ((plusG x.1).map rowW)⟩
theorem at_Plus (A : List W) (e : Bool) : sp_Plus.at [.d (.list (A.map rowW) e)] = .rows (A.length ≤ maxLen) 1 ((plusG A).map rowW) :=
  Sp.at_enc (s := sp_Plus) (fun x y h => by
    obtain ⟨a, b⟩ := x; obtain ⟨a', b'⟩ := y
    simp only [sp_Plus, List.cons.injEq, AV.d.injEq, DV.list.injEq, and_true] at h
    rw [rows_inj rowW_inj h.1, h.2]) (A, e)
theorem szR_nil : szR [] = 0 := rfl
theorem lay_fst (A : List W) : layG fstW A [] = mkR (szR A) (hasN A) := by
  rw [layG_mk (h := fstW) (q := fun a _ => a) (fun x y k _ => rfl) rfl]
  unfold lay2 mxR
  rw [szR_nil, Nat.max_eq_left (Nat.zero_le _)]
theorem body_rel_Plus {T : Tab} {n1 n2 n_rel_Union_1 n_rel_Inter_1 n_rel_Minus_1 n_rel_Plus_1 : Nat} (k1 : Knows T n1 (sp_lay (hs4 n_rel_Union_1 n_rel_Inter_1 n_rel_Minus_1 n_rel_Plus_1))) (e1 : hs4 n_rel_Union_1 n_rel_Inter_1 n_rel_Minus_1 n_rel_Plus_1 n2 = some fstW) :
    sp_Plus.Body T V_rel_Plus (L_rel_Plus n1 n2) R_rel_Plus := by
  have F1 := k1.F; have G1 := k1.G
  rintro ⟨A, e⟩ h1
  have h1 : A.length ≤ maxLen := h1
  refine ⟨rows_len (f := rowW) (fun _ => rfl) _, ?_⟩
  have hat : ∀ f : Bool, (sp_lay (hs4 n_rel_Union_1 n_rel_Inter_1 n_rel_Minus_1 n_rel_Plus_1)).at [.d (.list (A.map rowW) e), .d (.list [] f), .d (.fn n2)] = .rows (A.length ≤ maxLen ∧ 0 ≤ maxLen) 1 ((mkR (szR A) (hasN A)).map rowW) := fun f => by
    have := at_lay e1 A [] e f
    unfold layOut at this
    rw [lay_fst] at this
    exact this
  unfold V_rel_Plus L_rel_Plus R_rel_Plus
  simp only [↓vck_skip, ↓vck_ret, ↓vck_exit, ↓vck_region, ↓vck_nilq, ↓nilTo_to, nilG_d, nilG_r, ↓vck_seq, ↓vck_cond, ↓vck_block, ↓vck_loop, ↓vckTo_to, ↓thenK_n, ↓thenK_x, ↓thenK_r, ↓blockK_n, ↓blockK_x, ↓blockK_o, ↓blockK_r, ↓regK_to, ↓retK_r, ↓retK_n, ↓loopV_n, ↓loopV_x, ↓loopV_r, ↓famK_n, ↓famK_x, ↓famK_r, ↓boolK_true, ↓boolK_false, ↓boolK_not, ↓boolK_dec, ↓boolK_and, nf_mk, RGk_end_f, RGk_end_t, RGk_op, RGk_guard, opK_to, evN, evCallN, grow_mk, feet_f, feet_t, foot_mk, stepK_mk, stepK_v, stepK_no, guardG_t, guardG_f, guardG_no, condG_b, evT, Opd.ev, get_hit, get_next, app_to, app_no, app_up, app_skip, app_skipn, know_mk, knowO_t, knowO_c, envFrom, reserve, keeps, LOp.isNew, State.prune, cellsQ, cellsT, AV.leaf, Heap.at, evLoad_ptr, evLoad_dptr, loadO_vec, loadO_dvec1, stepK_load_map, idx_I, idx_W, rowW, set_rowW, app_rowW, app_rowW0, rep_rowW0, rowB, set_rowB, rep_rowB, rowN, lens_W, lensA_W, scal_rowW, default_W, w_or, w_and, w_andNot, w_and1, w_shl, w_shl1, w_shr, w_sub1, w_neg, w_add, w_bit, w_eq0, w_eq1, w_eq, Bool.decide_eq_true, idx_Rat, idx_Loc, idx_Act, idx_Step, idx_Stamp, stepK_idx_ref, evStore_ptr, storeO_vec, stepK_store_map1, loadDT_f, rowI, RatG.row, LocG.row, ActG.row, StepG.row, StampG.row, ActG.av, ActG.eta, RatG.eta, LocG.eta, beq_true, beq_false, loadDT_t, set_rowI, app_rowI, rep_rowI, set_rowRat, app_rowRat, rep_rowRat, set_rowLoc, app_rowLoc, app_rowAct, app_rowStep, List.length_set, List.length_replicate, toNat_cast, Int.reduceToNat, evLen, evAppend, srcOf, Src.all, Src.len, Src.leaf, joinV, drows_rep1, drows_rep2, drows_rep3, drows_rep4, drows_rep5, drows_rep6, drows_rep7, drows_rep8, mkVec, drows, evMk, List.length_map, take_mapF, drop_mapF, List.take_length, List.take_left, List.length_append, Nat.le_add_right, ite_self, List.take_of_length_le, evSlice, intOr, intOpd, Option.isSome_none, Option.isSome_some, Nat.sub_zero, loadQ, loadT, evBin, evUn, evIdxArr_d, evIdxArr_p, binT, binQ, chk, apartF, List.contains_cons, List.contains_nil, Bool.or_false, Bool.false_or, Bool.and_self, resQ, resV, resT, pickV, evCallT, evCall, fnOf, viewsT, isD, HO.drow, viewT, evInt2, evEq, eqV, eqK, eqC1, buildQ, buildT, buildRQ, buildRT, lens_I, lensA_I, lens_Rat, lensA_Rat, lens_Loc, lensA_Loc, lens_Act, lensA_Act, lens_Step, lensA_Step, lens_Stamp, lensA_Stamp, List.mem_cons, List.not_mem_nil, or_false, forall_eq, putRow, dcells, get_nil, RetS, RetF, RetD, AV.frz, AV.frzL, AV.freshP, AV.freshL, DV.less, scal_int, scal_bool, scal_nil, scal_rowI, scal_rowRat, scal_rowStep, Option.some.injEq, AV.tup.injEq, AV.agg.injEq, List.cons.injEq, DV.list.injEq, List.isEmpty_nil, Nat.le_refl, AV.d.injEq, DV.int.injEq, DV.bool.injEq, ↓reduceIte, Nat.reduceEqDiff, Nat.reduceAdd, Nat.reduceBEq, List.length_cons, List.length_nil, List.replicate_succ, List.replicate_zero, List.nil_append, List.cons_append, List.append_nil, List.foldl_cons, List.foldl_nil, List.map_cons, List.map_nil, List.all_cons, List.all_nil, List.set_cons_zero, List.set_cons_succ, List.getD_cons_zero, List.getD_cons_succ, List.drop_zero, List.drop_succ_cons, List.take_succ_cons, List.take_zero, List.flatten_cons, List.flatten_nil, Bool.true_and, Bool.and_true, Bool.not_true, Bool.not_false, true_and, and_true, true_or, or_true, Option.bind_some, Option.map_some, decide_true, decide_false, beq_self_eq_true, true_implies, false_implies, implies_true, not_true_eq_false, not_false_eq_true, and_self, Bool.and_false, Bool.false_and, Nat.reduceLT, Nat.reduceLeDiff, List.reverse_cons, List.reverse_nil, Nat.zero_add, Nat.add_zero, Bool.false_eq_true, List.getElem?_cons_zero, Nat.reduceMul, Nat.mul_one, sp_Plus, F1, G1, hat]
  have hle := szR_le A
  rw [mkR_len]
  generalize hn : szR A = n at *
  refine ⟨⟨h1, by omega⟩, ?_⟩
  refine Loop.fam [3, 9, 10] (fun m : Nat => ⟨[(3, .ref 0 1 0 n true), (9, .d (.int .i64 n)), (10, .d (.int .i64 m))],
      [.dvec 1 ((mkR n (way (hasN A) m)).map rowW)]⟩) (fun m => m ≤ n) (fun m => n - m) 0 [0] (by simp) (by simp) (by simp only [State.can, AV.can, AV.canL, HO.can, canRows, idx, get_hit, get_next, Heap.at, Nat.reduceBEq, ↓reduceIte, Nat.reduceEqDiff, Option.getD_some, Option.map_some, List.map_cons, List.map_nil, List.getD_cons_zero, List.getD_cons_succ]; rfl) (by omega) ?_
  intro m hm
  simp only [↓vck_skip, ↓vck_ret, ↓vck_exit, ↓vck_region, ↓vck_nilq, ↓nilTo_to, nilG_d, nilG_r, ↓vck_seq, ↓vck_cond, ↓vck_block, ↓vck_loop, ↓vckTo_to, ↓thenK_n, ↓thenK_x, ↓thenK_r, ↓blockK_n, ↓blockK_x, ↓blockK_o, ↓blockK_r, ↓regK_to, ↓retK_r, ↓retK_n, ↓loopV_n, ↓loopV_x, ↓loopV_r, ↓famK_n, ↓famK_x, ↓famK_r, ↓boolK_true, ↓boolK_false, ↓boolK_not, ↓boolK_dec, ↓boolK_and, nf_mk, RGk_end_f, RGk_end_t, RGk_op, RGk_guard, opK_to, evN, evCallN, grow_mk, feet_f, feet_t, foot_mk, stepK_mk, stepK_v, stepK_no, guardG_t, guardG_f, guardG_no, condG_b, evT, Opd.ev, get_hit, get_next, app_to, app_no, app_up, app_skip, app_skipn, know_mk, knowO_t, knowO_c, envFrom, reserve, keeps, LOp.isNew, State.prune, cellsQ, cellsT, AV.leaf, Heap.at, evLoad_ptr, evLoad_dptr, loadO_vec, loadO_dvec1, stepK_load_map, idx_I, idx_W, rowW, set_rowW, app_rowW, app_rowW0, rep_rowW0, rowB, set_rowB, rep_rowB, rowN, lens_W, lensA_W, scal_rowW, default_W, w_or, w_and, w_andNot, w_and1, w_shl, w_shl1, w_shr, w_sub1, w_neg, w_add, w_bit, w_eq0, w_eq1, w_eq, Bool.decide_eq_true, idx_Rat, idx_Loc, idx_Act, idx_Step, idx_Stamp, stepK_idx_ref, evStore_ptr, storeO_vec, stepK_store_map1, loadDT_f, rowI, RatG.row, LocG.row, ActG.row, StepG.row, StampG.row, ActG.av, ActG.eta, RatG.eta, LocG.eta, beq_true, beq_false, loadDT_t, set_rowI, app_rowI, rep_rowI, set_rowRat, app_rowRat, rep_rowRat, set_rowLoc, app_rowLoc, app_rowAct, app_rowStep, List.length_set, List.length_replicate, toNat_cast, Int.reduceToNat, evLen, evAppend, srcOf, Src.all, Src.len, Src.leaf, joinV, drows_rep1, drows_rep2, drows_rep3, drows_rep4, drows_rep5, drows_rep6, drows_rep7, drows_rep8, mkVec, drows, evMk, List.length_map, take_mapF, drop_mapF, List.take_length, List.take_left, List.length_append, Nat.le_add_right, ite_self, List.take_of_length_le, evSlice, intOr, intOpd, Option.isSome_none, Option.isSome_some, Nat.sub_zero, loadQ, loadT, evBin, evUn, evIdxArr_d, evIdxArr_p, binT, binQ, chk, apartF, List.contains_cons, List.contains_nil, Bool.or_false, Bool.false_or, Bool.and_self, resQ, resV, resT, pickV, evCallT, evCall, fnOf, viewsT, isD, HO.drow, viewT, evInt2, evEq, eqV, eqK, eqC1, buildQ, buildT, buildRQ, buildRT, lens_I, lensA_I, lens_Rat, lensA_Rat, lens_Loc, lensA_Loc, lens_Act, lensA_Act, lens_Step, lensA_Step, lens_Stamp, lensA_Stamp, List.mem_cons, List.not_mem_nil, or_false, forall_eq, putRow, dcells, get_nil, RetS, RetF, RetD, AV.frz, AV.frzL, AV.freshP, AV.freshL, DV.less, scal_int, scal_bool, scal_nil, scal_rowI, scal_rowRat, scal_rowStep, Option.some.injEq, AV.tup.injEq, AV.agg.injEq, List.cons.injEq, DV.list.injEq, List.isEmpty_nil, Nat.le_refl, AV.d.injEq, DV.int.injEq, DV.bool.injEq, ↓reduceIte, Nat.reduceEqDiff, Nat.reduceAdd, Nat.reduceBEq, List.length_cons, List.length_nil, List.replicate_succ, List.replicate_zero, List.nil_append, List.cons_append, List.append_nil, List.foldl_cons, List.foldl_nil, List.map_cons, List.map_nil, List.all_cons, List.all_nil, List.set_cons_zero, List.set_cons_succ, List.getD_cons_zero, List.getD_cons_succ, List.drop_zero, List.drop_succ_cons, List.take_succ_cons, List.take_zero, List.flatten_cons, List.flatten_nil, Bool.true_and, Bool.and_true, Bool.not_true, Bool.not_false, true_and, and_true, true_or, or_true, Option.bind_some, Option.map_some, decide_true, decide_false, beq_self_eq_true, true_implies, false_implies, implies_true, not_true_eq_false, not_false_eq_true, and_self, Bool.and_false, Bool.false_and, Nat.reduceLT, Nat.reduceLeDiff, List.reverse_cons, List.reverse_nil, Nat.zero_add, Nat.add_zero, Bool.false_eq_true, List.getElem?_cons_zero, Nat.reduceMul, Nat.mul_one, F1, G1, hat]
  refine ⟨fun c => ?_, fun c => ?_⟩
  · have c' : m < n := by omega
    refine Loop.fam [3, 4, 9, 10, 14, 15] (fun i : Nat => ⟨[(3, .ref 0 1 0 n true), (4, .d (.int .i64 m)), (9, .d (.int .i64 n)), (10, .d (.int .i64 m)), (14, .d (.int .i64 n)), (15, .d (.int .i64 i))],
      [.dvec 1 ((mkR n (plusS A m i)).map rowW)]⟩) (fun i => i ≤ n) (fun i => n - i) 0 [0] (by simp) (by simp) (by
        simp only [State.can, AV.can, AV.canL, HO.can, canRows, idx, get_hit, get_next, Heap.at, Nat.reduceBEq, ↓reduceIte, Nat.reduceEqDiff, Option.getD_some, Option.map_some, List.map_cons, List.map_nil, List.getD_cons_zero, List.getD_cons_succ]
        rw [show mkR n (plusS A m 0) = mkR n (way (hasN A) m) from mkR_congr fun a b _ _ => by unfold plusS; rw [if_neg (by omega)]]
        rfl) (by omega) ?_
    intro i hi
    simp only [↓vck_skip, ↓vck_ret, ↓vck_exit, ↓vck_region, ↓vck_nilq, ↓nilTo_to, nilG_d, nilG_r, ↓vck_seq, ↓vck_cond, ↓vck_block, ↓vck_loop, ↓vckTo_to, ↓thenK_n, ↓thenK_x, ↓thenK_r, ↓blockK_n, ↓blockK_x, ↓blockK_o, ↓blockK_r, ↓regK_to, ↓retK_r, ↓retK_n, ↓loopV_n, ↓loopV_x, ↓loopV_r, ↓famK_n, ↓famK_x, ↓famK_r, ↓boolK_true, ↓boolK_false, ↓boolK_not, ↓boolK_dec, ↓boolK_and, nf_mk, RGk_end_f, RGk_end_t, RGk_op, RGk_guard, opK_to, evN, evCallN, grow_mk, feet_f, feet_t, foot_mk, stepK_mk, stepK_v, stepK_no, guardG_t, guardG_f, guardG_no, condG_b, evT, Opd.ev, get_hit, get_next, app_to, app_no, app_up, app_skip, app_skipn, know_mk, knowO_t, knowO_c, envFrom, reserve, keeps, LOp.isNew, State.prune, cellsQ, cellsT, AV.leaf, Heap.at, evLoad_ptr, evLoad_dptr, loadO_vec, loadO_dvec1, stepK_load_map, idx_I, idx_W, rowW, set_rowW, app_rowW, app_rowW0, rep_rowW0, rowB, set_rowB, rep_rowB, rowN, lens_W, lensA_W, scal_rowW, default_W, w_or, w_and, w_andNot, w_and1, w_shl, w_shl1, w_shr, w_sub1, w_neg, w_add, w_bit, w_eq0, w_eq1, w_eq, Bool.decide_eq_true, idx_Rat, idx_Loc, idx_Act, idx_Step, idx_Stamp, stepK_idx_ref, evStore_ptr, storeO_vec, stepK_store_map1, loadDT_f, rowI, RatG.row, LocG.row, ActG.row, StepG.row, StampG.row, ActG.av, ActG.eta, RatG.eta, LocG.eta, beq_true, beq_false, loadDT_t, set_rowI, app_rowI, rep_rowI, set_rowRat, app_rowRat, rep_rowRat, set_rowLoc, app_rowLoc, app_rowAct, app_rowStep, List.length_set, List.length_replicate, toNat_cast, Int.reduceToNat, evLen, evAppend, srcOf, Src.all, Src.len, Src.leaf, joinV, drows_rep1, drows_rep2, drows_rep3, drows_rep4, drows_rep5, drows_rep6, drows_rep7, drows_rep8, mkVec, drows, evMk, List.length_map, take_mapF, drop_mapF, List.take_length, List.take_left, List.length_append, Nat.le_add_right, ite_self, List.take_of_length_le, evSlice, intOr, intOpd, Option.isSome_none, Option.isSome_some, Nat.sub_zero, loadQ, loadT, evBin, evUn, evIdxArr_d, evIdxArr_p, binT, binQ, chk, apartF, List.contains_cons, List.contains_nil, Bool.or_false, Bool.false_or, Bool.and_self, resQ, resV, resT, pickV, evCallT, evCall, fnOf, viewsT, isD, HO.drow, viewT, evInt2, evEq, eqV, eqK, eqC1, buildQ, buildT, buildRQ, buildRT, lens_I, lensA_I, lens_Rat, lensA_Rat, lens_Loc, lensA_Loc, lens_Act, lensA_Act, lens_Step, lensA_Step, lens_Stamp, lensA_Stamp, List.mem_cons, List.not_mem_nil, or_false, forall_eq, putRow, dcells, get_nil, RetS, RetF, RetD, AV.frz, AV.frzL, AV.freshP, AV.freshL, DV.less, scal_int, scal_bool, scal_nil, scal_rowI, scal_rowRat, scal_rowStep, Option.some.injEq, AV.tup.injEq, AV.agg.injEq, List.cons.injEq, DV.list.injEq, List.isEmpty_nil, Nat.le_refl, AV.d.injEq, DV.int.injEq, DV.bool.injEq, ↓reduceIte, Nat.reduceEqDiff, Nat.reduceAdd, Nat.reduceBEq, List.length_cons, List.length_nil, List.replicate_succ, List.replicate_zero, List.nil_append, List.cons_append, List.append_nil, List.foldl_cons, List.foldl_nil, List.map_cons, List.map_nil, List.all_cons, List.all_nil, List.set_cons_zero, List.set_cons_succ, List.getD_cons_zero, List.getD_cons_succ, List.drop_zero, List.drop_succ_cons, List.take_succ_cons, List.take_zero, List.flatten_cons, List.flatten_nil, Bool.true_and, Bool.and_true, Bool.not_true, Bool.not_false, true_and, and_true, true_or, or_true, Option.bind_some, Option.map_some, decide_true, decide_false, beq_self_eq_true, true_implies, false_implies, implies_true, not_true_eq_false, not_false_eq_true, and_self, Bool.and_false, Bool.false_and, Nat.reduceLT, Nat.reduceLeDiff, List.reverse_cons, List.reverse_nil, Nat.zero_add, Nat.add_zero, Bool.false_eq_true, List.getElem?_cons_zero, Nat.reduceMul, Nat.mul_one, F1, G1, hat, wrapU (k := m) (by omega)]
    rw [mkR_len]
    refine ⟨fun g => ?_, fun g => ?_⟩
    · have g' : i < n := by omega
      have bit : ((mkR n (plusS A m i)).getD i 0#64).getLsbD m = way (hasN A) m i m := by
        rw [mkR_get g']
        unfold plusS
        rw [if_neg (by omega)]
        simp only [decide_eq_true c', decide_eq_true (by omega : m < 64), Bool.true_and]
      rw [bit, wrap_succ g' (by unfold maxLen; omega)]
      refine ⟨by omega, by omega, by omega, fun hb => ⟨by omega, by omega, by omega, by omega, by omega, by omega, ?_⟩, fun hb => ?_⟩
      · refine FamNext.mk [0] (i + 1) (by simp) (by simp) ?_ (by show i + 1 ≤ n; omega) (by show n - (i + 1) < n - i; omega)
        rw [mkR_set (q := plusS A m (i + 1)) g']
        · simp only [State.can, AV.can, AV.canL, HO.can, canRows, idx, get_hit, get_next, Heap.at, Nat.reduceBEq, ↓reduceIte, Nat.reduceEqDiff, Option.getD_some, Option.map_some, List.map_cons, List.map_nil, List.getD_cons_zero, List.getD_cons_succ]
        · intro k hk
          rw [BitVec.getLsbD_or, mkR_get g', mkR_get c']
          by_cases hkn : k < n
          · simp only [hkn, hk, decide_true, Bool.true_and]
            have g1 : plusS A m i i k = way (hasN A) m i k := if_neg (by omega)
            have g2 : plusS A m (i + 1) i k = way (hasN A) (m + 1) i k := if_pos (by omega)
            have g3 : plusS A m i m k = way (hasN A) m m k := by
              unfold plusS
              split
              · simp only [way]; cases way (hasN A) m m k <;> simp
              · rfl
            rw [g1, g2, g3]
            simp only [way, hb, Bool.true_and]
          · simp [hkn]
        · intro a k ha hk hne
          unfold plusS
          by_cases e1 : a < i
          · rw [if_pos e1, if_pos (by omega)]
          · rw [if_neg e1, if_neg (by omega)]
      · refine FamNext.mk [0] (i + 1) (by simp) (by simp) ?_ (by show i + 1 ≤ n; omega) (by show n - (i + 1) < n - i; omega)
        rw [show mkR n (plusS A m (i + 1)) = mkR n (plusS A m i) from mkR_congr fun a b _ _ => by
          unfold plusS
          by_cases e1 : a < i
          · rw [if_pos e1, if_pos (by omega)]
          · by_cases e2 : a = i
            · subst e2
              rw [if_pos (by omega), if_neg (by omega)]
              simp only [way]
              have hb' : way (hasN A) m a m = false := by simpa using hb
              simp [hb']
            · rw [if_neg e1, if_neg (by omega)]]
        simp only [State.can, AV.can, AV.canL, HO.can, canRows, idx, get_hit, get_next, Heap.at, Nat.reduceBEq, ↓reduceIte, Nat.reduceEqDiff, Option.getD_some, Option.map_some, List.map_cons, List.map_nil, List.getD_cons_zero, List.getD_cons_succ]
    · have : i = n := by omega
      subst this
      rw [wrap_succ c' (by unfold maxLen; omega)]
      refine FamNext.mk [0] (m + 1) (by simp) (by simp) ?_ (by show m + 1 ≤ i; omega) (by show i - (m + 1) < i - m; omega)
      rw [show mkR i (plusS A m i) = mkR i (way (hasN A) (m + 1)) from mkR_congr fun a b ha _ => by unfold plusS; rw [if_pos ha]]
      simp only [State.can, AV.can, AV.canL, HO.can, canRows, idx, get_hit, get_next, Heap.at, Nat.reduceBEq, ↓reduceIte, Nat.reduceEqDiff, Option.getD_some, Option.map_some, List.map_cons, List.map_nil, List.getD_cons_zero, List.getD_cons_succ]
  · have : m = n := by omega
    subst this
    have : mkR m (way (hasN A) m) = plusG A := by unfold plusG; rw [hn]
    rw [this]
    exact .inl ⟨0, true, by simp [plusG, mkR_len, hn], rfl⟩
end Go.Ago

/- Contracts of package rel: Star, Ring, Of, Order. Conditions: none. -/
set_option maxRecDepth 100000
set_option linter.unusedSimpArgs false
set_option linter.unusedVariables false
namespace Go.Ago

/-! ### Star, Ring -/
def starG (R : List W) : List W := mkR (szR R) fun i k => way (hasN R) (szR R) i k || decide (i = k)
def starS (R : List W) (n m a b : Nat) : Bool := way (hasN R) n a b || (decide (a = b) && decide (a < m))
def sp_Star : Sp := ⟨List W × Bool, fun x => [.d (.list (x.1.map rowW) x.2)], fun x => .rows (x.1.length ≤ maxLen) 1 ((starG x.1).map rowW)⟩
theorem at_Star (A : List W) (e : Bool) : sp_Star.at [.d (.list (A.map rowW) e)] = .rows (A.length ≤ maxLen) 1 ((starG A).map rowW) :=
  Sp.at_enc (s := sp_Star) (fun x y h => by
    obtain ⟨a, b⟩ := x; obtain ⟨a', b'⟩ := y
    simp only [sp_Star, List.cons.injEq, AV.d.injEq, DV.list.injEq, and_true] at h
    rw [rows_inj rowW_inj h.1, h.2]) (A, e)
theorem body_rel_Star {T : Tab} {n1 : Nat} (k1 : Knows T n1 sp_Plus) : sp_Star.Body T V_rel_Star (L_rel_Star n1) R_rel_Star := by
  have F1 := k1.F; have G1 := k1.G
  rintro ⟨A, e⟩ h1
  have h1 : A.length ≤ maxLen := h1
  refine ⟨rows_len (f := rowW) (fun _ => rfl) _, ?_⟩
  unfold V_rel_Star L_rel_Star R_rel_Star
  simp only [↓vck_skip, ↓vck_ret, ↓vck_exit, ↓vck_region, ↓vck_nilq, ↓nilTo_to, nilG_d, nilG_r, ↓vck_seq, ↓vck_cond, ↓vck_block, ↓vck_loop, ↓vckTo_to, ↓thenK_n, ↓thenK_x, ↓thenK_r, ↓blockK_n, ↓blockK_x, ↓blockK_o, ↓blockK_r, ↓regK_to, ↓retK_r, ↓retK_n, ↓loopV_n, ↓loopV_x, ↓loopV_r, ↓famK_n, ↓famK_x, ↓famK_r, ↓boolK_true, ↓boolK_false, ↓boolK_not, ↓boolK_dec, ↓boolK_and, nf_mk, RGk_end_f, RGk_end_t, RGk_op, RGk_guard, opK_to, evN, evCallN, grow_mk, feet_f, feet_t, foot_mk, stepK_mk, stepK_v, stepK_no, guardG_t, guardG_f, guardG_no, condG_b, evT, Opd.ev, get_hit, get_next, app_to, app_no, app_up, app_skip, app_skipn, know_mk, knowO_t, knowO_c, envFrom, reserve, keeps, LOp.isNew, State.prune, cellsQ, cellsT, AV.leaf, Heap.at, evLoad_ptr, evLoad_dptr, loadO_vec, loadO_dvec1, stepK_load_map, idx_I, idx_W, rowW, set_rowW, app_rowW, app_rowW0, rep_rowW0, rowB, set_rowB, rep_rowB, rowN, lens_W, lensA_W, scal_rowW, default_W, w_or, w_and, w_andNot, w_and1, w_shl, w_shl1, w_shr, w_sub1, w_neg, w_add, w_bit, w_eq0, w_eq1, w_eq, Bool.decide_eq_true, idx_Rat, idx_Loc, idx_Act, idx_Step, idx_Stamp, stepK_idx_ref, evStore_ptr, storeO_vec, stepK_store_map1, loadDT_f, rowI, RatG.row, LocG.row, ActG.row, StepG.row, StampG.row, ActG.av, ActG.eta, RatG.eta, LocG.eta, beq_true, beq_false, loadDT_t, set_rowI, app_rowI, rep_rowI, set_rowRat, app_rowRat, rep_rowRat, set_rowLoc, app_rowLoc, app_rowAct, app_rowStep, List.length_set, List.length_replicate, toNat_cast, Int.reduceToNat, evLen, evAppend, srcOf, Src.all, Src.len, Src.leaf, joinV, drows_rep1, drows_rep2, drows_rep3, drows_rep4, drows_rep5, drows_rep6, drows_rep7, drows_rep8, mkVec, drows, evMk, List.length_map, take_mapF, drop_mapF, List.take_length, List.take_left, List.length_append, Nat.le_add_right, ite_self, List.take_of_length_le, evSlice, intOr, intOpd, Option.isSome_none, Option.isSome_some, Nat.sub_zero, loadQ, loadT, evBin, evUn, evIdxArr_d, evIdxArr_p, binT, binQ, chk, apartF, List.contains_cons, List.contains_nil, Bool.or_false, Bool.false_or, Bool.and_self, resQ, resV, resT, pickV, evCallT, evCall, fnOf, viewsT, isD, HO.drow, viewT, evInt2, evEq, eqV, eqK, eqC1, buildQ, buildT, buildRQ, buildRT, lens_I, lensA_I, lens_Rat, lensA_Rat, lens_Loc, lensA_Loc, lens_Act, lensA_Act, lens_Step, lensA_Step, lens_Stamp, lensA_Stamp, List.mem_cons, List.not_mem_nil, or_false, forall_eq, putRow, dcells, get_nil, RetS, RetF, RetD, AV.frz, AV.frzL, AV.freshP, AV.freshL, DV.less, scal_int, scal_bool, scal_nil, scal_rowI, scal_rowRat, scal_rowStep, Option.some.injEq, AV.tup.injEq, AV.agg.injEq, List.cons.injEq, DV.list.injEq, List.isEmpty_nil, Nat.le_refl, AV.d.injEq, DV.int.injEq, DV.bool.injEq, ↓reduceIte, Nat.reduceEqDiff, Nat.reduceAdd, Nat.reduceBEq, List.length_cons, List.length_nil, List.replicate_succ, List.replicate_zero, List.nil_append, List.cons_append, List.append_nil, List.foldl_cons, List.foldl_nil, List.map_cons, List.map_nil, List.all_cons, List.all_nil, List.set_cons_zero, List.set_cons_succ, List.getD_cons_zero, List.getD_cons_succ, List.drop_zero, List.drop_succ_cons, List.take_succ_cons, List.take_zero, List.flatten_cons, List.flatten_nil, Bool.true_and, Bool.and_true, Bool.not_true, Bool.not_false, true_and, and_true, true_or, or_true, Option.bind_some, Option.map_some, decide_true, decide_false, beq_self_eq_true, true_implies, false_implies, implies_true, not_true_eq_false, not_false_eq_true, and_self, Bool.and_false, Bool.false_and, Nat.reduceLT, Nat.reduceLeDiff, List.reverse_cons, List.reverse_nil, Nat.zero_add, Nat.add_zero, Bool.false_eq_true, List.getElem?_cons_zero, Nat.reduceMul, Nat.mul_one, sp_Star, F1, G1, at_Plus]
  have hle := szR_le A
  have hl : (plusG A).length = szR A := mkR_len
  have hp : plusG A = mkR (szR A) (way (hasN A) (szR A)) := rfl
  rw [hl]
  generalize hn : szR A = n at *
  refine ⟨h1, ?_⟩
  refine Loop.fam [3, 8, 9] (fun m : Nat => ⟨[(3, .ref 0 1 0 n true), (8, .d (.int .i64 n)), (9, .d (.int .i64 m))],
      [.dvec 1 ((mkR n (starS A n m)).map rowW)]⟩) (fun m => m ≤ n) (fun m => n - m) 0 [0] (by simp) (by simp) (by
        simp only [State.can, AV.can, AV.canL, HO.can, canRows, idx, get_hit, get_next, Heap.at, Nat.reduceBEq, ↓reduceIte, Nat.reduceEqDiff, Option.getD_some, Option.map_some, List.map_cons, List.map_nil, List.getD_cons_zero, List.getD_cons_succ]
        rw [hp, show mkR n (starS A n 0) = mkR n (way (hasN A) n) from mkR_congr fun a b _ _ => by unfold starS; simp]
        rfl) (by omega) ?_
  intro m hm
  simp only [↓vck_skip, ↓vck_ret, ↓vck_exit, ↓vck_region, ↓vck_nilq, ↓nilTo_to, nilG_d, nilG_r, ↓vck_seq, ↓vck_cond, ↓vck_block, ↓vck_loop, ↓vckTo_to, ↓thenK_n, ↓thenK_x, ↓thenK_r, ↓blockK_n, ↓blockK_x, ↓blockK_o, ↓blockK_r, ↓regK_to, ↓retK_r, ↓retK_n, ↓loopV_n, ↓loopV_x, ↓loopV_r, ↓famK_n, ↓famK_x, ↓famK_r, ↓boolK_true, ↓boolK_false, ↓boolK_not, ↓boolK_dec, ↓boolK_and, nf_mk, RGk_end_f, RGk_end_t, RGk_op, RGk_guard, opK_to, evN, evCallN, grow_mk, feet_f, feet_t, foot_mk, stepK_mk, stepK_v, stepK_no, guardG_t, guardG_f, guardG_no, condG_b, evT, Opd.ev, get_hit, get_next, app_to, app_no, app_up, app_skip, app_skipn, know_mk, knowO_t, knowO_c, envFrom, reserve, keeps, LOp.isNew, State.prune, cellsQ, cellsT, AV.leaf, Heap.at, evLoad_ptr, evLoad_dptr, loadO_vec, loadO_dvec1, stepK_load_map, idx_I, idx_W, rowW, set_rowW, app_rowW, app_rowW0, rep_rowW0, rowB, set_rowB, rep_rowB, rowN, lens_W, lensA_W, scal_rowW, default_W, w_or, w_and, w_andNot, w_and1, w_shl, w_shl1, w_shr, w_sub1, w_neg, w_add, w_bit, w_eq0, w_eq1, w_eq, Bool.decide_eq_true, idx_Rat, idx_Loc, idx_Act, idx_Step, idx_Stamp, stepK_idx_ref, evStore_ptr, storeO_vec, stepK_store_map1, loadDT_f, rowI, RatG.row, LocG.row, ActG.row, StepG.row, StampG.row, ActG.av, ActG.eta, RatG.eta, LocG.eta, beq_true, beq_false, loadDT_t, set_rowI, app_rowI, rep_rowI, set_rowRat, app_rowRat, rep_rowRat, set_rowLoc, app_rowLoc, app_rowAct, app_rowStep, List.length_set, List.length_replicate, toNat_cast, Int.reduceToNat, evLen, evAppend, srcOf, Src.all, Src.len, Src.leaf, joinV, drows_rep1, drows_rep2, drows_rep3, drows_rep4, drows_rep5, drows_rep6, drows_rep7, drows_rep8, mkVec, drows, evMk, List.length_map, take_mapF, drop_mapF, List.take_length, List.take_left, List.length_append, Nat.le_add_right, ite_self, List.take_of_length_le, evSlice, intOr, intOpd, Option.isSome_none, Option.isSome_some, Nat.sub_zero, loadQ, loadT, evBin, evUn, evIdxArr_d, evIdxArr_p, binT, binQ, chk, apartF, List.contains_cons, List.contains_nil, Bool.or_false, Bool.false_or, Bool.and_self, resQ, resV, resT, pickV, evCallT, evCall, fnOf, viewsT, isD, HO.drow, viewT, evInt2, evEq, eqV, eqK, eqC1, buildQ, buildT, buildRQ, buildRT, lens_I, lensA_I, lens_Rat, lensA_Rat, lens_Loc, lensA_Loc, lens_Act, lensA_Act, lens_Step, lensA_Step, lens_Stamp, lensA_Stamp, List.mem_cons, List.not_mem_nil, or_false, forall_eq, putRow, dcells, get_nil, RetS, RetF, RetD, AV.frz, AV.frzL, AV.freshP, AV.freshL, DV.less, scal_int, scal_bool, scal_nil, scal_rowI, scal_rowRat, scal_rowStep, Option.some.injEq, AV.tup.injEq, AV.agg.injEq, List.cons.injEq, DV.list.injEq, List.isEmpty_nil, Nat.le_refl, AV.d.injEq, DV.int.injEq, DV.bool.injEq, ↓reduceIte, Nat.reduceEqDiff, Nat.reduceAdd, Nat.reduceBEq, List.length_cons, List.length_nil, List.replicate_succ, List.replicate_zero, List.nil_append, List.cons_append, List.append_nil, List.foldl_cons, List.foldl_nil, List.map_cons, List.map_nil, List.all_cons, List.all_nil, List.set_cons_zero, List.set_cons_succ, List.getD_cons_zero, List.getD_cons_succ, List.drop_zero, List.drop_succ_cons, List.take_succ_cons, List.take_zero, List.flatten_cons, List.flatten_nil, Bool.true_and, Bool.and_true, Bool.not_true, Bool.not_false, true_and, and_true, true_or, or_true, Option.bind_some, Option.map_some, decide_true, decide_false, beq_self_eq_true, true_implies, false_implies, implies_true, not_true_eq_false, not_false_eq_true, and_self, Bool.and_false, Bool.false_and, Nat.reduceLT, Nat.reduceLeDiff, List.reverse_cons, List.reverse_nil, Nat.zero_add, Nat.add_zero, Bool.false_eq_true, List.getElem?_cons_zero, Nat.reduceMul, Nat.mul_one, F1, G1, at_Plus]
  refine ⟨fun c => ?_, fun c => ?_⟩
  · have c' : m < n := by omega
    rw [wrap_succ c' (by unfold maxLen; omega), wrapU (k := m) (by omega)]
    simp only [↓vck_skip, ↓vck_ret, ↓vck_exit, ↓vck_region, ↓vck_nilq, ↓nilTo_to, nilG_d, nilG_r, ↓vck_seq, ↓vck_cond, ↓vck_block, ↓vck_loop, ↓vckTo_to, ↓thenK_n, ↓thenK_x, ↓thenK_r, ↓blockK_n, ↓blockK_x, ↓blockK_o, ↓blockK_r, ↓regK_to, ↓retK_r, ↓retK_n, ↓loopV_n, ↓loopV_x, ↓loopV_r, ↓famK_n, ↓famK_x, ↓famK_r, ↓boolK_true, ↓boolK_false, ↓boolK_not, ↓boolK_dec, ↓boolK_and, nf_mk, RGk_end_f, RGk_end_t, RGk_op, RGk_guard, opK_to, evN, evCallN, grow_mk, feet_f, feet_t, foot_mk, stepK_mk, stepK_v, stepK_no, guardG_t, guardG_f, guardG_no, condG_b, evT, Opd.ev, get_hit, get_next, app_to, app_no, app_up, app_skip, app_skipn, know_mk, knowO_t, knowO_c, envFrom, reserve, keeps, LOp.isNew, State.prune, cellsQ, cellsT, AV.leaf, Heap.at, evLoad_ptr, evLoad_dptr, loadO_vec, loadO_dvec1, stepK_load_map, idx_I, idx_W, rowW, set_rowW, app_rowW, app_rowW0, rep_rowW0, rowB, set_rowB, rep_rowB, rowN, lens_W, lensA_W, scal_rowW, default_W, w_or, w_and, w_andNot, w_and1, w_shl, w_shl1, w_shr, w_sub1, w_neg, w_add, w_bit, w_eq0, w_eq1, w_eq, Bool.decide_eq_true, idx_Rat, idx_Loc, idx_Act, idx_Step, idx_Stamp, stepK_idx_ref, evStore_ptr, storeO_vec, stepK_store_map1, loadDT_f, rowI, RatG.row, LocG.row, ActG.row, StepG.row, StampG.row, ActG.av, ActG.eta, RatG.eta, LocG.eta, beq_true, beq_false, loadDT_t, set_rowI, app_rowI, rep_rowI, set_rowRat, app_rowRat, rep_rowRat, set_rowLoc, app_rowLoc, app_rowAct, app_rowStep, List.length_set, List.length_replicate, toNat_cast, Int.reduceToNat, evLen, evAppend, srcOf, Src.all, Src.len, Src.leaf, joinV, drows_rep1, drows_rep2, drows_rep3, drows_rep4, drows_rep5, drows_rep6, drows_rep7, drows_rep8, mkVec, drows, evMk, List.length_map, take_mapF, drop_mapF, List.take_length, List.take_left, List.length_append, Nat.le_add_right, ite_self, List.take_of_length_le, evSlice, intOr, intOpd, Option.isSome_none, Option.isSome_some, Nat.sub_zero, loadQ, loadT, evBin, evUn, evIdxArr_d, evIdxArr_p, binT, binQ, chk, apartF, List.contains_cons, List.contains_nil, Bool.or_false, Bool.false_or, Bool.and_self, resQ, resV, resT, pickV, evCallT, evCall, fnOf, viewsT, isD, HO.drow, viewT, evInt2, evEq, eqV, eqK, eqC1, buildQ, buildT, buildRQ, buildRT, lens_I, lensA_I, lens_Rat, lensA_Rat, lens_Loc, lensA_Loc, lens_Act, lensA_Act, lens_Step, lensA_Step, lens_Stamp, lensA_Stamp, List.mem_cons, List.not_mem_nil, or_false, forall_eq, putRow, dcells, get_nil, RetS, RetF, RetD, AV.frz, AV.frzL, AV.freshP, AV.freshL, DV.less, scal_int, scal_bool, scal_nil, scal_rowI, scal_rowRat, scal_rowStep, Option.some.injEq, AV.tup.injEq, AV.agg.injEq, List.cons.injEq, DV.list.injEq, List.isEmpty_nil, Nat.le_refl, AV.d.injEq, DV.int.injEq, DV.bool.injEq, ↓reduceIte, Nat.reduceEqDiff, Nat.reduceAdd, Nat.reduceBEq, List.length_cons, List.length_nil, List.replicate_succ, List.replicate_zero, List.nil_append, List.cons_append, List.append_nil, List.foldl_cons, List.foldl_nil, List.map_cons, List.map_nil, List.all_cons, List.all_nil, List.set_cons_zero, List.set_cons_succ, List.getD_cons_zero, List.getD_cons_succ, List.drop_zero, List.drop_succ_cons, List.take_succ_cons, List.take_zero, List.flatten_cons, List.flatten_nil, Bool.true_and, Bool.and_true, Bool.not_true, Bool.not_false, true_and, and_true, true_or, or_true, Option.bind_some, Option.map_some, decide_true, decide_false, beq_self_eq_true, true_implies, false_implies, implies_true, not_true_eq_false, not_false_eq_true, and_self, Bool.and_false, Bool.false_and, Nat.reduceLT, Nat.reduceLeDiff, List.reverse_cons, List.reverse_nil, Nat.zero_add, Nat.add_zero, Bool.false_eq_true, List.getElem?_cons_zero, Nat.reduceMul, Nat.mul_one]
    rw [mkR_len]
    refine ⟨by omega, by omega, by omega, by omega, by omega, ?_⟩
    refine FamNext.mk [0] (m + 1) (by simp) (by simp) ?_ (by show m + 1 ≤ n; omega) (by show n - (m + 1) < n - m; omega)
    rw [mkR_set (q := starS A n (m + 1)) c']
    · simp only [State.can, AV.can, AV.canL, HO.can, canRows, idx, get_hit, get_next, Heap.at, Nat.reduceBEq, ↓reduceIte, Nat.reduceEqDiff, Option.getD_some, Option.map_some, List.map_cons, List.map_nil, List.getD_cons_zero, List.getD_cons_succ]
    · intro k hk
      rw [BitVec.getLsbD_or, mkR_get c', one_shl (by omega)]
      unfold starS
      by_cases hkn : k < n
      · by_cases e1 : m = k
        · subst e1; simp [hkn, hk]
        · simp [hkn, hk, e1]
      · have : ¬ m = k := by omega
        simp [hkn, this]
    · intro a k ha hk hne
      unfold starS
      have : decide (a < m + 1) = decide (a < m) := by simp; omega
      rw [this]
  · have : m = n := by omega
    subst this
    have : mkR m (starS A m m) = starG A := by
      unfold starG
      rw [hn]
      apply mkR_congr
      intro a b ha hb
      unfold starS
      simp [ha]
    rw [this]
    exact .inl ⟨0, true, by simp [starG, mkR_len, hn], rfl⟩

def ringG (R : List W) : Bool := (List.range (szR R)).any fun i => way (hasN R) (szR R) i i
def sp_Ring : Sp := ⟨List W × Bool, fun x => [.d (.list (x.1.map rowW) x.2)], fun x => .data (x.1.length ≤ maxLen) (.d (.bool (ringG x.1))) true⟩
theorem at_Ring (A : List W) (e : Bool) : sp_Ring.at [.d (.list (A.map rowW) e)] = .data (A.length ≤ maxLen) (.d (.bool (ringG A))) true :=
  Sp.at_enc (s := sp_Ring) (fun x y h => by
    obtain ⟨a, b⟩ := x; obtain ⟨a', b'⟩ := y
    simp only [sp_Ring, List.cons.injEq, AV.d.injEq, DV.list.injEq, and_true] at h
    rw [rows_inj rowW_inj h.1, h.2]) (A, e)
theorem body_rel_Ring {T : Tab} {n1 : Nat} (k1 : Knows T n1 sp_Plus) : sp_Ring.Body T V_rel_Ring (L_rel_Ring n1) R_rel_Ring := by
  have F1 := k1.F; have G1 := k1.G
  rintro ⟨A, e⟩ h1
  have h1 : A.length ≤ maxLen := h1
  refine .inl ⟨rfl, ?_⟩
  unfold V_rel_Ring L_rel_Ring R_rel_Ring
  simp only [↓vck_skip, ↓vck_ret, ↓vck_exit, ↓vck_region, ↓vck_nilq, ↓nilTo_to, nilG_d, nilG_r, ↓vck_seq, ↓vck_cond, ↓vck_block, ↓vck_loop, ↓vckTo_to, ↓thenK_n, ↓thenK_x, ↓thenK_r, ↓blockK_n, ↓blockK_x, ↓blockK_o, ↓blockK_r, ↓regK_to, ↓retK_r, ↓retK_n, ↓loopV_n, ↓loopV_x, ↓loopV_r, ↓famK_n, ↓famK_x, ↓famK_r, ↓boolK_true, ↓boolK_false, ↓boolK_not, ↓boolK_dec, ↓boolK_and, nf_mk, RGk_end_f, RGk_end_t, RGk_op, RGk_guard, opK_to, evN, evCallN, grow_mk, feet_f, feet_t, foot_mk, stepK_mk, stepK_v, stepK_no, guardG_t, guardG_f, guardG_no, condG_b, evT, Opd.ev, get_hit, get_next, app_to, app_no, app_up, app_skip, app_skipn, know_mk, knowO_t, knowO_c, envFrom, reserve, keeps, LOp.isNew, State.prune, cellsQ, cellsT, AV.leaf, Heap.at, evLoad_ptr, evLoad_dptr, loadO_vec, loadO_dvec1, stepK_load_map, idx_I, idx_W, rowW, set_rowW, app_rowW, app_rowW0, rep_rowW0, rowB, set_rowB, rep_rowB, rowN, lens_W, lensA_W, scal_rowW, default_W, w_or, w_and, w_andNot, w_and1, w_shl, w_shl1, w_shr, w_sub1, w_neg, w_add, w_bit, w_eq0, w_eq1, w_eq, Bool.decide_eq_true, idx_Rat, idx_Loc, idx_Act, idx_Step, idx_Stamp, stepK_idx_ref, evStore_ptr, storeO_vec, stepK_store_map1, loadDT_f, rowI, RatG.row, LocG.row, ActG.row, StepG.row, StampG.row, ActG.av, ActG.eta, RatG.eta, LocG.eta, beq_true, beq_false, loadDT_t, set_rowI, app_rowI, rep_rowI, set_rowRat, app_rowRat, rep_rowRat, set_rowLoc, app_rowLoc, app_rowAct, app_rowStep, List.length_set, List.length_replicate, toNat_cast, Int.reduceToNat, evLen, evAppend, srcOf, Src.all, Src.len, Src.leaf, joinV, drows_rep1, drows_rep2, drows_rep3, drows_rep4, drows_rep5, drows_rep6, drows_rep7, drows_rep8, mkVec, drows, evMk, List.length_map, take_mapF, drop_mapF, List.take_length, List.take_left, List.length_append, Nat.le_add_right, ite_self, List.take_of_length_le, evSlice, intOr, intOpd, Option.isSome_none, Option.isSome_some, Nat.sub_zero, loadQ, loadT, evBin, evUn, evIdxArr_d, evIdxArr_p, binT, binQ, chk, apartF, List.contains_cons, List.contains_nil, Bool.or_false, Bool.false_or, Bool.and_self, resQ, resV, resT, pickV, evCallT, evCall, fnOf, viewsT, isD, HO.drow, viewT, evInt2, evEq, eqV, eqK, eqC1, buildQ, buildT, buildRQ, buildRT, lens_I, lensA_I, lens_Rat, lensA_Rat, lens_Loc, lensA_Loc, lens_Act, lensA_Act, lens_Step, lensA_Step, lens_Stamp, lensA_Stamp, List.mem_cons, List.not_mem_nil, or_false, forall_eq, putRow, dcells, get_nil, RetS, RetF, RetD, AV.frz, AV.frzL, AV.freshP, AV.freshL, DV.less, scal_int, scal_bool, scal_nil, scal_rowI, scal_rowRat, scal_rowStep, Option.some.injEq, AV.tup.injEq, AV.agg.injEq, List.cons.injEq, DV.list.injEq, List.isEmpty_nil, Nat.le_refl, AV.d.injEq, DV.int.injEq, DV.bool.injEq, ↓reduceIte, Nat.reduceEqDiff, Nat.reduceAdd, Nat.reduceBEq, List.length_cons, List.length_nil, List.replicate_succ, List.replicate_zero, List.nil_append, List.cons_append, List.append_nil, List.foldl_cons, List.foldl_nil, List.map_cons, List.map_nil, List.all_cons, List.all_nil, List.set_cons_zero, List.set_cons_succ, List.getD_cons_zero, List.getD_cons_succ, List.drop_zero, List.drop_succ_cons, List.take_succ_cons, List.take_zero, List.flatten_cons, List.flatten_nil, Bool.true_and, Bool.and_true, Bool.not_true, Bool.not_false, true_and, and_true, true_or, or_true, Option.bind_some, Option.map_some, decide_true, decide_false, beq_self_eq_true, true_implies, false_implies, implies_true, not_true_eq_false, not_false_eq_true, and_self, Bool.and_false, Bool.false_and, Nat.reduceLT, Nat.reduceLeDiff, List.reverse_cons, List.reverse_nil, Nat.zero_add, Nat.add_zero, Bool.false_eq_true, List.getElem?_cons_zero, Nat.reduceMul, Nat.mul_one, sp_Ring, F1, G1, at_Plus]
  have hle := szR_le A
  have hl : (plusG A).length = szR A := mkR_len
  have hp : plusG A = mkR (szR A) (way (hasN A) (szR A)) := rfl
  rw [hl]
  have hr : ringG A = (List.range (szR A)).any fun i => way (hasN A) (szR A) i i := rfl
  generalize szR A = n at *
  refine ⟨h1, ?_⟩
  refine Loop.fam [6, 7, 8] (fun m : Nat => ⟨[(6, .ref 0 1 0 n true), (7, .d (.int .i64 n)), (8, .d (.int .i64 m))],
      [.dvec 1 ((plusG A).map rowW)]⟩) (fun m => m ≤ n ∧ ∀ i, i < m → way (hasN A) n i i = false) (fun m => n - m) 0 [0] (by simp) (by simp) (by simp only [State.can, AV.can, AV.canL, HO.can, canRows, idx, get_hit, get_next, Heap.at, Nat.reduceBEq, ↓reduceIte, Nat.reduceEqDiff, Option.getD_some, Option.map_some, List.map_cons, List.map_nil, List.getD_cons_zero, List.getD_cons_succ]; rfl) ⟨by omega, fun i hi => by omega⟩ ?_
  rintro m ⟨hm, hno⟩
  simp only [↓vck_skip, ↓vck_ret, ↓vck_exit, ↓vck_region, ↓vck_nilq, ↓nilTo_to, nilG_d, nilG_r, ↓vck_seq, ↓vck_cond, ↓vck_block, ↓vck_loop, ↓vckTo_to, ↓thenK_n, ↓thenK_x, ↓thenK_r, ↓blockK_n, ↓blockK_x, ↓blockK_o, ↓blockK_r, ↓regK_to, ↓retK_r, ↓retK_n, ↓loopV_n, ↓loopV_x, ↓loopV_r, ↓famK_n, ↓famK_x, ↓famK_r, ↓boolK_true, ↓boolK_false, ↓boolK_not, ↓boolK_dec, ↓boolK_and, nf_mk, RGk_end_f, RGk_end_t, RGk_op, RGk_guard, opK_to, evN, evCallN, grow_mk, feet_f, feet_t, foot_mk, stepK_mk, stepK_v, stepK_no, guardG_t, guardG_f, guardG_no, condG_b, evT, Opd.ev, get_hit, get_next, app_to, app_no, app_up, app_skip, app_skipn, know_mk, knowO_t, knowO_c, envFrom, reserve, keeps, LOp.isNew, State.prune, cellsQ, cellsT, AV.leaf, Heap.at, evLoad_ptr, evLoad_dptr, loadO_vec, loadO_dvec1, stepK_load_map, idx_I, idx_W, rowW, set_rowW, app_rowW, app_rowW0, rep_rowW0, rowB, set_rowB, rep_rowB, rowN, lens_W, lensA_W, scal_rowW, default_W, w_or, w_and, w_andNot, w_and1, w_shl, w_shl1, w_shr, w_sub1, w_neg, w_add, w_bit, w_eq0, w_eq1, w_eq, Bool.decide_eq_true, idx_Rat, idx_Loc, idx_Act, idx_Step, idx_Stamp, stepK_idx_ref, evStore_ptr, storeO_vec, stepK_store_map1, loadDT_f, rowI, RatG.row, LocG.row, ActG.row, StepG.row, StampG.row, ActG.av, ActG.eta, RatG.eta, LocG.eta, beq_true, beq_false, loadDT_t, set_rowI, app_rowI, rep_rowI, set_rowRat, app_rowRat, rep_rowRat, set_rowLoc, app_rowLoc, app_rowAct, app_rowStep, List.length_set, List.length_replicate, toNat_cast, Int.reduceToNat, evLen, evAppend, srcOf, Src.all, Src.len, Src.leaf, joinV, drows_rep1, drows_rep2, drows_rep3, drows_rep4, drows_rep5, drows_rep6, drows_rep7, drows_rep8, mkVec, drows, evMk, List.length_map, take_mapF, drop_mapF, List.take_length, List.take_left, List.length_append, Nat.le_add_right, ite_self, List.take_of_length_le, evSlice, intOr, intOpd, Option.isSome_none, Option.isSome_some, Nat.sub_zero, loadQ, loadT, evBin, evUn, evIdxArr_d, evIdxArr_p, binT, binQ, chk, apartF, List.contains_cons, List.contains_nil, Bool.or_false, Bool.false_or, Bool.and_self, resQ, resV, resT, pickV, evCallT, evCall, fnOf, viewsT, isD, HO.drow, viewT, evInt2, evEq, eqV, eqK, eqC1, buildQ, buildT, buildRQ, buildRT, lens_I, lensA_I, lens_Rat, lensA_Rat, lens_Loc, lensA_Loc, lens_Act, lensA_Act, lens_Step, lensA_Step, lens_Stamp, lensA_Stamp, List.mem_cons, List.not_mem_nil, or_false, forall_eq, putRow, dcells, get_nil, RetS, RetF, RetD, AV.frz, AV.frzL, AV.freshP, AV.freshL, DV.less, scal_int, scal_bool, scal_nil, scal_rowI, scal_rowRat, scal_rowStep, Option.some.injEq, AV.tup.injEq, AV.agg.injEq, List.cons.injEq, DV.list.injEq, List.isEmpty_nil, Nat.le_refl, AV.d.injEq, DV.int.injEq, DV.bool.injEq, ↓reduceIte, Nat.reduceEqDiff, Nat.reduceAdd, Nat.reduceBEq, List.length_cons, List.length_nil, List.replicate_succ, List.replicate_zero, List.nil_append, List.cons_append, List.append_nil, List.foldl_cons, List.foldl_nil, List.map_cons, List.map_nil, List.all_cons, List.all_nil, List.set_cons_zero, List.set_cons_succ, List.getD_cons_zero, List.getD_cons_succ, List.drop_zero, List.drop_succ_cons, List.take_succ_cons, List.take_zero, List.flatten_cons, List.flatten_nil, Bool.true_and, Bool.and_true, Bool.not_true, Bool.not_false, true_and, and_true, true_or, or_true, Option.bind_some, Option.map_some, decide_true, decide_false, beq_self_eq_true, true_implies, false_implies, implies_true, not_true_eq_false, not_false_eq_true, and_self, Bool.and_false, Bool.false_and, Nat.reduceLT, Nat.reduceLeDiff, List.reverse_cons, List.reverse_nil, Nat.zero_add, Nat.add_zero, Bool.false_eq_true, List.getElem?_cons_zero, Nat.reduceMul, Nat.mul_one, F1, G1, at_Plus]
  refine ⟨fun c => ?_, fun c => ?_⟩
  · have c' : m < n := by omega
    rw [wrap_succ c' (by unfold maxLen; omega), wrapU (k := m) (by omega)]
    simp only [↓vck_skip, ↓vck_ret, ↓vck_exit, ↓vck_region, ↓vck_nilq, ↓nilTo_to, nilG_d, nilG_r, ↓vck_seq, ↓vck_cond, ↓vck_block, ↓vck_loop, ↓vckTo_to, ↓thenK_n, ↓thenK_x, ↓thenK_r, ↓blockK_n, ↓blockK_x, ↓blockK_o, ↓blockK_r, ↓regK_to, ↓retK_r, ↓retK_n, ↓loopV_n, ↓loopV_x, ↓loopV_r, ↓famK_n, ↓famK_x, ↓famK_r, ↓boolK_true, ↓boolK_false, ↓boolK_not, ↓boolK_dec, ↓boolK_and, nf_mk, RGk_end_f, RGk_end_t, RGk_op, RGk_guard, opK_to, evN, evCallN, grow_mk, feet_f, feet_t, foot_mk, stepK_mk, stepK_v, stepK_no, guardG_t, guardG_f, guardG_no, condG_b, evT, Opd.ev, get_hit, get_next, app_to, app_no, app_up, app_skip, app_skipn, know_mk, knowO_t, knowO_c, envFrom, reserve, keeps, LOp.isNew, State.prune, cellsQ, cellsT, AV.leaf, Heap.at, evLoad_ptr, evLoad_dptr, loadO_vec, loadO_dvec1, stepK_load_map, idx_I, idx_W, rowW, set_rowW, app_rowW, app_rowW0, rep_rowW0, rowB, set_rowB, rep_rowB, rowN, lens_W, lensA_W, scal_rowW, default_W, w_or, w_and, w_andNot, w_and1, w_shl, w_shl1, w_shr, w_sub1, w_neg, w_add, w_bit, w_eq0, w_eq1, w_eq, Bool.decide_eq_true, idx_Rat, idx_Loc, idx_Act, idx_Step, idx_Stamp, stepK_idx_ref, evStore_ptr, storeO_vec, stepK_store_map1, loadDT_f, rowI, RatG.row, LocG.row, ActG.row, StepG.row, StampG.row, ActG.av, ActG.eta, RatG.eta, LocG.eta, beq_true, beq_false, loadDT_t, set_rowI, app_rowI, rep_rowI, set_rowRat, app_rowRat, rep_rowRat, set_rowLoc, app_rowLoc, app_rowAct, app_rowStep, List.length_set, List.length_replicate, toNat_cast, Int.reduceToNat, evLen, evAppend, srcOf, Src.all, Src.len, Src.leaf, joinV, drows_rep1, drows_rep2, drows_rep3, drows_rep4, drows_rep5, drows_rep6, drows_rep7, drows_rep8, mkVec, drows, evMk, List.length_map, take_mapF, drop_mapF, List.take_length, List.take_left, List.length_append, Nat.le_add_right, ite_self, List.take_of_length_le, evSlice, intOr, intOpd, Option.isSome_none, Option.isSome_some, Nat.sub_zero, loadQ, loadT, evBin, evUn, evIdxArr_d, evIdxArr_p, binT, binQ, chk, apartF, List.contains_cons, List.contains_nil, Bool.or_false, Bool.false_or, Bool.and_self, resQ, resV, resT, pickV, evCallT, evCall, fnOf, viewsT, isD, HO.drow, viewT, evInt2, evEq, eqV, eqK, eqC1, buildQ, buildT, buildRQ, buildRT, lens_I, lensA_I, lens_Rat, lensA_Rat, lens_Loc, lensA_Loc, lens_Act, lensA_Act, lens_Step, lensA_Step, lens_Stamp, lensA_Stamp, List.mem_cons, List.not_mem_nil, or_false, forall_eq, putRow, dcells, get_nil, RetS, RetF, RetD, AV.frz, AV.frzL, AV.freshP, AV.freshL, DV.less, scal_int, scal_bool, scal_nil, scal_rowI, scal_rowRat, scal_rowStep, Option.some.injEq, AV.tup.injEq, AV.agg.injEq, List.cons.injEq, DV.list.injEq, List.isEmpty_nil, Nat.le_refl, AV.d.injEq, DV.int.injEq, DV.bool.injEq, ↓reduceIte, Nat.reduceEqDiff, Nat.reduceAdd, Nat.reduceBEq, List.length_cons, List.length_nil, List.replicate_succ, List.replicate_zero, List.nil_append, List.cons_append, List.append_nil, List.foldl_cons, List.foldl_nil, List.map_cons, List.map_nil, List.all_cons, List.all_nil, List.set_cons_zero, List.set_cons_succ, List.getD_cons_zero, List.getD_cons_succ, List.drop_zero, List.drop_succ_cons, List.take_succ_cons, List.take_zero, List.flatten_cons, List.flatten_nil, Bool.true_and, Bool.and_true, Bool.not_true, Bool.not_false, true_and, and_true, true_or, or_true, Option.bind_some, Option.map_some, decide_true, decide_false, beq_self_eq_true, true_implies, false_implies, implies_true, not_true_eq_false, not_false_eq_true, and_self, Bool.and_false, Bool.false_and, Nat.reduceLT, Nat.reduceLeDiff, List.reverse_cons, List.reverse_nil, Nat.zero_add, Nat.add_zero, Bool.false_eq_true, List.getElem?_cons_zero, Nat.reduceMul, Nat.mul_one]
    rw [hl, hp, mkR_get c']
    simp only [decide_eq_true c', decide_eq_true (by omega : m < 64), Bool.true_and]
    refine ⟨by omega, by omega, by omega, fun hb => ?_, fun hb => ?_⟩
    · rw [hr]; symm
      rw [List.any_eq_true]
      exact ⟨m, by simpa using c', hb⟩
    · refine FamNext.mk [0] (m + 1) (by simp) (by simp) (by simp only [State.can, AV.can, AV.canL, HO.can, canRows, idx, get_hit, get_next, Heap.at, Nat.reduceBEq, ↓reduceIte, Nat.reduceEqDiff, Option.getD_some, Option.map_some, List.map_cons, List.map_nil, List.getD_cons_zero, List.getD_cons_succ]) ⟨by omega, fun i hi => ?_⟩ (by omega)
      by_cases e1 : i = m
      · subst e1; simpa using hb
      · exact hno i (by omega)
  · have : m = n := by omega
    subst this
    rw [hr]; symm
    rw [List.any_eq_false]
    intro i hi
    rw [hno i (by simpa using hi)]; simp

/-! ### Of pairs -/
def ofBad (n : Int) (p : RatG) : Bool := decide (p.num < 0) || decide (n ≤ p.num) || decide (p.den < 0) || decide (n ≤ p.den)
def ofErr (n : Int) (l : List RatG) : Int := if n < 0 ∨ 64 < n then 1 else if l.any (ofBad n) then 2 else 0
def ofP (l : List RatG) (i k : Nat) : Bool := l.any fun p => decide (p.num = i) && decide (p.den = k)
def ofG (n : Int) (l : List RatG) : List W := if ofErr n l = 0 then mkR n.toNat (ofP l) else []
def ofAV (n : Int) (l : List RatG) : AV := .tup [.d (.list ((ofG n l).map rowW) false), .d (.int .i64 (ofErr n l))]
def sp_Of : Sp := ⟨Int × List RatG × Bool, fun x => [.d (.int .i64 x.1), .d (.list (x.2.1.map RatG.row) x.2.2)], fun x => .data (x.2.1.length ≤ maxLen) (ofAV x.1 x.2.1) true⟩
theorem at_Of (n : Int) (l : List RatG) (f : Bool) : sp_Of.at [.d (.int .i64 n), .d (.list (l.map RatG.row) f)] = .data (l.length ≤ maxLen) (.tup [.d (.list ((ofG n l).map rowW) false), .d (.int .i64 (ofErr n l))]) true :=
  Sp.at_enc (s := sp_Of) (fun x y h => by
    obtain ⟨a, b, c⟩ := x; obtain ⟨a', b', c'⟩ := y
    simp only [sp_Of, List.cons.injEq, AV.d.injEq, DV.list.injEq, DV.int.injEq, and_true, true_and] at h
    rw [h.1, rows_inj RatG.row_inj h.2.1, h.2.2]) (n, l, f)
theorem any_take_succ {α : Type} {q : α → Bool} {l : List α} {i : Nat} {d : α} (h : i < l.length) : (l.take (i + 1)).any q = ((l.take i).any q || q (l.getD i d)) := by
  have e : l.take (i + 1) = l.take i ++ [l.getD i d] := by rw [List.take_add_one, List.getElem?_eq_getElem h, getD_lt h]; rfl
  rw [e, List.any_append, List.any_cons, List.any_nil, Bool.or_false]
theorem ofP_take {l : List RatG} {i a b : Nat} (h : i < l.length) : ofP (l.take (i + 1)) a b = (ofP (l.take i) a b || (decide ((l.getD i default).num = a) && decide ((l.getD i default).den = b))) := any_take_succ h
theorem body_rel_Of {T : Tab} : sp_Of.Body T V_rel_Of L_rel_Of R_rel_Of := by
  rintro ⟨n, l, f⟩ h1
  have h1 : l.length ≤ maxLen := h1
  refine .inr ⟨rfl, ?_⟩
  unfold V_rel_Of L_rel_Of R_rel_Of
  simp only [↓vck_skip, ↓vck_ret, ↓vck_exit, ↓vck_region, ↓vck_nilq, ↓nilTo_to, nilG_d, nilG_r, ↓vck_seq, ↓vck_cond, ↓vck_block, ↓vck_loop, ↓vckTo_to, ↓thenK_n, ↓thenK_x, ↓thenK_r, ↓blockK_n, ↓blockK_x, ↓blockK_o, ↓blockK_r, ↓regK_to, ↓retK_r, ↓retK_n, ↓loopV_n, ↓loopV_x, ↓loopV_r, ↓famK_n, ↓famK_x, ↓famK_r, ↓boolK_true, ↓boolK_false, ↓boolK_not, ↓boolK_dec, ↓boolK_and, nf_mk, RGk_end_f, RGk_end_t, RGk_op, RGk_guard, opK_to, evN, evCallN, grow_mk, feet_f, feet_t, foot_mk, stepK_mk, stepK_v, stepK_no, guardG_t, guardG_f, guardG_no, condG_b, evT, Opd.ev, get_hit, get_next, app_to, app_no, app_up, app_skip, app_skipn, know_mk, knowO_t, knowO_c, envFrom, reserve, keeps, LOp.isNew, State.prune, cellsQ, cellsT, AV.leaf, Heap.at, evLoad_ptr, evLoad_dptr, loadO_vec, loadO_dvec1, stepK_load_map, idx_I, idx_W, rowW, set_rowW, app_rowW, app_rowW0, rep_rowW0, rowB, set_rowB, rep_rowB, rowN, lens_W, lensA_W, scal_rowW, default_W, w_or, w_and, w_andNot, w_and1, w_shl, w_shl1, w_shr, w_sub1, w_neg, w_add, w_bit, w_eq0, w_eq1, w_eq, Bool.decide_eq_true, idx_Rat, idx_Loc, idx_Act, idx_Step, idx_Stamp, stepK_idx_ref, evStore_ptr, storeO_vec, stepK_store_map1, loadDT_f, rowI, RatG.row, LocG.row, ActG.row, StepG.row, StampG.row, ActG.av, ActG.eta, RatG.eta, LocG.eta, beq_true, beq_false, loadDT_t, set_rowI, app_rowI, rep_rowI, set_rowRat, app_rowRat, rep_rowRat, set_rowLoc, app_rowLoc, app_rowAct, app_rowStep, List.length_set, List.length_replicate, toNat_cast, Int.reduceToNat, evLen, evAppend, srcOf, Src.all, Src.len, Src.leaf, joinV, drows_rep1, drows_rep2, drows_rep3, drows_rep4, drows_rep5, drows_rep6, drows_rep7, drows_rep8, mkVec, drows, evMk, List.length_map, take_mapF, drop_mapF, List.take_length, List.take_left, List.length_append, Nat.le_add_right, ite_self, List.take_of_length_le, evSlice, intOr, intOpd, Option.isSome_none, Option.isSome_some, Nat.sub_zero, loadQ, loadT, evBin, evUn, evIdxArr_d, evIdxArr_p, binT, binQ, chk, apartF, List.contains_cons, List.contains_nil, Bool.or_false, Bool.false_or, Bool.and_self, resQ, resV, resT, pickV, evCallT, evCall, fnOf, viewsT, isD, HO.drow, viewT, evInt2, evEq, eqV, eqK, eqC1, buildQ, buildT, buildRQ, buildRT, lens_I, lensA_I, lens_Rat, lensA_Rat, lens_Loc, lensA_Loc, lens_Act, lensA_Act, lens_Step, lensA_Step, lens_Stamp, lensA_Stamp, List.mem_cons, List.not_mem_nil, or_false, forall_eq, putRow, dcells, get_nil, RetS, RetF, RetD, AV.frz, AV.frzL, AV.freshP, AV.freshL, DV.less, scal_int, scal_bool, scal_nil, scal_rowI, scal_rowRat, scal_rowStep, Option.some.injEq, AV.tup.injEq, AV.agg.injEq, List.cons.injEq, DV.list.injEq, List.isEmpty_nil, Nat.le_refl, AV.d.injEq, DV.int.injEq, DV.bool.injEq, ↓reduceIte, Nat.reduceEqDiff, Nat.reduceAdd, Nat.reduceBEq, List.length_cons, List.length_nil, List.replicate_succ, List.replicate_zero, List.nil_append, List.cons_append, List.append_nil, List.foldl_cons, List.foldl_nil, List.map_cons, List.map_nil, List.all_cons, List.all_nil, List.set_cons_zero, List.set_cons_succ, List.getD_cons_zero, List.getD_cons_succ, List.drop_zero, List.drop_succ_cons, List.take_succ_cons, List.take_zero, List.flatten_cons, List.flatten_nil, Bool.true_and, Bool.and_true, Bool.not_true, Bool.not_false, true_and, and_true, true_or, or_true, Option.bind_some, Option.map_some, decide_true, decide_false, beq_self_eq_true, true_implies, false_implies, implies_true, not_true_eq_false, not_false_eq_true, and_self, Bool.and_false, Bool.false_and, Nat.reduceLT, Nat.reduceLeDiff, List.reverse_cons, List.reverse_nil, Nat.zero_add, Nat.add_zero, Bool.false_eq_true, List.getElem?_cons_zero, Nat.reduceMul, Nat.mul_one, sp_Of, ofAV]
  have bad : (n < 0 ∨ 64 < n) → ofErr n l = 1 ∧ ofG n l = [] := fun h => by
    have : ofErr n l = 1 := by unfold ofErr; rw [if_pos h]
    exact ⟨this, by unfold ofG; rw [this]; rfl⟩
  refine ⟨fun c => ?_, fun c => ⟨fun c2 => ?_, fun c2 => ?_⟩⟩
  · obtain ⟨e1, e2⟩ := bad (.inl c)
    rw [e1, e2]; simp
  · obtain ⟨e1, e2⟩ := bad (.inr c2)
    rw [e1, e2]; simp
  · obtain ⟨n, rfl⟩ := Int.eq_ofNat_of_zero_le (by omega : 0 ≤ n)
    simp only [↓vck_skip, ↓vck_ret, ↓vck_exit, ↓vck_region, ↓vck_nilq, ↓nilTo_to, nilG_d, nilG_r, ↓vck_seq, ↓vck_cond, ↓vck_block, ↓vck_loop, ↓vckTo_to, ↓thenK_n, ↓thenK_x, ↓thenK_r, ↓blockK_n, ↓blockK_x, ↓blockK_o, ↓blockK_r, ↓regK_to, ↓retK_r, ↓retK_n, ↓loopV_n, ↓loopV_x, ↓loopV_r, ↓famK_n, ↓famK_x, ↓famK_r, ↓boolK_true, ↓boolK_false, ↓boolK_not, ↓boolK_dec, ↓boolK_and, nf_mk, RGk_end_f, RGk_end_t, RGk_op, RGk_guard, opK_to, evN, evCallN, grow_mk, feet_f, feet_t, foot_mk, stepK_mk, stepK_v, stepK_no, guardG_t, guardG_f, guardG_no, condG_b, evT, Opd.ev, get_hit, get_next, app_to, app_no, app_up, app_skip, app_skipn, know_mk, knowO_t, knowO_c, envFrom, reserve, keeps, LOp.isNew, State.prune, cellsQ, cellsT, AV.leaf, Heap.at, evLoad_ptr, evLoad_dptr, loadO_vec, loadO_dvec1, stepK_load_map, idx_I, idx_W, rowW, set_rowW, app_rowW, app_rowW0, rep_rowW0, rowB, set_rowB, rep_rowB, rowN, lens_W, lensA_W, scal_rowW, default_W, w_or, w_and, w_andNot, w_and1, w_shl, w_shl1, w_shr, w_sub1, w_neg, w_add, w_bit, w_eq0, w_eq1, w_eq, Bool.decide_eq_true, idx_Rat, idx_Loc, idx_Act, idx_Step, idx_Stamp, stepK_idx_ref, evStore_ptr, storeO_vec, stepK_store_map1, loadDT_f, rowI, RatG.row, LocG.row, ActG.row, StepG.row, StampG.row, ActG.av, ActG.eta, RatG.eta, LocG.eta, beq_true, beq_false, loadDT_t, set_rowI, app_rowI, rep_rowI, set_rowRat, app_rowRat, rep_rowRat, set_rowLoc, app_rowLoc, app_rowAct, app_rowStep, List.length_set, List.length_replicate, toNat_cast, Int.reduceToNat, evLen, evAppend, srcOf, Src.all, Src.len, Src.leaf, joinV, drows_rep1, drows_rep2, drows_rep3, drows_rep4, drows_rep5, drows_rep6, drows_rep7, drows_rep8, mkVec, drows, evMk, List.length_map, take_mapF, drop_mapF, List.take_length, List.take_left, List.length_append, Nat.le_add_right, ite_self, List.take_of_length_le, evSlice, intOr, intOpd, Option.isSome_none, Option.isSome_some, Nat.sub_zero, loadQ, loadT, evBin, evUn, evIdxArr_d, evIdxArr_p, binT, binQ, chk, apartF, List.contains_cons, List.contains_nil, Bool.or_false, Bool.false_or, Bool.and_self, resQ, resV, resT, pickV, evCallT, evCall, fnOf, viewsT, isD, HO.drow, viewT, evInt2, evEq, eqV, eqK, eqC1, buildQ, buildT, buildRQ, buildRT, lens_I, lensA_I, lens_Rat, lensA_Rat, lens_Loc, lensA_Loc, lens_Act, lensA_Act, lens_Step, lensA_Step, lens_Stamp, lensA_Stamp, List.mem_cons, List.not_mem_nil, or_false, forall_eq, putRow, dcells, get_nil, RetS, RetF, RetD, AV.frz, AV.frzL, AV.freshP, AV.freshL, DV.less, scal_int, scal_bool, scal_nil, scal_rowI, scal_rowRat, scal_rowStep, Option.some.injEq, AV.tup.injEq, AV.agg.injEq, List.cons.injEq, DV.list.injEq, List.isEmpty_nil, Nat.le_refl, AV.d.injEq, DV.int.injEq, DV.bool.injEq, ↓reduceIte, Nat.reduceEqDiff, Nat.reduceAdd, Nat.reduceBEq, List.length_cons, List.length_nil, List.replicate_succ, List.replicate_zero, List.nil_append, List.cons_append, List.append_nil, List.foldl_cons, List.foldl_nil, List.map_cons, List.map_nil, List.all_cons, List.all_nil, List.set_cons_zero, List.set_cons_succ, List.getD_cons_zero, List.getD_cons_succ, List.drop_zero, List.drop_succ_cons, List.take_succ_cons, List.take_zero, List.flatten_cons, List.flatten_nil, Bool.true_and, Bool.and_true, Bool.not_true, Bool.not_false, true_and, and_true, true_or, or_true, Option.bind_some, Option.map_some, decide_true, decide_false, beq_self_eq_true, true_implies, false_implies, implies_true, not_true_eq_false, not_false_eq_true, and_self, Bool.and_false, Bool.false_and, Nat.reduceLT, Nat.reduceLeDiff, List.reverse_cons, List.reverse_nil, Nat.zero_add, Nat.add_zero, Bool.false_eq_true, List.getElem?_cons_zero, Nat.reduceMul, Nat.mul_one]
    refine ⟨⟨by omega, by omega, roomy_of (by omega) (by omega)⟩, ?_⟩
    have notbad : ofErr n l = if l.any (ofBad n) then 2 else 0 := by unfold ofErr; rw [if_neg (by omega)]
    refine Loop.fam [0, 6, 17, 18, 19] (fun i : Nat => ⟨[(0, .d (.int .i64 n)), (6, .ref 0 1 0 n true), (17, .d (.list (l.map RatG.row) f)), (18, .d (.int .i64 l.length)), (19, .d (.int .i64 i))],
        [.dvec 1 ((mkR n (ofP (l.take i))).map rowW)]⟩) (fun i => i ≤ l.length ∧ (l.take i).any (ofBad n) = false) (fun i => l.length - i) 0 [0] (by simp) (by simp) (by
          simp only [State.can, AV.can, AV.canL, HO.can, canRows, idx, get_hit, get_next, Heap.at, Nat.reduceBEq, ↓reduceIte, Nat.reduceEqDiff, Option.getD_some, Option.map_some, List.map_cons, List.map_nil, List.getD_cons_zero, List.getD_cons_succ]
          rw [mkR_zero (p := ofP (l.take 0)) (fun i k _ _ => by simp [ofP])]; rfl) ⟨by omega, by simp⟩ ?_
    rintro i ⟨hi, hb⟩
    simp only [↓vck_skip, ↓vck_ret, ↓vck_exit, ↓vck_region, ↓vck_nilq, ↓nilTo_to, nilG_d, nilG_r, ↓vck_seq, ↓vck_cond, ↓vck_block, ↓vck_loop, ↓vckTo_to, ↓thenK_n, ↓thenK_x, ↓thenK_r, ↓blockK_n, ↓blockK_x, ↓blockK_o, ↓blockK_r, ↓regK_to, ↓retK_r, ↓retK_n, ↓loopV_n, ↓loopV_x, ↓loopV_r, ↓famK_n, ↓famK_x, ↓famK_r, ↓boolK_true, ↓boolK_false, ↓boolK_not, ↓boolK_dec, ↓boolK_and, nf_mk, RGk_end_f, RGk_end_t, RGk_op, RGk_guard, opK_to, evN, evCallN, grow_mk, feet_f, feet_t, foot_mk, stepK_mk, stepK_v, stepK_no, guardG_t, guardG_f, guardG_no, condG_b, evT, Opd.ev, get_hit, get_next, app_to, app_no, app_up, app_skip, app_skipn, know_mk, knowO_t, knowO_c, envFrom, reserve, keeps, LOp.isNew, State.prune, cellsQ, cellsT, AV.leaf, Heap.at, evLoad_ptr, evLoad_dptr, loadO_vec, loadO_dvec1, stepK_load_map, idx_I, idx_W, rowW, set_rowW, app_rowW, app_rowW0, rep_rowW0, rowB, set_rowB, rep_rowB, rowN, lens_W, lensA_W, scal_rowW, default_W, w_or, w_and, w_andNot, w_and1, w_shl, w_shl1, w_shr, w_sub1, w_neg, w_add, w_bit, w_eq0, w_eq1, w_eq, Bool.decide_eq_true, idx_Rat, idx_Loc, idx_Act, idx_Step, idx_Stamp, stepK_idx_ref, evStore_ptr, storeO_vec, stepK_store_map1, loadDT_f, rowI, RatG.row, LocG.row, ActG.row, StepG.row, StampG.row, ActG.av, ActG.eta, RatG.eta, LocG.eta, beq_true, beq_false, loadDT_t, set_rowI, app_rowI, rep_rowI, set_rowRat, app_rowRat, rep_rowRat, set_rowLoc, app_rowLoc, app_rowAct, app_rowStep, List.length_set, List.length_replicate, toNat_cast, Int.reduceToNat, evLen, evAppend, srcOf, Src.all, Src.len, Src.leaf, joinV, drows_rep1, drows_rep2, drows_rep3, drows_rep4, drows_rep5, drows_rep6, drows_rep7, drows_rep8, mkVec, drows, evMk, List.length_map, take_mapF, drop_mapF, List.take_length, List.take_left, List.length_append, Nat.le_add_right, ite_self, List.take_of_length_le, evSlice, intOr, intOpd, Option.isSome_none, Option.isSome_some, Nat.sub_zero, loadQ, loadT, evBin, evUn, evIdxArr_d, evIdxArr_p, binT, binQ, chk, apartF, List.contains_cons, List.contains_nil, Bool.or_false, Bool.false_or, Bool.and_self, resQ, resV, resT, pickV, evCallT, evCall, fnOf, viewsT, isD, HO.drow, viewT, evInt2, evEq, eqV, eqK, eqC1, buildQ, buildT, buildRQ, buildRT, lens_I, lensA_I, lens_Rat, lensA_Rat, lens_Loc, lensA_Loc, lens_Act, lensA_Act, lens_Step, lensA_Step, lens_Stamp, lensA_Stamp, List.mem_cons, List.not_mem_nil, or_false, forall_eq, putRow, dcells, get_nil, RetS, RetF, RetD, AV.frz, AV.frzL, AV.freshP, AV.freshL, DV.less, scal_int, scal_bool, scal_nil, scal_rowI, scal_rowRat, scal_rowStep, Option.some.injEq, AV.tup.injEq, AV.agg.injEq, List.cons.injEq, DV.list.injEq, List.isEmpty_nil, Nat.le_refl, AV.d.injEq, DV.int.injEq, DV.bool.injEq, ↓reduceIte, Nat.reduceEqDiff, Nat.reduceAdd, Nat.reduceBEq, List.length_cons, List.length_nil, List.replicate_succ, List.replicate_zero, List.nil_append, List.cons_append, List.append_nil, List.foldl_cons, List.foldl_nil, List.map_cons, List.map_nil, List.all_cons, List.all_nil, List.set_cons_zero, List.set_cons_succ, List.getD_cons_zero, List.getD_cons_succ, List.drop_zero, List.drop_succ_cons, List.take_succ_cons, List.take_zero, List.flatten_cons, List.flatten_nil, Bool.true_and, Bool.and_true, Bool.not_true, Bool.not_false, true_and, and_true, true_or, or_true, Option.bind_some, Option.map_some, decide_true, decide_false, beq_self_eq_true, true_implies, false_implies, implies_true, not_true_eq_false, not_false_eq_true, and_self, Bool.and_false, Bool.false_and, Nat.reduceLT, Nat.reduceLeDiff, List.reverse_cons, List.reverse_nil, Nat.zero_add, Nat.add_zero, Bool.false_eq_true, List.getElem?_cons_zero, Nat.reduceMul, Nat.mul_one]
    refine ⟨fun g => ?_, fun g => ?_⟩
    · have g' : i < l.length := by omega
      have e1 := any_take_succ (q := ofBad n) (d := default) g'
      have e2 : ∀ a b, _ := fun a b => ofP_take (a := a) (b := b) g'
      have out : ofBad n (l.getD i default) = true → ofErr n l = 2 ∧ ofG n l = [] := fun h => by
        have h2 : l.any (ofBad n) = true := by
          rw [List.any_eq_true]
          refine ⟨l.getD i default, ?_, h⟩
          rw [getD_lt g']; exact List.getElem_mem g'
        have : ofErr n l = 2 := by rw [notbad, if_pos h2]
        exact ⟨this, by unfold ofG; rw [this]; rfl⟩
      generalize l.getD i default = x at *
      simp only [wrap_succ g' h1]
      have isbad : ∀ q : ofBad n x = true, ([] : List (List DV)) = List.map rowW (ofG n l) ∧ (2 : Int) = ofErr n l := fun q => by
        obtain ⟨o1, o2⟩ := out q
        rw [o1, o2]; simp
      refine ⟨by omega, by omega, fun b1 => isbad (by simp [ofBad, b1]), fun b1 => ⟨by omega, fun b2 => isbad (by simp [ofBad, b2]), fun b2 => ⟨by omega, fun b3 => isbad (by simp [ofBad, b3]), fun b3 => ⟨by omega, fun b4 => isbad (by simp [ofBad, b4]), fun b4 => ?_⟩⟩⟩⟩
      have nb : ofBad n x = false := by simp [ofBad]; omega
      obtain ⟨a, ha⟩ := Int.eq_ofNat_of_zero_le (by omega : 0 ≤ x.num)
      obtain ⟨b, hb2⟩ := Int.eq_ofNat_of_zero_le (by omega : 0 ≤ x.den)
      simp only [ha, hb2] at e2 b2 b4 ⊢
      simp only [wrapU (k := b) (by omega), toNat_cast, w_shl1, w_or]
      rw [mkR_len]
      refine ⟨by omega, by omega, by omega, by omega, by omega, by omega, by omega, ?_⟩
      have han : a < n := by omega
      refine FamNext.mk [0] (i + 1) (by simp) (by simp) ?_ ⟨by omega, by rw [e1, hb, nb]; rfl⟩ (by omega)
      rw [mkR_set (q := ofP (l.take (i + 1))) han]
      · simp only [State.can, AV.can, AV.canL, HO.can, canRows, idx, get_hit, get_next, Heap.at, Nat.reduceBEq, ↓reduceIte, Nat.reduceEqDiff, Option.getD_some, Option.map_some, List.map_cons, List.map_nil, List.getD_cons_zero, List.getD_cons_succ]
      · intro k hk
        rw [BitVec.getLsbD_or, mkR_get han, one_shl (by omega), e2]
        by_cases hkn : k < n
        · by_cases e3 : b = k
          · subst e3; simp [hkn, hk]
          · have : ¬ (b : Int) = k := by omega
            simp [hkn, hk, e3, this]
        · have : ¬ b = k := by omega
          simp [hkn, this]
      · intro a' k ha' hk hne
        rw [e2]
        have : ¬ (a : Int) = a' := by omega
        simp [this]
    · have : i = l.length := by omega
      subst this
      rw [List.take_length] at hb ⊢
      have e1 : ofErr n l = 0 := by rw [notbad, hb]; rfl
      have e2 : ofG n l = mkR n (ofP l) := by unfold ofG; rw [e1, if_pos rfl]; rfl
      rw [e1, e2]
      simp [mkR_len, List.take_of_length_le]

/-! ### Order -/
def freeK (B : List W) (told : W) (k : Nat) : Bool := !told.getLsbD k && decide (B.getD k 0#64 &&& ~~~told = 0#64)
def freeAt (B : List W) (n : Nat) (told : W) : Nat := ((List.range n).find? (freeK B told)).getD n
theorem freeAt_eq {B : List W} {n a : Nat} {told : W} (hn : a ≤ n) (h : ∀ k, k < a → freeK B told k = false) (ha : a = n ∨ freeK B told a = true) : freeAt B n told = a := by
  unfold freeAt
  rcases Nat.lt_or_ge a n with hl | hl
  · have hf : freeK B told a = true := by rcases ha with ha | ha; omega; exact ha
    have e : (List.range n) = List.range a ++ (a :: (List.range (n - (a + 1))).map (fun x => (a + 1) + x)) := by
      have h1 : List.range n = List.range ((a + 1) + (n - (a + 1))) := by congr 1; omega
      rw [h1, List.range_add, List.range_succ, List.append_assoc]; rfl
    rw [e, List.find?_append, List.find?_eq_none.2 (fun x hx => by rw [h x (by simpa using hx)]; simp), Option.none_or, List.find?_cons_of_pos hf]; rfl
  · have : a = n := by omega
    subst this
    rw [List.find?_eq_none.2 (fun x hx => by rw [h x (by simpa using hx)]; simp)]; rfl
/-- One behind the other, each with nobody untold ahead of it. -/
def orderGo (B : List W) (n : Nat) : Nat → W → List Int → Option (List Int)
  | 0, _, out => some out
  | f + 1, told, out => if freeAt B n told = n then none else orderGo B n f (told ||| 1#64 <<< freeAt B n told) (out ++ [(freeAt B n told : Int)])
def orderG (R : List W) : Option (List Int) := orderGo (backG R) (szR R) (szR R) 0#64 []
def orderAV (R : List W) : AV := .tup [.d (.list (((orderG R).getD []).map rowI) false), .d (.bool (orderG R).isSome)]
def sp_Order : Sp := ⟨List W × Bool, fun x => [.d (.list (x.1.map rowW) x.2)], fun x => .data (x.1.length ≤ maxLen) (orderAV x.1) true⟩
theorem at_Order (A : List W) (e : Bool) : sp_Order.at [.d (.list (A.map rowW) e)] = .data (A.length ≤ maxLen) (.tup [.d (.list (((orderG A).getD []).map rowI) false), .d (.bool (orderG A).isSome)]) true :=
  Sp.at_enc (s := sp_Order) (fun x y h => by
    obtain ⟨a, b⟩ := x; obtain ⟨a', b'⟩ := y
    simp only [sp_Order, List.cons.injEq, AV.d.injEq, DV.list.injEq, and_true] at h
    rw [rows_inj rowW_inj h.1, h.2]) (A, e)

def ordSt (R : List W) (n : Nat) : Nat × W × List Int → State
  | (i, told, []) => ⟨[(4, .ref 0 1 0 n true), (5, .d (.list [] true)), (6, .d (.int .u64 (told.toNat : Int))), (11, .d (.int .i64 n)), (12, .d (.int .i64 i))], [.dvec 1 ((backG R).map rowW)]⟩
  | (i, told, o :: os) => ⟨[(4, .ref 0 1 0 n true), (5, .ref 1 1 0 (os.length + 1) true), (6, .d (.int .u64 (told.toNat : Int))), (11, .d (.int .i64 n)), (12, .d (.int .i64 i))], [.dvec 1 ((backG R).map rowW), .dvec 1 ((o :: os).map rowI)]⟩
theorem body_rel_Order {T : Tab} {n1 : Nat} (k1 : Knows T n1 sp_Back) : sp_Order.Body T V_rel_Order (L_rel_Order n1) R_rel_Order := by
  have F1 := k1.F; have G1 := k1.G
  rintro ⟨A, e⟩ h1
  have h1 : A.length ≤ maxLen := h1
  refine .inr ⟨rfl, ?_⟩
  unfold V_rel_Order L_rel_Order R_rel_Order
  simp only [↓vck_skip, ↓vck_ret, ↓vck_exit, ↓vck_region, ↓vck_nilq, ↓nilTo_to, nilG_d, nilG_r, ↓vck_seq, ↓vck_cond, ↓vck_block, ↓vck_loop, ↓vckTo_to, ↓thenK_n, ↓thenK_x, ↓thenK_r, ↓blockK_n, ↓blockK_x, ↓blockK_o, ↓blockK_r, ↓regK_to, ↓retK_r, ↓retK_n, ↓loopV_n, ↓loopV_x, ↓loopV_r, ↓famK_n, ↓famK_x, ↓famK_r, ↓boolK_true, ↓boolK_false, ↓boolK_not, ↓boolK_dec, ↓boolK_and, nf_mk, RGk_end_f, RGk_end_t, RGk_op, RGk_guard, opK_to, evN, evCallN, grow_mk, feet_f, feet_t, foot_mk, stepK_mk, stepK_v, stepK_no, guardG_t, guardG_f, guardG_no, condG_b, evT, Opd.ev, get_hit, get_next, app_to, app_no, app_up, app_skip, app_skipn, know_mk, knowO_t, knowO_c, envFrom, reserve, keeps, LOp.isNew, State.prune, cellsQ, cellsT, AV.leaf, Heap.at, evLoad_ptr, evLoad_dptr, loadO_vec, loadO_dvec1, stepK_load_map, idx_I, idx_W, rowW, set_rowW, app_rowW, app_rowW0, rep_rowW0, rowB, set_rowB, rep_rowB, rowN, lens_W, lensA_W, scal_rowW, default_W, w_or, w_and, w_andNot, w_and1, w_shl, w_shl1, w_shr, w_sub1, w_neg, w_add, w_bit, w_eq0, w_eq1, w_eq, Bool.decide_eq_true, idx_Rat, idx_Loc, idx_Act, idx_Step, idx_Stamp, stepK_idx_ref, evStore_ptr, storeO_vec, stepK_store_map1, loadDT_f, rowI, RatG.row, LocG.row, ActG.row, StepG.row, StampG.row, ActG.av, ActG.eta, RatG.eta, LocG.eta, beq_true, beq_false, loadDT_t, set_rowI, app_rowI, rep_rowI, set_rowRat, app_rowRat, rep_rowRat, set_rowLoc, app_rowLoc, app_rowAct, app_rowStep, List.length_set, List.length_replicate, toNat_cast, Int.reduceToNat, evLen, evAppend, srcOf, Src.all, Src.len, Src.leaf, joinV, drows_rep1, drows_rep2, drows_rep3, drows_rep4, drows_rep5, drows_rep6, drows_rep7, drows_rep8, mkVec, drows, evMk, List.length_map, take_mapF, drop_mapF, List.take_length, List.take_left, List.length_append, Nat.le_add_right, ite_self, List.take_of_length_le, evSlice, intOr, intOpd, Option.isSome_none, Option.isSome_some, Nat.sub_zero, loadQ, loadT, evBin, evUn, evIdxArr_d, evIdxArr_p, binT, binQ, chk, apartF, List.contains_cons, List.contains_nil, Bool.or_false, Bool.false_or, Bool.and_self, resQ, resV, resT, pickV, evCallT, evCall, fnOf, viewsT, isD, HO.drow, viewT, evInt2, evEq, eqV, eqK, eqC1, buildQ, buildT, buildRQ, buildRT, lens_I, lensA_I, lens_Rat, lensA_Rat, lens_Loc, lensA_Loc, lens_Act, lensA_Act, lens_Step, lensA_Step, lens_Stamp, lensA_Stamp, List.mem_cons, List.not_mem_nil, or_false, forall_eq, putRow, dcells, get_nil, RetS, RetF, RetD, AV.frz, AV.frzL, AV.freshP, AV.freshL, DV.less, scal_int, scal_bool, scal_nil, scal_rowI, scal_rowRat, scal_rowStep, Option.some.injEq, AV.tup.injEq, AV.agg.injEq, List.cons.injEq, DV.list.injEq, List.isEmpty_nil, Nat.le_refl, AV.d.injEq, DV.int.injEq, DV.bool.injEq, ↓reduceIte, Nat.reduceEqDiff, Nat.reduceAdd, Nat.reduceBEq, List.length_cons, List.length_nil, List.replicate_succ, List.replicate_zero, List.nil_append, List.cons_append, List.append_nil, List.foldl_cons, List.foldl_nil, List.map_cons, List.map_nil, List.all_cons, List.all_nil, List.set_cons_zero, List.set_cons_succ, List.getD_cons_zero, List.getD_cons_succ, List.drop_zero, List.drop_succ_cons, List.take_succ_cons, List.take_zero, List.flatten_cons, List.flatten_nil, Bool.true_and, Bool.and_true, Bool.not_true, Bool.not_false, true_and, and_true, true_or, or_true, Option.bind_some, Option.map_some, decide_true, decide_false, beq_self_eq_true, true_implies, false_implies, implies_true, not_true_eq_false, not_false_eq_true, and_self, Bool.and_false, Bool.false_and, Nat.reduceLT, Nat.reduceLeDiff, List.reverse_cons, List.reverse_nil, Nat.zero_add, Nat.add_zero, Bool.false_eq_true, List.getElem?_cons_zero, Nat.reduceMul, Nat.mul_one, sp_Order, orderAV, F1, G1, at_Back]
  have hle := szR_le A
  have hl : (backG A).length = szR A := mkR_len
  have ho : orderG A = orderGo (backG A) (szR A) (szR A) 0#64 [] := rfl
  rw [hl]
  generalize hn : szR A = n at *
  generalize hB : backG A = B at *
  refine ⟨h1, ?_⟩
  refine Loop.fam [4, 5, 6, 11, 12] (ordSt A n) (fun x => x.1 ≤ n ∧ x.2.2.length = x.1 ∧ orderGo B n (n - x.1) x.2.1 x.2.2 = orderG A) (fun x => n - x.1) (0, 0#64, []) [0] (by simp) (by simp) (by
    simp only [State.can, AV.can, AV.canL, HO.can, canRows, idx, get_hit, get_next, Heap.at, Nat.reduceBEq, ↓reduceIte, Nat.reduceEqDiff, Option.getD_some, Option.map_some, List.map_cons, List.map_nil, List.getD_cons_zero, List.getD_cons_succ, ordSt, hB]; rfl) ⟨by omega, rfl, by rw [ho]; rfl⟩ ?_
  rintro ⟨i, told, out⟩ ⟨i1, i2, i3⟩
  have i1 : i ≤ n := i1
  have i2 : out.length = i := i2
  have i3 : orderGo B n (n - i) told out = orderG A := i3
  cases out with
  | nil =>
    simp only [↓vck_skip, ↓vck_ret, ↓vck_exit, ↓vck_region, ↓vck_nilq, ↓nilTo_to, nilG_d, nilG_r, ↓vck_seq, ↓vck_cond, ↓vck_block, ↓vck_loop, ↓vckTo_to, ↓thenK_n, ↓thenK_x, ↓thenK_r, ↓blockK_n, ↓blockK_x, ↓blockK_o, ↓blockK_r, ↓regK_to, ↓retK_r, ↓retK_n, ↓loopV_n, ↓loopV_x, ↓loopV_r, ↓famK_n, ↓famK_x, ↓famK_r, ↓boolK_true, ↓boolK_false, ↓boolK_not, ↓boolK_dec, ↓boolK_and, nf_mk, RGk_end_f, RGk_end_t, RGk_op, RGk_guard, opK_to, evN, evCallN, grow_mk, feet_f, feet_t, foot_mk, stepK_mk, stepK_v, stepK_no, guardG_t, guardG_f, guardG_no, condG_b, evT, Opd.ev, get_hit, get_next, app_to, app_no, app_up, app_skip, app_skipn, know_mk, knowO_t, knowO_c, envFrom, reserve, keeps, LOp.isNew, State.prune, cellsQ, cellsT, AV.leaf, Heap.at, evLoad_ptr, evLoad_dptr, loadO_vec, loadO_dvec1, stepK_load_map, idx_I, idx_W, rowW, set_rowW, app_rowW, app_rowW0, rep_rowW0, rowB, set_rowB, rep_rowB, rowN, lens_W, lensA_W, scal_rowW, default_W, w_or, w_and, w_andNot, w_and1, w_shl, w_shl1, w_shr, w_sub1, w_neg, w_add, w_bit, w_eq0, w_eq1, w_eq, Bool.decide_eq_true, idx_Rat, idx_Loc, idx_Act, idx_Step, idx_Stamp, stepK_idx_ref, evStore_ptr, storeO_vec, stepK_store_map1, loadDT_f, rowI, RatG.row, LocG.row, ActG.row, StepG.row, StampG.row, ActG.av, ActG.eta, RatG.eta, LocG.eta, beq_true, beq_false, loadDT_t, set_rowI, app_rowI, rep_rowI, set_rowRat, app_rowRat, rep_rowRat, set_rowLoc, app_rowLoc, app_rowAct, app_rowStep, List.length_set, List.length_replicate, toNat_cast, Int.reduceToNat, evLen, evAppend, srcOf, Src.all, Src.len, Src.leaf, joinV, drows_rep1, drows_rep2, drows_rep3, drows_rep4, drows_rep5, drows_rep6, drows_rep7, drows_rep8, mkVec, drows, evMk, List.length_map, take_mapF, drop_mapF, List.take_length, List.take_left, List.length_append, Nat.le_add_right, ite_self, List.take_of_length_le, evSlice, intOr, intOpd, Option.isSome_none, Option.isSome_some, Nat.sub_zero, loadQ, loadT, evBin, evUn, evIdxArr_d, evIdxArr_p, binT, binQ, chk, apartF, List.contains_cons, List.contains_nil, Bool.or_false, Bool.false_or, Bool.and_self, resQ, resV, resT, pickV, evCallT, evCall, fnOf, viewsT, isD, HO.drow, viewT, evInt2, evEq, eqV, eqK, eqC1, buildQ, buildT, buildRQ, buildRT, lens_I, lensA_I, lens_Rat, lensA_Rat, lens_Loc, lensA_Loc, lens_Act, lensA_Act, lens_Step, lensA_Step, lens_Stamp, lensA_Stamp, List.mem_cons, List.not_mem_nil, or_false, forall_eq, putRow, dcells, get_nil, RetS, RetF, RetD, AV.frz, AV.frzL, AV.freshP, AV.freshL, DV.less, scal_int, scal_bool, scal_nil, scal_rowI, scal_rowRat, scal_rowStep, Option.some.injEq, AV.tup.injEq, AV.agg.injEq, List.cons.injEq, DV.list.injEq, List.isEmpty_nil, Nat.le_refl, AV.d.injEq, DV.int.injEq, DV.bool.injEq, ↓reduceIte, Nat.reduceEqDiff, Nat.reduceAdd, Nat.reduceBEq, List.length_cons, List.length_nil, List.replicate_succ, List.replicate_zero, List.nil_append, List.cons_append, List.append_nil, List.foldl_cons, List.foldl_nil, List.map_cons, List.map_nil, List.all_cons, List.all_nil, List.set_cons_zero, List.set_cons_succ, List.getD_cons_zero, List.getD_cons_succ, List.drop_zero, List.drop_succ_cons, List.take_succ_cons, List.take_zero, List.flatten_cons, List.flatten_nil, Bool.true_and, Bool.and_true, Bool.not_true, Bool.not_false, true_and, and_true, true_or, or_true, Option.bind_some, Option.map_some, decide_true, decide_false, beq_self_eq_true, true_implies, false_implies, implies_true, not_true_eq_false, not_false_eq_true, and_self, Bool.and_false, Bool.false_and, Nat.reduceLT, Nat.reduceLeDiff, List.reverse_cons, List.reverse_nil, Nat.zero_add, Nat.add_zero, Bool.false_eq_true, List.getElem?_cons_zero, Nat.reduceMul, Nat.mul_one, ordSt, F1, G1, at_Back, hB]
    refine ⟨fun c => ?_, fun c => ?_⟩
    · have c' : i < n := by omega
      obtain ⟨d, hd⟩ : ∃ d, n - i = d + 1 := ⟨n - i - 1, by omega⟩
      rw [hd] at i3
      simp only [orderGo] at i3
      refine Loop.fam [4, 5, 6, 7, 11, 12] (fun a : Nat => ⟨[(4, .ref 0 1 0 n true), (5, .d (.list [] true)), (6, .d (.int .u64 (told.toNat : Int))), (7, .d (.int .i64 a)), (11, .d (.int .i64 n)), (12, .d (.int .i64 i))], [.dvec 1 (B.map rowW)]⟩)
        (fun a => a ≤ n ∧ ∀ k, k < a → freeK B told k = false) (fun a => n - a) 0 [0] (by simp) (by simp) (by simp only [State.can, AV.can, AV.canL, HO.can, canRows, idx, get_hit, get_next, Heap.at, Nat.reduceBEq, ↓reduceIte, Nat.reduceEqDiff, Option.getD_some, Option.map_some, List.map_cons, List.map_nil, List.getD_cons_zero, List.getD_cons_succ]; rfl) ⟨by omega, fun k hk => by omega⟩ ?_
      rintro a ⟨a1, a2⟩
      simp only [↓vck_skip, ↓vck_ret, ↓vck_exit, ↓vck_region, ↓vck_nilq, ↓nilTo_to, nilG_d, nilG_r, ↓vck_seq, ↓vck_cond, ↓vck_block, ↓vck_loop, ↓vckTo_to, ↓thenK_n, ↓thenK_x, ↓thenK_r, ↓blockK_n, ↓blockK_x, ↓blockK_o, ↓blockK_r, ↓regK_to, ↓retK_r, ↓retK_n, ↓loopV_n, ↓loopV_x, ↓loopV_r, ↓famK_n, ↓famK_x, ↓famK_r, ↓boolK_true, ↓boolK_false, ↓boolK_not, ↓boolK_dec, ↓boolK_and, nf_mk, RGk_end_f, RGk_end_t, RGk_op, RGk_guard, opK_to, evN, evCallN, grow_mk, feet_f, feet_t, foot_mk, stepK_mk, stepK_v, stepK_no, guardG_t, guardG_f, guardG_no, condG_b, evT, Opd.ev, get_hit, get_next, app_to, app_no, app_up, app_skip, app_skipn, know_mk, knowO_t, knowO_c, envFrom, reserve, keeps, LOp.isNew, State.prune, cellsQ, cellsT, AV.leaf, Heap.at, evLoad_ptr, evLoad_dptr, loadO_vec, loadO_dvec1, stepK_load_map, idx_I, idx_W, rowW, set_rowW, app_rowW, app_rowW0, rep_rowW0, rowB, set_rowB, rep_rowB, rowN, lens_W, lensA_W, scal_rowW, default_W, w_or, w_and, w_andNot, w_and1, w_shl, w_shl1, w_shr, w_sub1, w_neg, w_add, w_bit, w_eq0, w_eq1, w_eq, Bool.decide_eq_true, idx_Rat, idx_Loc, idx_Act, idx_Step, idx_Stamp, stepK_idx_ref, evStore_ptr, storeO_vec, stepK_store_map1, loadDT_f, rowI, RatG.row, LocG.row, ActG.row, StepG.row, StampG.row, ActG.av, ActG.eta, RatG.eta, LocG.eta, beq_true, beq_false, loadDT_t, set_rowI, app_rowI, rep_rowI, set_rowRat, app_rowRat, rep_rowRat, set_rowLoc, app_rowLoc, app_rowAct, app_rowStep, List.length_set, List.length_replicate, toNat_cast, Int.reduceToNat, evLen, evAppend, srcOf, Src.all, Src.len, Src.leaf, joinV, drows_rep1, drows_rep2, drows_rep3, drows_rep4, drows_rep5, drows_rep6, drows_rep7, drows_rep8, mkVec, drows, evMk, List.length_map, take_mapF, drop_mapF, List.take_length, List.take_left, List.length_append, Nat.le_add_right, ite_self, List.take_of_length_le, evSlice, intOr, intOpd, Option.isSome_none, Option.isSome_some, Nat.sub_zero, loadQ, loadT, evBin, evUn, evIdxArr_d, evIdxArr_p, binT, binQ, chk, apartF, List.contains_cons, List.contains_nil, Bool.or_false, Bool.false_or, Bool.and_self, resQ, resV, resT, pickV, evCallT, evCall, fnOf, viewsT, isD, HO.drow, viewT, evInt2, evEq, eqV, eqK, eqC1, buildQ, buildT, buildRQ, buildRT, lens_I, lensA_I, lens_Rat, lensA_Rat, lens_Loc, lensA_Loc, lens_Act, lensA_Act, lens_Step, lensA_Step, lens_Stamp, lensA_Stamp, List.mem_cons, List.not_mem_nil, or_false, forall_eq, putRow, dcells, get_nil, RetS, RetF, RetD, AV.frz, AV.frzL, AV.freshP, AV.freshL, DV.less, scal_int, scal_bool, scal_nil, scal_rowI, scal_rowRat, scal_rowStep, Option.some.injEq, AV.tup.injEq, AV.agg.injEq, List.cons.injEq, DV.list.injEq, List.isEmpty_nil, Nat.le_refl, AV.d.injEq, DV.int.injEq, DV.bool.injEq, ↓reduceIte, Nat.reduceEqDiff, Nat.reduceAdd, Nat.reduceBEq, List.length_cons, List.length_nil, List.replicate_succ, List.replicate_zero, List.nil_append, List.cons_append, List.append_nil, List.foldl_cons, List.foldl_nil, List.map_cons, List.map_nil, List.all_cons, List.all_nil, List.set_cons_zero, List.set_cons_succ, List.getD_cons_zero, List.getD_cons_succ, List.drop_zero, List.drop_succ_cons, List.take_succ_cons, List.take_zero, List.flatten_cons, List.flatten_nil, Bool.true_and, Bool.and_true, Bool.not_true, Bool.not_false, true_and, and_true, true_or, or_true, Option.bind_some, Option.map_some, decide_true, decide_false, beq_self_eq_true, true_implies, false_implies, implies_true, not_true_eq_false, not_false_eq_true, and_self, Bool.and_false, Bool.false_and, Nat.reduceLT, Nat.reduceLeDiff, List.reverse_cons, List.reverse_nil, Nat.zero_add, Nat.add_zero, Bool.false_eq_true, List.getElem?_cons_zero, Nat.reduceMul, Nat.mul_one, hl]
      have fr : freeK B told a = (!told.getLsbD a && decide (B.getD a 0#64 &&& ~~~told = 0#64)) := rfl
      have fin : (a = n ∨ freeK B told a = true) → freeAt B n told = a := freeAt_eq a1 a2
      refine ⟨fun g => ?_, fun g => ?_⟩
      · have g' : a < n := by omega
        simp only [wrapU (k := a) (by omega), wrap_succ g' (by unfold maxLen; omega), toNat_cast, w_shr, w_eq1, w_bit, Bool.decide_eq_true]
        generalize B.getD a 0#64 &&& ~~~told = z at *
        have next : freeK B told a = false → ∀ k, k < a + 1 → freeK B told k = false := fun h k hk => by
          by_cases e1 : k = a
          · subst e1; exact h
          · exact a2 k (by omega)
        refine ⟨by omega, fun hb => ?_, fun hb => ⟨by omega, by omega, fun hz => ⟨fun e1 => absurd e1 (by omega), fun _ => ⟨by omega, roomy_of (by simp at i2; omega) (by omega), ?_⟩⟩, fun hz => ?_⟩⟩
        · exact FamNext.mk [0] (a + 1) (by simp) (by simp) (by simp only [State.can, AV.can, AV.canL, HO.can, canRows, idx, get_hit, get_next, Heap.at, Nat.reduceBEq, ↓reduceIte, Nat.reduceEqDiff, Option.getD_some, Option.map_some, List.map_cons, List.map_nil, List.getD_cons_zero, List.getD_cons_succ]) ⟨by omega, next (by rw [fr, hb]; rfl)⟩ (by omega)
        · have hf := fin (.inr (by rw [fr, hb, hz]; rfl))
          rw [hf, if_neg (by omega : ¬ a = n)] at i3
          rw [wrap_succ c' (by unfold maxLen; omega)]
          exact FamNext.mk [0, 2] (i + 1, told ||| 1#64 <<< a, [(a : Int)]) (by simp) (by simp) (by simp only [State.can, AV.can, AV.canL, HO.can, canRows, idx, get_hit, get_next, Heap.at, Nat.reduceBEq, ↓reduceIte, Nat.reduceEqDiff, Option.getD_some, Option.map_some, List.map_cons, List.map_nil, List.getD_cons_zero, List.getD_cons_succ, ordSt, hB]; rfl)
            ⟨by show i + 1 ≤ n; omega, by simp at i2 ⊢; omega, by show orderGo B n (n - (i + 1)) _ _ = _; rw [show n - (i + 1) = d by omega]; exact i3⟩ (by show n - (i + 1) < n - i; omega)
        · exact FamNext.mk [0] (a + 1) (by simp) (by simp) (by simp only [State.can, AV.can, AV.canL, HO.can, canRows, idx, get_hit, get_next, Heap.at, Nat.reduceBEq, ↓reduceIte, Nat.reduceEqDiff, Option.getD_some, Option.map_some, List.map_cons, List.map_nil, List.getD_cons_zero, List.getD_cons_succ]) ⟨by omega, next (by rw [fr]; simp [hz])⟩ (by omega)
      · have hf := fin (.inl (by omega))
        rw [hf, if_pos (by omega : a = n)] at i3
        rw [← i3]
        refine ⟨fun _ => ⟨rfl, rfl⟩, fun e1 => absurd (by omega) e1⟩
    · have : i = n := by omega
      subst this
      rw [Nat.sub_self] at i3
      simp only [orderGo] at i3
      rw [← i3]
      exact ⟨rfl, rfl⟩
  | cons o os =>
    simp only [↓vck_skip, ↓vck_ret, ↓vck_exit, ↓vck_region, ↓vck_nilq, ↓nilTo_to, nilG_d, nilG_r, ↓vck_seq, ↓vck_cond, ↓vck_block, ↓vck_loop, ↓vckTo_to, ↓thenK_n, ↓thenK_x, ↓thenK_r, ↓blockK_n, ↓blockK_x, ↓blockK_o, ↓blockK_r, ↓regK_to, ↓retK_r, ↓retK_n, ↓loopV_n, ↓loopV_x, ↓loopV_r, ↓famK_n, ↓famK_x, ↓famK_r, ↓boolK_true, ↓boolK_false, ↓boolK_not, ↓boolK_dec, ↓boolK_and, nf_mk, RGk_end_f, RGk_end_t, RGk_op, RGk_guard, opK_to, evN, evCallN, grow_mk, feet_f, feet_t, foot_mk, stepK_mk, stepK_v, stepK_no, guardG_t, guardG_f, guardG_no, condG_b, evT, Opd.ev, get_hit, get_next, app_to, app_no, app_up, app_skip, app_skipn, know_mk, knowO_t, knowO_c, envFrom, reserve, keeps, LOp.isNew, State.prune, cellsQ, cellsT, AV.leaf, Heap.at, evLoad_ptr, evLoad_dptr, loadO_vec, loadO_dvec1, stepK_load_map, idx_I, idx_W, rowW, set_rowW, app_rowW, app_rowW0, rep_rowW0, rowB, set_rowB, rep_rowB, rowN, lens_W, lensA_W, scal_rowW, default_W, w_or, w_and, w_andNot, w_and1, w_shl, w_shl1, w_shr, w_sub1, w_neg, w_add, w_bit, w_eq0, w_eq1, w_eq, Bool.decide_eq_true, idx_Rat, idx_Loc, idx_Act, idx_Step, idx_Stamp, stepK_idx_ref, evStore_ptr, storeO_vec, stepK_store_map1, loadDT_f, rowI, RatG.row, LocG.row, ActG.row, StepG.row, StampG.row, ActG.av, ActG.eta, RatG.eta, LocG.eta, beq_true, beq_false, loadDT_t, set_rowI, app_rowI, rep_rowI, set_rowRat, app_rowRat, rep_rowRat, set_rowLoc, app_rowLoc, app_rowAct, app_rowStep, List.length_set, List.length_replicate, toNat_cast, Int.reduceToNat, evLen, evAppend, srcOf, Src.all, Src.len, Src.leaf, joinV, drows_rep1, drows_rep2, drows_rep3, drows_rep4, drows_rep5, drows_rep6, drows_rep7, drows_rep8, mkVec, drows, evMk, List.length_map, take_mapF, drop_mapF, List.take_length, List.take_left, List.length_append, Nat.le_add_right, ite_self, List.take_of_length_le, evSlice, intOr, intOpd, Option.isSome_none, Option.isSome_some, Nat.sub_zero, loadQ, loadT, evBin, evUn, evIdxArr_d, evIdxArr_p, binT, binQ, chk, apartF, List.contains_cons, List.contains_nil, Bool.or_false, Bool.false_or, Bool.and_self, resQ, resV, resT, pickV, evCallT, evCall, fnOf, viewsT, isD, HO.drow, viewT, evInt2, evEq, eqV, eqK, eqC1, buildQ, buildT, buildRQ, buildRT, lens_I, lensA_I, lens_Rat, lensA_Rat, lens_Loc, lensA_Loc, lens_Act, lensA_Act, lens_Step, lensA_Step, lens_Stamp, lensA_Stamp, List.mem_cons, List.not_mem_nil, or_false, forall_eq, putRow, dcells, get_nil, RetS, RetF, RetD, AV.frz, AV.frzL, AV.freshP, AV.freshL, DV.less, scal_int, scal_bool, scal_nil, scal_rowI, scal_rowRat, scal_rowStep, Option.some.injEq, AV.tup.injEq, AV.agg.injEq, List.cons.injEq, DV.list.injEq, List.isEmpty_nil, Nat.le_refl, AV.d.injEq, DV.int.injEq, DV.bool.injEq, ↓reduceIte, Nat.reduceEqDiff, Nat.reduceAdd, Nat.reduceBEq, List.length_cons, List.length_nil, List.replicate_succ, List.replicate_zero, List.nil_append, List.cons_append, List.append_nil, List.foldl_cons, List.foldl_nil, List.map_cons, List.map_nil, List.all_cons, List.all_nil, List.set_cons_zero, List.set_cons_succ, List.getD_cons_zero, List.getD_cons_succ, List.drop_zero, List.drop_succ_cons, List.take_succ_cons, List.take_zero, List.flatten_cons, List.flatten_nil, Bool.true_and, Bool.and_true, Bool.not_true, Bool.not_false, true_and, and_true, true_or, or_true, Option.bind_some, Option.map_some, decide_true, decide_false, beq_self_eq_true, true_implies, false_implies, implies_true, not_true_eq_false, not_false_eq_true, and_self, Bool.and_false, Bool.false_and, Nat.reduceLT, Nat.reduceLeDiff, List.reverse_cons, List.reverse_nil, Nat.zero_add, Nat.add_zero, Bool.false_eq_true, List.getElem?_cons_zero, Nat.reduceMul, Nat.mul_one, ordSt, F1, G1, at_Back, hB]
    refine ⟨fun c => ?_, fun c => ?_⟩
    · have c' : i < n := by omega
      obtain ⟨d, hd⟩ : ∃ d, n - i = d + 1 := ⟨n - i - 1, by omega⟩
      rw [hd] at i3
      simp only [orderGo] at i3
      refine Loop.fam [4, 5, 6, 7, 11, 12] (fun a : Nat => ⟨[(4, .ref 0 1 0 n true), (5, .ref 1 1 0 (os.length + 1) true), (6, .d (.int .u64 (told.toNat : Int))), (7, .d (.int .i64 a)), (11, .d (.int .i64 n)), (12, .d (.int .i64 i))], [.dvec 1 (B.map rowW), .dvec 1 ((o :: os).map rowI)]⟩)
        (fun a => a ≤ n ∧ ∀ k, k < a → freeK B told k = false) (fun a => n - a) 0 [0, 1] (by simp) (by simp) (by simp only [State.can, AV.can, AV.canL, HO.can, canRows, idx, get_hit, get_next, Heap.at, Nat.reduceBEq, ↓reduceIte, Nat.reduceEqDiff, Option.getD_some, Option.map_some, List.map_cons, List.map_nil, List.getD_cons_zero, List.getD_cons_succ]; rfl) ⟨by omega, fun k hk => by omega⟩ ?_
      rintro a ⟨a1, a2⟩
      simp only [↓vck_skip, ↓vck_ret, ↓vck_exit, ↓vck_region, ↓vck_nilq, ↓nilTo_to, nilG_d, nilG_r, ↓vck_seq, ↓vck_cond, ↓vck_block, ↓vck_loop, ↓vckTo_to, ↓thenK_n, ↓thenK_x, ↓thenK_r, ↓blockK_n, ↓blockK_x, ↓blockK_o, ↓blockK_r, ↓regK_to, ↓retK_r, ↓retK_n, ↓loopV_n, ↓loopV_x, ↓loopV_r, ↓famK_n, ↓famK_x, ↓famK_r, ↓boolK_true, ↓boolK_false, ↓boolK_not, ↓boolK_dec, ↓boolK_and, nf_mk, RGk_end_f, RGk_end_t, RGk_op, RGk_guard, opK_to, evN, evCallN, grow_mk, feet_f, feet_t, foot_mk, stepK_mk, stepK_v, stepK_no, guardG_t, guardG_f, guardG_no, condG_b, evT, Opd.ev, get_hit, get_next, app_to, app_no, app_up, app_skip, app_skipn, know_mk, knowO_t, knowO_c, envFrom, reserve, keeps, LOp.isNew, State.prune, cellsQ, cellsT, AV.leaf, Heap.at, evLoad_ptr, evLoad_dptr, loadO_vec, loadO_dvec1, stepK_load_map, idx_I, idx_W, rowW, set_rowW, app_rowW, app_rowW0, rep_rowW0, rowB, set_rowB, rep_rowB, rowN, lens_W, lensA_W, scal_rowW, default_W, w_or, w_and, w_andNot, w_and1, w_shl, w_shl1, w_shr, w_sub1, w_neg, w_add, w_bit, w_eq0, w_eq1, w_eq, Bool.decide_eq_true, idx_Rat, idx_Loc, idx_Act, idx_Step, idx_Stamp, stepK_idx_ref, evStore_ptr, storeO_vec, stepK_store_map1, loadDT_f, rowI, RatG.row, LocG.row, ActG.row, StepG.row, StampG.row, ActG.av, ActG.eta, RatG.eta, LocG.eta, beq_true, beq_false, loadDT_t, set_rowI, app_rowI, rep_rowI, set_rowRat, app_rowRat, rep_rowRat, set_rowLoc, app_rowLoc, app_rowAct, app_rowStep, List.length_set, List.length_replicate, toNat_cast, Int.reduceToNat, evLen, evAppend, srcOf, Src.all, Src.len, Src.leaf, joinV, drows_rep1, drows_rep2, drows_rep3, drows_rep4, drows_rep5, drows_rep6, drows_rep7, drows_rep8, mkVec, drows, evMk, List.length_map, take_mapF, drop_mapF, List.take_length, List.take_left, List.length_append, Nat.le_add_right, ite_self, List.take_of_length_le, evSlice, intOr, intOpd, Option.isSome_none, Option.isSome_some, Nat.sub_zero, loadQ, loadT, evBin, evUn, evIdxArr_d, evIdxArr_p, binT, binQ, chk, apartF, List.contains_cons, List.contains_nil, Bool.or_false, Bool.false_or, Bool.and_self, resQ, resV, resT, pickV, evCallT, evCall, fnOf, viewsT, isD, HO.drow, viewT, evInt2, evEq, eqV, eqK, eqC1, buildQ, buildT, buildRQ, buildRT, lens_I, lensA_I, lens_Rat, lensA_Rat, lens_Loc, lensA_Loc, lens_Act, lensA_Act, lens_Step, lensA_Step, lens_Stamp, lensA_Stamp, List.mem_cons, List.not_mem_nil, or_false, forall_eq, putRow, dcells, get_nil, RetS, RetF, RetD, AV.frz, AV.frzL, AV.freshP, AV.freshL, DV.less, scal_int, scal_bool, scal_nil, scal_rowI, scal_rowRat, scal_rowStep, Option.some.injEq, AV.tup.injEq, AV.agg.injEq, List.cons.injEq, DV.list.injEq, List.isEmpty_nil, Nat.le_refl, AV.d.injEq, DV.int.injEq, DV.bool.injEq, ↓reduceIte, Nat.reduceEqDiff, Nat.reduceAdd, Nat.reduceBEq, List.length_cons, List.length_nil, List.replicate_succ, List.replicate_zero, List.nil_append, List.cons_append, List.append_nil, List.foldl_cons, List.foldl_nil, List.map_cons, List.map_nil, List.all_cons, List.all_nil, List.set_cons_zero, List.set_cons_succ, List.getD_cons_zero, List.getD_cons_succ, List.drop_zero, List.drop_succ_cons, List.take_succ_cons, List.take_zero, List.flatten_cons, List.flatten_nil, Bool.true_and, Bool.and_true, Bool.not_true, Bool.not_false, true_and, and_true, true_or, or_true, Option.bind_some, Option.map_some, decide_true, decide_false, beq_self_eq_true, true_implies, false_implies, implies_true, not_true_eq_false, not_false_eq_true, and_self, Bool.and_false, Bool.false_and, Nat.reduceLT, Nat.reduceLeDiff, List.reverse_cons, List.reverse_nil, Nat.zero_add, Nat.add_zero, Bool.false_eq_true, List.getElem?_cons_zero, Nat.reduceMul, Nat.mul_one, hl]
      have fr : freeK B told a = (!told.getLsbD a && decide (B.getD a 0#64 &&& ~~~told = 0#64)) := rfl
      have fin : (a = n ∨ freeK B told a = true) → freeAt B n told = a := freeAt_eq a1 a2
      refine ⟨fun g => ?_, fun g => ?_⟩
      · have g' : a < n := by omega
        simp only [wrapU (k := a) (by omega), wrap_succ g' (by unfold maxLen; omega), toNat_cast, w_shr, w_eq1, w_bit, Bool.decide_eq_true]
        generalize B.getD a 0#64 &&& ~~~told = z at *
        have next : freeK B told a = false → ∀ k, k < a + 1 → freeK B told k = false := fun h k hk => by
          by_cases e1 : k = a
          · subst e1; exact h
          · exact a2 k (by omega)
        refine ⟨by omega, fun hb => ?_, fun hb => ⟨by omega, by omega, fun hz => ⟨fun e1 => absurd e1 (by omega), fun _ => ⟨by omega, roomy_of (by simp at i2; omega) (by omega), ?_⟩⟩, fun hz => ?_⟩⟩
        · exact FamNext.mk [0, 1] (a + 1) (by simp) (by simp) (by simp only [State.can, AV.can, AV.canL, HO.can, canRows, idx, get_hit, get_next, Heap.at, Nat.reduceBEq, ↓reduceIte, Nat.reduceEqDiff, Option.getD_some, Option.map_some, List.map_cons, List.map_nil, List.getD_cons_zero, List.getD_cons_succ]) ⟨by omega, next (by rw [fr, hb]; rfl)⟩ (by omega)
        · have hf := fin (.inr (by rw [fr, hb, hz]; rfl))
          rw [hf, if_neg (by omega : ¬ a = n)] at i3
          rw [wrap_succ c' (by unfold maxLen; omega)]
          exact FamNext.mk [0, 3] (i + 1, told ||| 1#64 <<< a, o :: (os ++ [(a : Int)])) (by simp) (by simp) (by simp only [State.can, AV.can, AV.canL, HO.can, canRows, idx, get_hit, get_next, Heap.at, Nat.reduceBEq, ↓reduceIte, Nat.reduceEqDiff, Option.getD_some, Option.map_some, List.map_cons, List.map_nil, List.getD_cons_zero, List.getD_cons_succ, ordSt, hB]; simp [rowI])
            ⟨by show i + 1 ≤ n; omega, by simp at i2 ⊢; omega, by show orderGo B n (n - (i + 1)) _ _ = _; rw [show n - (i + 1) = d by omega]; exact i3⟩ (by show n - (i + 1) < n - i; omega)
        · exact FamNext.mk [0, 1] (a + 1) (by simp) (by simp) (by simp only [State.can, AV.can, AV.canL, HO.can, canRows, idx, get_hit, get_next, Heap.at, Nat.reduceBEq, ↓reduceIte, Nat.reduceEqDiff, Option.getD_some, Option.map_some, List.map_cons, List.map_nil, List.getD_cons_zero, List.getD_cons_succ]) ⟨by omega, next (by rw [fr]; simp [hz])⟩ (by omega)
      · have hf := fin (.inl (by omega))
        rw [hf, if_pos (by omega : a = n)] at i3
        rw [← i3]
        refine ⟨fun _ => ⟨rfl, rfl⟩, fun e1 => absurd (by omega) e1⟩
    · have : i = n := by omega
      subst this
      rw [Nat.sub_self] at i3
      simp only [orderGo] at i3
      rw [← i3]
      exact ⟨⟨rfl, rfl⟩, fun r hr x hx => (scal_rowI (l := o :: os)).2 trivial r (by
        rw [List.map_cons]
        rcases hr with rfl | hr
        · exact List.mem_cons_self
        · exact List.mem_cons_of_mem _ hr) x hx⟩
end Go.Ago

/- Contracts of package power: its small functions. Conditions: none. -/
set_option maxRecDepth 100000
set_option linter.unusedSimpArgs false
set_option linter.unusedVariables false
namespace Go.Ago

/-! ### Rows that a call made, taken as data -/
def SpecR.dat : SpecR → SpecR
  | .rows ok _ l => .data ok (.d (.list l false)) true
  | o => o
def Sp.dat (s : Sp) : Sp := ⟨s.A, s.enc, fun x => (s.out x).dat⟩
theorem Sp.at_dat (s : Sp) (args : List AV) : s.dat.at args = (s.at args).dat := by
  unfold Sp.at
  by_cases h : ∃ x, s.enc x = args
  · have h' : ∃ x, s.dat.enc x = args := h
    rw [dif_pos h, dif_pos h']
    rfl
  · have h' : ¬ ∃ x, s.dat.enc x = args := h
    rw [dif_neg h, dif_neg h']
    rfl
theorem SpecR.dat_rows (ok : Prop) (sz : Nat) (l : List (List DV)) : (SpecR.rows ok sz l).dat = .data ok (.d (.list l false)) true := rfl
theorem retRows_retF {sz : Nat} {rows : List (List DV)} (hs : ∀ r ∈ rows, ∀ x ∈ r, DV.scal x = true) {r : AV} {H : Heap} (h : RetRows sz rows r H) : RetF (.d (.list rows false)) r H := by
  rcases h with ⟨id, room, rfl, hat⟩ | ⟨rfl, rfl⟩
  · constructor
    · simp [AV.frz, hat]
    · simpa [AV.freshP, hat] using hs
  · constructor
    · rfl
    · rfl
theorem retK_mono {rs : List LRes} {P Q : AV → Heap → Prop} (h : ∀ r H, P r H → Q r H) : ∀ x S, retK rs P x S → retK rs Q x S := by
  intro x S hk
  cases x with
  | exit => exact hk
  | normal => exact ⟨hk.1, h _ _ hk.2⟩
  | ret => exact ⟨hk.1, h _ _ hk.2⟩
theorem Sp.Body.dat {s : Sp} {T : Tab} {live : List Nat} {lc : LCode} {rs : List LRes} (h : s.Body T live lc rs)
    (hs : ∀ x ok sz l, s.out x = .rows ok sz l → ∀ r ∈ l, ∀ y ∈ r, DV.scal y = true) : s.dat.Body T live lc rs := by
  intro x
  have hx := h x
  have hsx := hs x
  show ((s.out x).dat).asks _
  revert hx hsx
  cases s.out x with
  | data ok val fresh => exact fun hx _ => hx
  | none => exact fun _ _ => trivial
  | rows ok sz l =>
    intro hx hsx hok
    obtain ⟨_, h2⟩ := hx hok
    exact .inr ⟨rfl, vck_mono _ _ _ _ (retK_mono fun r H h => retRows_retF (hsx ok sz l rfl) h) h2⟩
theorem scal_W {l : List W} : ∀ r ∈ l.map rowW, ∀ y ∈ r, DV.scal y = true := scal_rowW.2 trivial

theorem frz_end {l : List W} {n : Nat} (h : l.length = n) : (if n ≤ l.length then some (AV.d (.list ((l.take n).map rowW) false)) else none) = some (.d (.list (l.map rowW) false)) := by
  subst h; simp

/-! ### Rows by a rule -/
def mapW (n : Nat) (f : Nat → W) : List W := (List.range n).map f
theorem mapW_len {n : Nat} {f : Nat → W} : (mapW n f).length = n := by simp [mapW]
theorem mapW_get {n i : Nat} {f : Nat → W} (hi : i < n) : (mapW n f).getD i 0#64 = f i := by
  rw [List.getD_eq_getElem?_getD, mapW, List.getElem?_map, List.getElem?_range hi]; rfl
theorem list_ext0 {l l' : List W} (hl : l.length = l'.length) (h : ∀ i, i < l.length → l.getD i 0#64 = l'.getD i 0#64) : l = l' := by
  apply List.ext_getElem hl
  intro i h1 h2
  have := h i h1
  rwa [getD_lt h1, getD_lt h2] at this
theorem mapW_set {n i : Nat} {f g : Nat → W} {x : W} (hi : i < n) (hx : x = g i) (ho : ∀ a, a < n → a ≠ i → g a = f a) : (mapW n f).set i x = mapW n g := by
  apply list_ext0 (by simp [mapW_len])
  intro a ha
  rw [List.length_set, mapW_len] at ha
  rw [getD_set (by rw [mapW_len]; exact hi), mapW_get ha]
  by_cases e : i = a
  · subst e; rw [if_pos rfl, hx, mapW_get hi]
  · rw [if_neg e, mapW_get ha, ho a ha (Ne.symm e)]
theorem mapW_congr {n : Nat} {f g : Nat → W} (h : ∀ a, a < n → f a = g a) : mapW n f = mapW n g := by
  apply list_ext0 (by simp [mapW_len])
  intro a ha
  rw [mapW_len] at ha
  rw [mapW_get ha, mapW_get ha, h a ha]
theorem mapW_zero {n : Nat} {f : Nat → W} (h : ∀ a, a < n → f a = 0#64) : List.replicate n 0#64 = mapW n f := by
  apply list_ext0 (by simp [mapW_len])
  intro a ha
  rw [List.length_replicate] at ha
  rw [mapW_get ha, h a ha, List.getD_eq_getElem?_getD, List.getElem?_replicate, if_pos ha]; rfl

/-! ### keep -/
def keepG (r : List W) (a b : W) : List W := mapW r.length fun i => if a.getLsbD i then r.getD i 0#64 &&& b else 0#64
def keepS (r : List W) (a b : W) (i j : Nat) : W := if j < i then (if a.getLsbD j then r.getD j 0#64 &&& b else 0#64) else 0#64
def sp_keep : Sp := ⟨List W × Bool × W × W, fun x => [.d (.list (x.1.map rowW) x.2.1), .d (.int .u64 (x.2.2.1.toNat : Int)), .d (.int .u64 (x.2.2.2.toNat : Int))],
  fun x => .data (x.1.length ≤ 64) (.d (.list ((keepG x.1 x.2.2.1 x.2.2.2).map rowW) false)) true⟩
theorem at_keep (l : List W) (f : Bool) (a b : W) : sp_keep.at [.d (.list (l.map rowW) f), .d (.int .u64 (a.toNat : Int)), .d (.int .u64 (b.toNat : Int))] = .data (l.length ≤ 64) (.d (.list ((keepG l a b).map rowW) false)) true :=
  Sp.at_enc (s := sp_keep) (fun x y h => by
    obtain ⟨a, b, c, d⟩ := x; obtain ⟨a', b', c', d'⟩ := y
    simp only [sp_keep, List.cons.injEq, AV.d.injEq, DV.list.injEq, DV.int.injEq, and_true, true_and] at h
    rw [rows_inj rowW_inj h.1.1, h.1.2, W.inj h.2.1, W.inj h.2.2]) (l, f, a, b)
theorem body_power_keep {T : Tab} : sp_keep.Body T V_power_keep L_power_keep R_power_keep := by
  rintro ⟨l, f, a, b⟩ h1
  have h1 : l.length ≤ 64 := h1
  refine .inr ⟨rfl, ?_⟩
  unfold V_power_keep L_power_keep R_power_keep
  simp only [↓vck_skip, ↓vck_ret, ↓vck_exit, ↓vck_region, ↓vck_nilq, ↓nilTo_to, nilG_d, nilG_r, ↓vck_seq, ↓vck_cond, ↓vck_block, ↓vck_loop, ↓vckTo_to, ↓thenK_n, ↓thenK_x, ↓thenK_r, ↓blockK_n, ↓blockK_x, ↓blockK_o, ↓blockK_r, ↓regK_to, ↓retK_r, ↓retK_n, ↓loopV_n, ↓loopV_x, ↓loopV_r, ↓famK_n, ↓famK_x, ↓famK_r, ↓boolK_true, ↓boolK_false, ↓boolK_not, ↓boolK_dec, ↓boolK_and, nf_mk, RGk_end_f, RGk_end_t, RGk_op, RGk_guard, opK_to, evN, evCallN, grow_mk, feet_f, feet_t, foot_mk, stepK_mk, stepK_v, stepK_no, guardG_t, guardG_f, guardG_no, condG_b, evT, Opd.ev, get_hit, get_next, app_to, app_no, app_up, app_skip, app_skipn, know_mk, knowO_t, knowO_c, envFrom, reserve, keeps, LOp.isNew, State.prune, cellsQ, cellsT, AV.leaf, Heap.at, evLoad_ptr, evLoad_dptr, loadO_vec, loadO_dvec1, stepK_load_map, idx_I, idx_W, rowW, set_rowW, app_rowW, app_rowW0, rep_rowW0, rowB, set_rowB, rep_rowB, rowN, lens_W, lensA_W, scal_rowW, default_W, w_or, w_and, w_andNot, w_and1, w_shl, w_shl1, w_shr, w_sub1, w_neg, w_add, w_bit, w_eq0, w_eq1, w_eq, Bool.decide_eq_true, idx_Rat, idx_Loc, idx_Act, idx_Step, idx_Stamp, stepK_idx_ref, evStore_ptr, storeO_vec, stepK_store_map1, loadDT_f, rowI, RatG.row, LocG.row, ActG.row, StepG.row, StampG.row, ActG.av, ActG.eta, RatG.eta, LocG.eta, beq_true, beq_false, loadDT_t, set_rowI, app_rowI, rep_rowI, set_rowRat, app_rowRat, rep_rowRat, set_rowLoc, app_rowLoc, app_rowAct, app_rowStep, List.length_set, List.length_replicate, toNat_cast, Int.reduceToNat, evLen, evAppend, srcOf, Src.all, Src.len, Src.leaf, joinV, drows_rep1, drows_rep2, drows_rep3, drows_rep4, drows_rep5, drows_rep6, drows_rep7, drows_rep8, mkVec, drows, evMk, List.length_map, take_mapF, drop_mapF, List.take_length, List.take_left, List.length_append, Nat.le_add_right, ite_self, List.take_of_length_le, evSlice, intOr, intOpd, Option.isSome_none, Option.isSome_some, Nat.sub_zero, loadQ, loadT, evBin, evUn, evIdxArr_d, evIdxArr_p, binT, binQ, chk, apartF, List.contains_cons, List.contains_nil, Bool.or_false, Bool.false_or, Bool.and_self, resQ, resV, resT, pickV, evCallT, evCall, fnOf, viewsT, isD, HO.drow, viewT, evInt2, evEq, eqV, eqK, eqC1, buildQ, buildT, buildRQ, buildRT, lens_I, lensA_I, lens_Rat, lensA_Rat, lens_Loc, lensA_Loc, lens_Act, lensA_Act, lens_Step, lensA_Step, lens_Stamp, lensA_Stamp, List.mem_cons, List.not_mem_nil, or_false, forall_eq, putRow, dcells, get_nil, RetS, RetF, RetD, AV.frz, AV.frzL, AV.freshP, AV.freshL, DV.less, scal_int, scal_bool, scal_nil, scal_rowI, scal_rowRat, scal_rowStep, Option.some.injEq, AV.tup.injEq, AV.agg.injEq, List.cons.injEq, DV.list.injEq, List.isEmpty_nil, Nat.le_refl, AV.d.injEq, DV.int.injEq, DV.bool.injEq, ↓reduceIte, Nat.reduceEqDiff, Nat.reduceAdd, Nat.reduceBEq, List.length_cons, List.length_nil, List.replicate_succ, List.replicate_zero, List.nil_append, List.cons_append, List.append_nil, List.foldl_cons, List.foldl_nil, List.map_cons, List.map_nil, List.all_cons, List.all_nil, List.set_cons_zero, List.set_cons_succ, List.getD_cons_zero, List.getD_cons_succ, List.drop_zero, List.drop_succ_cons, List.take_succ_cons, List.take_zero, List.flatten_cons, List.flatten_nil, Bool.true_and, Bool.and_true, Bool.not_true, Bool.not_false, true_and, and_true, true_or, or_true, Option.bind_some, Option.map_some, decide_true, decide_false, beq_self_eq_true, true_implies, false_implies, implies_true, not_true_eq_false, not_false_eq_true, and_self, Bool.and_false, Bool.false_and, Nat.reduceLT, Nat.reduceLeDiff, List.reverse_cons, List.reverse_nil, Nat.zero_add, Nat.add_zero, Bool.false_eq_true, List.getElem?_cons_zero, Nat.reduceMul, Nat.mul_one, sp_keep]
  refine ⟨⟨by omega, by omega, roomy_of (by omega) (by omega)⟩, ?_⟩
  refine Loop.fam [1, 2, 7, 13, 14, 15] (fun i : Nat => ⟨[(1, .d (.int .u64 (a.toNat : Int))), (2, .d (.int .u64 (b.toNat : Int))), (7, .ref 0 1 0 l.length true), (13, .d (.list (l.map rowW) f)), (14, .d (.int .i64 l.length)), (15, .d (.int .i64 i))],
      [.dvec 1 ((mapW l.length (keepS l a b i)).map rowW)]⟩) (fun i => i ≤ l.length) (fun i => l.length - i) 0 [0] (by simp) (by simp) (by
        simp only [State.can, AV.can, AV.canL, HO.can, canRows, idx, get_hit, get_next, Heap.at, Nat.reduceBEq, ↓reduceIte, Nat.reduceEqDiff, Option.getD_some, Option.map_some, List.map_cons, List.map_nil, List.getD_cons_zero, List.getD_cons_succ]
        rw [mapW_zero (f := keepS l a b 0) (fun j _ => by unfold keepS; rw [if_neg (by omega)])]
        rfl) (by omega) ?_
  intro i hi
  simp only [↓vck_skip, ↓vck_ret, ↓vck_exit, ↓vck_region, ↓vck_nilq, ↓nilTo_to, nilG_d, nilG_r, ↓vck_seq, ↓vck_cond, ↓vck_block, ↓vck_loop, ↓vckTo_to, ↓thenK_n, ↓thenK_x, ↓thenK_r, ↓blockK_n, ↓blockK_x, ↓blockK_o, ↓blockK_r, ↓regK_to, ↓retK_r, ↓retK_n, ↓loopV_n, ↓loopV_x, ↓loopV_r, ↓famK_n, ↓famK_x, ↓famK_r, ↓boolK_true, ↓boolK_false, ↓boolK_not, ↓boolK_dec, ↓boolK_and, nf_mk, RGk_end_f, RGk_end_t, RGk_op, RGk_guard, opK_to, evN, evCallN, grow_mk, feet_f, feet_t, foot_mk, stepK_mk, stepK_v, stepK_no, guardG_t, guardG_f, guardG_no, condG_b, evT, Opd.ev, get_hit, get_next, app_to, app_no, app_up, app_skip, app_skipn, know_mk, knowO_t, knowO_c, envFrom, reserve, keeps, LOp.isNew, State.prune, cellsQ, cellsT, AV.leaf, Heap.at, evLoad_ptr, evLoad_dptr, loadO_vec, loadO_dvec1, stepK_load_map, idx_I, idx_W, rowW, set_rowW, app_rowW, app_rowW0, rep_rowW0, rowB, set_rowB, rep_rowB, rowN, lens_W, lensA_W, scal_rowW, default_W, w_or, w_and, w_andNot, w_and1, w_shl, w_shl1, w_shr, w_sub1, w_neg, w_add, w_bit, w_eq0, w_eq1, w_eq, Bool.decide_eq_true, idx_Rat, idx_Loc, idx_Act, idx_Step, idx_Stamp, stepK_idx_ref, evStore_ptr, storeO_vec, stepK_store_map1, loadDT_f, rowI, RatG.row, LocG.row, ActG.row, StepG.row, StampG.row, ActG.av, ActG.eta, RatG.eta, LocG.eta, beq_true, beq_false, loadDT_t, set_rowI, app_rowI, rep_rowI, set_rowRat, app_rowRat, rep_rowRat, set_rowLoc, app_rowLoc, app_rowAct, app_rowStep, List.length_set, List.length_replicate, toNat_cast, Int.reduceToNat, evLen, evAppend, srcOf, Src.all, Src.len, Src.leaf, joinV, drows_rep1, drows_rep2, drows_rep3, drows_rep4, drows_rep5, drows_rep6, drows_rep7, drows_rep8, mkVec, drows, evMk, List.length_map, take_mapF, drop_mapF, List.take_length, List.take_left, List.length_append, Nat.le_add_right, ite_self, List.take_of_length_le, evSlice, intOr, intOpd, Option.isSome_none, Option.isSome_some, Nat.sub_zero, loadQ, loadT, evBin, evUn, evIdxArr_d, evIdxArr_p, binT, binQ, chk, apartF, List.contains_cons, List.contains_nil, Bool.or_false, Bool.false_or, Bool.and_self, resQ, resV, resT, pickV, evCallT, evCall, fnOf, viewsT, isD, HO.drow, viewT, evInt2, evEq, eqV, eqK, eqC1, buildQ, buildT, buildRQ, buildRT, lens_I, lensA_I, lens_Rat, lensA_Rat, lens_Loc, lensA_Loc, lens_Act, lensA_Act, lens_Step, lensA_Step, lens_Stamp, lensA_Stamp, List.mem_cons, List.not_mem_nil, or_false, forall_eq, putRow, dcells, get_nil, RetS, RetF, RetD, AV.frz, AV.frzL, AV.freshP, AV.freshL, DV.less, scal_int, scal_bool, scal_nil, scal_rowI, scal_rowRat, scal_rowStep, Option.some.injEq, AV.tup.injEq, AV.agg.injEq, List.cons.injEq, DV.list.injEq, List.isEmpty_nil, Nat.le_refl, AV.d.injEq, DV.int.injEq, DV.bool.injEq, ↓reduceIte, Nat.reduceEqDiff, Nat.reduceAdd, Nat.reduceBEq, List.length_cons, List.length_nil, List.replicate_succ, List.replicate_zero, List.nil_append, List.cons_append, List.append_nil, List.foldl_cons, List.foldl_nil, List.map_cons, List.map_nil, List.all_cons, List.all_nil, List.set_cons_zero, List.set_cons_succ, List.getD_cons_zero, List.getD_cons_succ, List.drop_zero, List.drop_succ_cons, List.take_succ_cons, List.take_zero, List.flatten_cons, List.flatten_nil, Bool.true_and, Bool.and_true, Bool.not_true, Bool.not_false, true_and, and_true, true_or, or_true, Option.bind_some, Option.map_some, decide_true, decide_false, beq_self_eq_true, true_implies, false_implies, implies_true, not_true_eq_false, not_false_eq_true, and_self, Bool.and_false, Bool.false_and, Nat.reduceLT, Nat.reduceLeDiff, List.reverse_cons, List.reverse_nil, Nat.zero_add, Nat.add_zero, Bool.false_eq_true, List.getElem?_cons_zero, Nat.reduceMul, Nat.mul_one]
  refine ⟨fun c => ?_, fun c => ?_⟩
  · have c' : i < l.length := by omega
    rw [wrapU (k := i) (by omega)]
    simp only [toNat_cast, mapW_len]
    refine ⟨⟨by omega, by omega⟩, by omega, fun hb => ⟨⟨by omega, by omega⟩, c', ?_⟩, fun hb => ?_⟩
    all_goals
      rw [wrap_succ c' (by unfold maxLen; omega)]
      refine FamNext.mk [0] (i + 1) (by simp) (by simp) ?_ (by omega) (by omega)
    · rw [mapW_set (g := keepS l a b (i + 1)) c' (by unfold keepS; rw [if_pos (by omega), if_pos hb]) (fun j hj hne => by
        unfold keepS
        by_cases e : j < i
        · rw [if_pos (by omega), if_pos e]
        · rw [if_neg (by omega), if_neg e])]
      simp only [State.can, AV.can, AV.canL, HO.can, canRows, idx, get_hit, get_next, Heap.at, Nat.reduceBEq, ↓reduceIte, Nat.reduceEqDiff, Option.getD_some, Option.map_some, List.map_cons, List.map_nil, List.getD_cons_zero, List.getD_cons_succ]
    · rw [show mapW l.length (keepS l a b i) = mapW l.length (keepS l a b (i + 1)) from mapW_congr fun j hj => by
        unfold keepS
        by_cases e : j < i
        · rw [if_pos e, if_pos (show j < i + 1 by omega)]
        · rw [if_neg e]
          by_cases e2 : j = i
          · subst e2; rw [if_pos (by omega), hb]; rfl
          · rw [if_neg (by omega)]]
      simp only [State.can, AV.can, AV.canL, HO.can, canRows, idx, get_hit, get_next, Heap.at, Nat.reduceBEq, ↓reduceIte, Nat.reduceEqDiff, Option.getD_some, Option.map_some, List.map_cons, List.map_nil, List.getD_cons_zero, List.getD_cons_succ]
  · have : i = l.length := by omega
    subst this
    have e : mapW l.length (keepS l a b l.length) = keepG l a b := mapW_congr fun j hj => by unfold keepS; rw [if_pos hj]
    rw [e]
    exact frz_end (by simp [keepG, mapW_len])

/-! ### Two loops, bit by bit -/
/-- Rows ahead of i are done, and row i up to k. -/
def upS (p : Nat → Nat → Bool) (i k a b : Nat) : Bool := (decide (a < i) || decide (a = i) && decide (b < k)) && p a b
theorem upS_zero (p : Nat → Nat → Bool) (a b : Nat) : upS p 0 0 a b = false := by simp [upS]
theorem upS_next (p : Nat → Nat → Bool) {n : Nat} (i : Nat) : mkR n (upS p i n) = mkR n (upS p (i + 1) 0) := mkR_congr fun a b ha hb => by
  unfold upS
  by_cases e : a < i
  · have : a < i + 1 := by omega
    simp [e, this]
  · by_cases e2 : a = i
    · subst e2; simp [hb]
    · have : ¬ a < i + 1 := by omega
      simp [e, e2, this]
theorem upS_end (p : Nat → Nat → Bool) {n : Nat} : mkR n (upS p n 0) = mkR n p := mkR_congr fun a b ha hb => by simp [upS, ha]
theorem upS_no (p : Nat → Nat → Bool) {n i k : Nat} (h : p i k = false) : mkR n (upS p i k) = mkR n (upS p i (k + 1)) := mkR_congr fun a b ha hb => by
  unfold upS
  by_cases e : a = i
  · subst e
    by_cases e2 : b = k
    · subst e2; simp [h]
    · have : decide (b < k) = decide (b < k + 1) := by congr 1; apply propext; omega
      rw [this]
  · simp [e]
theorem upS_yes (p : Nat → Nat → Bool) {n i k : Nat} (hi : i < n) (hk : k < n) (hn : n ≤ 64) (h : p i k = true) : (mkR n (upS p i k)).set i ((mkR n (upS p i k)).getD i 0#64 ||| 1#64 <<< k) = mkR n (upS p i (k + 1)) := by
  apply mkR_set hi
  · intro b hb
    rw [BitVec.getLsbD_or, mkR_get hi, one_shl (by omega)]
    unfold upS
    by_cases e : k = b
    · subst e; simp [hk, h]
    · have : decide (b < k) = decide (b < k + 1) := by congr 1; apply propext; omega
      simp [e, this, hb]
  · intro a b ha hb hne
    unfold upS
    simp [hne]

/-! ### fit -/
def fitG (r : List W) (n : Nat) : List W := mkR n (hasN r)
def sp_fit : Sp := ⟨List W × Bool × Nat, fun x => [.d (.list (x.1.map rowW) x.2.1), .d (.int .i64 (x.2.2 : Int))],
  fun x => .data (x.1.length ≤ maxLen ∧ x.2.2 ≤ 64) (.d (.list ((fitG x.1 x.2.2).map rowW) false)) true⟩
theorem at_fit (l : List W) (f : Bool) (n : Nat) : sp_fit.at [.d (.list (l.map rowW) f), .d (.int .i64 (n : Int))] = .data (l.length ≤ maxLen ∧ n ≤ 64) (.d (.list ((fitG l n).map rowW) false)) true :=
  Sp.at_enc (s := sp_fit) (fun x y h => by
    obtain ⟨a, b, c⟩ := x; obtain ⟨a', b', c'⟩ := y
    simp only [sp_fit, List.cons.injEq, AV.d.injEq, DV.list.injEq, DV.int.injEq, and_true, true_and] at h
    rw [rows_inj rowW_inj h.1.1, h.1.2, Int.ofNat.inj h.2]) (l, f, n)
theorem body_power_fit {T : Tab} {n1 : Nat} (k1 : Knows T n1 sp_Has) : sp_fit.Body T V_power_fit (L_power_fit n1) R_power_fit := by
  have F1 := k1.F; have G1 := k1.G
  rintro ⟨l, f, n⟩ ⟨h1, h2⟩
  have h1 : l.length ≤ maxLen := h1
  have h2 : n ≤ 64 := h2
  refine .inr ⟨rfl, ?_⟩
  unfold V_power_fit L_power_fit R_power_fit
  simp only [↓vck_skip, ↓vck_ret, ↓vck_exit, ↓vck_region, ↓vck_nilq, ↓nilTo_to, nilG_d, nilG_r, ↓vck_seq, ↓vck_cond, ↓vck_block, ↓vck_loop, ↓vckTo_to, ↓thenK_n, ↓thenK_x, ↓thenK_r, ↓blockK_n, ↓blockK_x, ↓blockK_o, ↓blockK_r, ↓regK_to, ↓retK_r, ↓retK_n, ↓loopV_n, ↓loopV_x, ↓loopV_r, ↓famK_n, ↓famK_x, ↓famK_r, ↓boolK_true, ↓boolK_false, ↓boolK_not, ↓boolK_dec, ↓boolK_and, nf_mk, RGk_end_f, RGk_end_t, RGk_op, RGk_guard, opK_to, evN, evCallN, grow_mk, feet_f, feet_t, foot_mk, stepK_mk, stepK_v, stepK_no, guardG_t, guardG_f, guardG_no, condG_b, evT, Opd.ev, get_hit, get_next, app_to, app_no, app_up, app_skip, app_skipn, know_mk, knowO_t, knowO_c, envFrom, reserve, keeps, LOp.isNew, State.prune, cellsQ, cellsT, AV.leaf, Heap.at, evLoad_ptr, evLoad_dptr, loadO_vec, loadO_dvec1, stepK_load_map, idx_I, idx_W, rowW, set_rowW, app_rowW, app_rowW0, rep_rowW0, rowB, set_rowB, rep_rowB, rowN, lens_W, lensA_W, scal_rowW, default_W, w_or, w_and, w_andNot, w_and1, w_shl, w_shl1, w_shr, w_sub1, w_neg, w_add, w_bit, w_eq0, w_eq1, w_eq, Bool.decide_eq_true, idx_Rat, idx_Loc, idx_Act, idx_Step, idx_Stamp, stepK_idx_ref, evStore_ptr, storeO_vec, stepK_store_map1, loadDT_f, rowI, RatG.row, LocG.row, ActG.row, StepG.row, StampG.row, ActG.av, ActG.eta, RatG.eta, LocG.eta, beq_true, beq_false, loadDT_t, set_rowI, app_rowI, rep_rowI, set_rowRat, app_rowRat, rep_rowRat, set_rowLoc, app_rowLoc, app_rowAct, app_rowStep, List.length_set, List.length_replicate, toNat_cast, Int.reduceToNat, evLen, evAppend, srcOf, Src.all, Src.len, Src.leaf, joinV, drows_rep1, drows_rep2, drows_rep3, drows_rep4, drows_rep5, drows_rep6, drows_rep7, drows_rep8, mkVec, drows, evMk, List.length_map, take_mapF, drop_mapF, List.take_length, List.take_left, List.length_append, Nat.le_add_right, ite_self, List.take_of_length_le, evSlice, intOr, intOpd, Option.isSome_none, Option.isSome_some, Nat.sub_zero, loadQ, loadT, evBin, evUn, evIdxArr_d, evIdxArr_p, binT, binQ, chk, apartF, List.contains_cons, List.contains_nil, Bool.or_false, Bool.false_or, Bool.and_self, resQ, resV, resT, pickV, evCallT, evCall, fnOf, viewsT, isD, HO.drow, viewT, evInt2, evEq, eqV, eqK, eqC1, buildQ, buildT, buildRQ, buildRT, lens_I, lensA_I, lens_Rat, lensA_Rat, lens_Loc, lensA_Loc, lens_Act, lensA_Act, lens_Step, lensA_Step, lens_Stamp, lensA_Stamp, List.mem_cons, List.not_mem_nil, or_false, forall_eq, putRow, dcells, get_nil, RetS, RetF, RetD, AV.frz, AV.frzL, AV.freshP, AV.freshL, DV.less, scal_int, scal_bool, scal_nil, scal_rowI, scal_rowRat, scal_rowStep, Option.some.injEq, AV.tup.injEq, AV.agg.injEq, List.cons.injEq, DV.list.injEq, List.isEmpty_nil, Nat.le_refl, AV.d.injEq, DV.int.injEq, DV.bool.injEq, ↓reduceIte, Nat.reduceEqDiff, Nat.reduceAdd, Nat.reduceBEq, List.length_cons, List.length_nil, List.replicate_succ, List.replicate_zero, List.nil_append, List.cons_append, List.append_nil, List.foldl_cons, List.foldl_nil, List.map_cons, List.map_nil, List.all_cons, List.all_nil, List.set_cons_zero, List.set_cons_succ, List.getD_cons_zero, List.getD_cons_succ, List.drop_zero, List.drop_succ_cons, List.take_succ_cons, List.take_zero, List.flatten_cons, List.flatten_nil, Bool.true_and, Bool.and_true, Bool.not_true, Bool.not_false, true_and, and_true, true_or, or_true, Option.bind_some, Option.map_some, decide_true, decide_false, beq_self_eq_true, true_implies, false_implies, implies_true, not_true_eq_false, not_false_eq_true, and_self, Bool.and_false, Bool.false_and, Nat.reduceLT, Nat.reduceLeDiff, List.reverse_cons, List.reverse_nil, Nat.zero_add, Nat.add_zero, Bool.false_eq_true, List.getElem?_cons_zero, Nat.reduceMul, Nat.mul_one, sp_fit, F1, G1, at_Has]
  have hz : List.replicate n 0#64 = mkR n (upS (hasN l) 0 0) := mkR_zero (fun a b _ _ => upS_zero _ a b)
  rw [hz]
  refine ⟨⟨by omega, by omega, roomy_of (by omega) (by omega)⟩, ?_⟩
  refine Loop.fam [0, 5, 11, 12] (fun i : Nat => ⟨[(0, .d (.list (l.map rowW) f)), (5, .ref 0 1 0 n true), (11, .d (.int .i64 n)), (12, .d (.int .i64 i))],
      [.dvec 1 ((mkR n (upS (hasN l) i 0)).map rowW)]⟩) (fun i => i ≤ n) (fun i => n - i) 0 [0] (by simp) (by simp) (by simp only [State.can, AV.can, AV.canL, HO.can, canRows, idx, get_hit, get_next, Heap.at, Nat.reduceBEq, ↓reduceIte, Nat.reduceEqDiff, Option.getD_some, Option.map_some, List.map_cons, List.map_nil, List.getD_cons_zero, List.getD_cons_succ]; rfl) (by omega) ?_
  intro i hi
  simp only [↓vck_skip, ↓vck_ret, ↓vck_exit, ↓vck_region, ↓vck_nilq, ↓nilTo_to, nilG_d, nilG_r, ↓vck_seq, ↓vck_cond, ↓vck_block, ↓vck_loop, ↓vckTo_to, ↓thenK_n, ↓thenK_x, ↓thenK_r, ↓blockK_n, ↓blockK_x, ↓blockK_o, ↓blockK_r, ↓regK_to, ↓retK_r, ↓retK_n, ↓loopV_n, ↓loopV_x, ↓loopV_r, ↓famK_n, ↓famK_x, ↓famK_r, ↓boolK_true, ↓boolK_false, ↓boolK_not, ↓boolK_dec, ↓boolK_and, nf_mk, RGk_end_f, RGk_end_t, RGk_op, RGk_guard, opK_to, evN, evCallN, grow_mk, feet_f, feet_t, foot_mk, stepK_mk, stepK_v, stepK_no, guardG_t, guardG_f, guardG_no, condG_b, evT, Opd.ev, get_hit, get_next, app_to, app_no, app_up, app_skip, app_skipn, know_mk, knowO_t, knowO_c, envFrom, reserve, keeps, LOp.isNew, State.prune, cellsQ, cellsT, AV.leaf, Heap.at, evLoad_ptr, evLoad_dptr, loadO_vec, loadO_dvec1, stepK_load_map, idx_I, idx_W, rowW, set_rowW, app_rowW, app_rowW0, rep_rowW0, rowB, set_rowB, rep_rowB, rowN, lens_W, lensA_W, scal_rowW, default_W, w_or, w_and, w_andNot, w_and1, w_shl, w_shl1, w_shr, w_sub1, w_neg, w_add, w_bit, w_eq0, w_eq1, w_eq, Bool.decide_eq_true, idx_Rat, idx_Loc, idx_Act, idx_Step, idx_Stamp, stepK_idx_ref, evStore_ptr, storeO_vec, stepK_store_map1, loadDT_f, rowI, RatG.row, LocG.row, ActG.row, StepG.row, StampG.row, ActG.av, ActG.eta, RatG.eta, LocG.eta, beq_true, beq_false, loadDT_t, set_rowI, app_rowI, rep_rowI, set_rowRat, app_rowRat, rep_rowRat, set_rowLoc, app_rowLoc, app_rowAct, app_rowStep, List.length_set, List.length_replicate, toNat_cast, Int.reduceToNat, evLen, evAppend, srcOf, Src.all, Src.len, Src.leaf, joinV, drows_rep1, drows_rep2, drows_rep3, drows_rep4, drows_rep5, drows_rep6, drows_rep7, drows_rep8, mkVec, drows, evMk, List.length_map, take_mapF, drop_mapF, List.take_length, List.take_left, List.length_append, Nat.le_add_right, ite_self, List.take_of_length_le, evSlice, intOr, intOpd, Option.isSome_none, Option.isSome_some, Nat.sub_zero, loadQ, loadT, evBin, evUn, evIdxArr_d, evIdxArr_p, binT, binQ, chk, apartF, List.contains_cons, List.contains_nil, Bool.or_false, Bool.false_or, Bool.and_self, resQ, resV, resT, pickV, evCallT, evCall, fnOf, viewsT, isD, HO.drow, viewT, evInt2, evEq, eqV, eqK, eqC1, buildQ, buildT, buildRQ, buildRT, lens_I, lensA_I, lens_Rat, lensA_Rat, lens_Loc, lensA_Loc, lens_Act, lensA_Act, lens_Step, lensA_Step, lens_Stamp, lensA_Stamp, List.mem_cons, List.not_mem_nil, or_false, forall_eq, putRow, dcells, get_nil, RetS, RetF, RetD, AV.frz, AV.frzL, AV.freshP, AV.freshL, DV.less, scal_int, scal_bool, scal_nil, scal_rowI, scal_rowRat, scal_rowStep, Option.some.injEq, AV.tup.injEq, AV.agg.injEq, List.cons.injEq, DV.list.injEq, List.isEmpty_nil, Nat.le_refl, AV.d.injEq, DV.int.injEq, DV.bool.injEq, ↓reduceIte, Nat.reduceEqDiff, Nat.reduceAdd, Nat.reduceBEq, List.length_cons, List.length_nil, List.replicate_succ, List.replicate_zero, List.nil_append, List.cons_append, List.append_nil, List.foldl_cons, List.foldl_nil, List.map_cons, List.map_nil, List.all_cons, List.all_nil, List.set_cons_zero, List.set_cons_succ, List.getD_cons_zero, List.getD_cons_succ, List.drop_zero, List.drop_succ_cons, List.take_succ_cons, List.take_zero, List.flatten_cons, List.flatten_nil, Bool.true_and, Bool.and_true, Bool.not_true, Bool.not_false, true_and, and_true, true_or, or_true, Option.bind_some, Option.map_some, decide_true, decide_false, beq_self_eq_true, true_implies, false_implies, implies_true, not_true_eq_false, not_false_eq_true, and_self, Bool.and_false, Bool.false_and, Nat.reduceLT, Nat.reduceLeDiff, List.reverse_cons, List.reverse_nil, Nat.zero_add, Nat.add_zero, Bool.false_eq_true, List.getElem?_cons_zero, Nat.reduceMul, Nat.mul_one, F1, G1, at_Has]
  refine ⟨fun c => ?_, fun c => ?_⟩
  · have c' : i < n := by omega
    refine Loop.fam [0, 5, 6, 11, 12, 16, 17] (fun k : Nat => ⟨[(0, .d (.list (l.map rowW) f)), (5, .ref 0 1 0 n true), (6, .d (.int .i64 i)), (11, .d (.int .i64 n)), (12, .d (.int .i64 i)), (16, .d (.int .i64 n)), (17, .d (.int .i64 k))],
      [.dvec 1 ((mkR n (upS (hasN l) i k)).map rowW)]⟩) (fun k => k ≤ n) (fun k => n - k) 0 [0] (by simp) (by simp) (by simp only [State.can, AV.can, AV.canL, HO.can, canRows, idx, get_hit, get_next, Heap.at, Nat.reduceBEq, ↓reduceIte, Nat.reduceEqDiff, Option.getD_some, Option.map_some, List.map_cons, List.map_nil, List.getD_cons_zero, List.getD_cons_succ]; rfl) (by omega) ?_
    intro k hk
    simp only [↓vck_skip, ↓vck_ret, ↓vck_exit, ↓vck_region, ↓vck_nilq, ↓nilTo_to, nilG_d, nilG_r, ↓vck_seq, ↓vck_cond, ↓vck_block, ↓vck_loop, ↓vckTo_to, ↓thenK_n, ↓thenK_x, ↓thenK_r, ↓blockK_n, ↓blockK_x, ↓blockK_o, ↓blockK_r, ↓regK_to, ↓retK_r, ↓retK_n, ↓loopV_n, ↓loopV_x, ↓loopV_r, ↓famK_n, ↓famK_x, ↓famK_r, ↓boolK_true, ↓boolK_false, ↓boolK_not, ↓boolK_dec, ↓boolK_and, nf_mk, RGk_end_f, RGk_end_t, RGk_op, RGk_guard, opK_to, evN, evCallN, grow_mk, feet_f, feet_t, foot_mk, stepK_mk, stepK_v, stepK_no, guardG_t, guardG_f, guardG_no, condG_b, evT, Opd.ev, get_hit, get_next, app_to, app_no, app_up, app_skip, app_skipn, know_mk, knowO_t, knowO_c, envFrom, reserve, keeps, LOp.isNew, State.prune, cellsQ, cellsT, AV.leaf, Heap.at, evLoad_ptr, evLoad_dptr, loadO_vec, loadO_dvec1, stepK_load_map, idx_I, idx_W, rowW, set_rowW, app_rowW, app_rowW0, rep_rowW0, rowB, set_rowB, rep_rowB, rowN, lens_W, lensA_W, scal_rowW, default_W, w_or, w_and, w_andNot, w_and1, w_shl, w_shl1, w_shr, w_sub1, w_neg, w_add, w_bit, w_eq0, w_eq1, w_eq, Bool.decide_eq_true, idx_Rat, idx_Loc, idx_Act, idx_Step, idx_Stamp, stepK_idx_ref, evStore_ptr, storeO_vec, stepK_store_map1, loadDT_f, rowI, RatG.row, LocG.row, ActG.row, StepG.row, StampG.row, ActG.av, ActG.eta, RatG.eta, LocG.eta, beq_true, beq_false, loadDT_t, set_rowI, app_rowI, rep_rowI, set_rowRat, app_rowRat, rep_rowRat, set_rowLoc, app_rowLoc, app_rowAct, app_rowStep, List.length_set, List.length_replicate, toNat_cast, Int.reduceToNat, evLen, evAppend, srcOf, Src.all, Src.len, Src.leaf, joinV, drows_rep1, drows_rep2, drows_rep3, drows_rep4, drows_rep5, drows_rep6, drows_rep7, drows_rep8, mkVec, drows, evMk, List.length_map, take_mapF, drop_mapF, List.take_length, List.take_left, List.length_append, Nat.le_add_right, ite_self, List.take_of_length_le, evSlice, intOr, intOpd, Option.isSome_none, Option.isSome_some, Nat.sub_zero, loadQ, loadT, evBin, evUn, evIdxArr_d, evIdxArr_p, binT, binQ, chk, apartF, List.contains_cons, List.contains_nil, Bool.or_false, Bool.false_or, Bool.and_self, resQ, resV, resT, pickV, evCallT, evCall, fnOf, viewsT, isD, HO.drow, viewT, evInt2, evEq, eqV, eqK, eqC1, buildQ, buildT, buildRQ, buildRT, lens_I, lensA_I, lens_Rat, lensA_Rat, lens_Loc, lensA_Loc, lens_Act, lensA_Act, lens_Step, lensA_Step, lens_Stamp, lensA_Stamp, List.mem_cons, List.not_mem_nil, or_false, forall_eq, putRow, dcells, get_nil, RetS, RetF, RetD, AV.frz, AV.frzL, AV.freshP, AV.freshL, DV.less, scal_int, scal_bool, scal_nil, scal_rowI, scal_rowRat, scal_rowStep, Option.some.injEq, AV.tup.injEq, AV.agg.injEq, List.cons.injEq, DV.list.injEq, List.isEmpty_nil, Nat.le_refl, AV.d.injEq, DV.int.injEq, DV.bool.injEq, ↓reduceIte, Nat.reduceEqDiff, Nat.reduceAdd, Nat.reduceBEq, List.length_cons, List.length_nil, List.replicate_succ, List.replicate_zero, List.nil_append, List.cons_append, List.append_nil, List.foldl_cons, List.foldl_nil, List.map_cons, List.map_nil, List.all_cons, List.all_nil, List.set_cons_zero, List.set_cons_succ, List.getD_cons_zero, List.getD_cons_succ, List.drop_zero, List.drop_succ_cons, List.take_succ_cons, List.take_zero, List.flatten_cons, List.flatten_nil, Bool.true_and, Bool.and_true, Bool.not_true, Bool.not_false, true_and, and_true, true_or, or_true, Option.bind_some, Option.map_some, decide_true, decide_false, beq_self_eq_true, true_implies, false_implies, implies_true, not_true_eq_false, not_false_eq_true, and_self, Bool.and_false, Bool.false_and, Nat.reduceLT, Nat.reduceLeDiff, List.reverse_cons, List.reverse_nil, Nat.zero_add, Nat.add_zero, Bool.false_eq_true, List.getElem?_cons_zero, Nat.reduceMul, Nat.mul_one, F1, G1, at_Has]
    refine ⟨fun g => ?_, fun g => ?_⟩
    · have g' : k < n := by omega
      rw [wrapU (k := k) (by omega), wrap_succ g' (by unfold maxLen; omega), hasI_nat]
      simp only [toNat_cast, mkR_len]
      refine ⟨h1, fun hb => ⟨⟨by omega, by omega⟩, c', by omega, ⟨by omega, by omega⟩, c', ?_⟩, fun hb => ?_⟩
      · rw [upS_yes _ c' g' h2 hb]
        exact FamNext.mk [0] (k + 1) (by simp) (by simp) (by simp only [State.can, AV.can, AV.canL, HO.can, canRows, idx, get_hit, get_next, Heap.at, Nat.reduceBEq, ↓reduceIte, Nat.reduceEqDiff, Option.getD_some, Option.map_some, List.map_cons, List.map_nil, List.getD_cons_zero, List.getD_cons_succ]) (by omega) (by omega)
      · rw [upS_no _ hb]
        exact FamNext.mk [0] (k + 1) (by simp) (by simp) (by simp only [State.can, AV.can, AV.canL, HO.can, canRows, idx, get_hit, get_next, Heap.at, Nat.reduceBEq, ↓reduceIte, Nat.reduceEqDiff, Option.getD_some, Option.map_some, List.map_cons, List.map_nil, List.getD_cons_zero, List.getD_cons_succ]) (by omega) (by omega)
    · have : k = n := by omega
      subst this
      rw [wrap_succ c' (by unfold maxLen; omega), upS_next]
      exact FamNext.mk [0] (i + 1) (by simp) (by simp) (by simp only [State.can, AV.can, AV.canL, HO.can, canRows, idx, get_hit, get_next, Heap.at, Nat.reduceBEq, ↓reduceIte, Nat.reduceEqDiff, Option.getD_some, Option.map_some, List.map_cons, List.map_nil, List.getD_cons_zero, List.getD_cons_succ]) (by omega) (by omega)
  · have : i = n := by omega
    subst this
    rw [upS_end]
    exact frz_end (l := fitG l i) (by simp [fitG, mkR_len])

/-! ### trim -/
def trimG (r : List W) (n : Nat) : List W := r.take n ++ List.replicate (n - r.length) 0#64
def sp_trim : Sp := ⟨List W × Bool × Nat, fun x => [.d (.list (x.1.map rowW) x.2.1), .d (.int .i64 (x.2.2 : Int))],
  fun x => .data (x.1.length ≤ maxLen ∧ x.2.2 ≤ 64) (.d (.list ((trimG x.1 x.2.2).map rowW) false)) false⟩
theorem at_trim (l : List W) (f : Bool) (n : Nat) : sp_trim.at [.d (.list (l.map rowW) f), .d (.int .i64 (n : Int))] = .data (l.length ≤ maxLen ∧ n ≤ 64) (.d (.list ((trimG l n).map rowW) false)) false :=
  Sp.at_enc (s := sp_trim) (fun x y h => by
    obtain ⟨a, b, c⟩ := x; obtain ⟨a', b', c'⟩ := y
    simp only [sp_trim, List.cons.injEq, AV.d.injEq, DV.list.injEq, DV.int.injEq, and_true, true_and] at h
    rw [rows_inj rowW_inj h.1.1, h.1.2, Int.ofNat.inj h.2]) (l, f, n)
theorem body_slices_Clone_uint64 {T : Tab} : (cloneS 1 8).Body T V_slices_Clone_uint64 L_slices_Clone_uint64 R_slices_Clone_uint64 := by
  rintro ⟨l, full⟩ ⟨h1, h2⟩
  refine ⟨h1, ?_⟩
  unfold V_slices_Clone_uint64 L_slices_Clone_uint64 R_slices_Clone_uint64
  simp only [↓vck_skip, ↓vck_ret, ↓vck_exit, ↓vck_region, ↓vck_nilq, ↓nilTo_to, nilG_d, nilG_r, ↓vck_seq, ↓vck_cond, ↓vck_block, ↓vck_loop, ↓vckTo_to, ↓thenK_n, ↓thenK_x, ↓thenK_r, ↓blockK_n, ↓blockK_x, ↓blockK_o, ↓blockK_r, ↓regK_to, ↓retK_r, ↓retK_n, ↓loopV_n, ↓loopV_x, ↓loopV_r, ↓famK_n, ↓famK_x, ↓famK_r, ↓boolK_true, ↓boolK_false, ↓boolK_not, ↓boolK_dec, ↓boolK_and, nf_mk, RGk_end_f, RGk_end_t, RGk_op, RGk_guard, opK_to, evN, evCallN, grow_mk, feet_f, feet_t, foot_mk, stepK_mk, stepK_v, stepK_no, guardG_t, guardG_f, guardG_no, condG_b, evT, Opd.ev, get_hit, get_next, app_to, app_no, app_up, app_skip, app_skipn, know_mk, knowO_t, knowO_c, envFrom, reserve, keeps, LOp.isNew, State.prune, cellsQ, cellsT, AV.leaf, Heap.at, evLoad_ptr, evLoad_dptr, loadO_vec, loadO_dvec1, stepK_load_map, idx_I, idx_U, idx_Rat, idx_Loc, idx_Act, idx_Step, idx_Stamp, stepK_idx_ref, evStore_ptr, storeO_vec, stepK_store_map1, loadDT_f, rowI, rowU, RatG.row, LocG.row, ActG.row, StepG.row, StampG.row, ActG.av, ActG.eta, RatG.eta, LocG.eta, beq_true, beq_false, loadDT_t, set_rowI, set_rowU, app_rowI, app_rowU, rep_rowI, rep_rowU, set_rowRat, app_rowRat, rep_rowRat, set_rowLoc, app_rowLoc, app_rowAct, app_rowStep, List.length_set, List.length_replicate, Int.toNat_natCast, Int.reduceToNat, evLen, evAppend, srcOf, Src.all, Src.len, Src.leaf, joinV, drows_rep1, drows_rep2, drows_rep3, drows_rep4, drows_rep5, drows_rep6, drows_rep7, drows_rep8, mkVec, drows, evMk, List.length_map, take_map_len, take_map_ge, loadQ, loadT, evBin, evUn, binT, binQ, chk, apartF, List.contains_cons, List.contains_nil, Bool.or_false, Bool.false_or, Bool.and_self, resQ, resV, resT, pickV, evCallT, evCall, fnOf, viewsT, isD, HO.drow, viewT, evInt2, evEq, eqV, eqK, eqC1, buildQ, buildT, buildRQ, buildRT, lens_I, lensA_I, lens_U, lensA_U, lens_Rat, lensA_Rat, lens_Loc, lensA_Loc, lens_Act, lensA_Act, lens_Step, lensA_Step, lens_Stamp, lensA_Stamp, List.mem_cons, List.not_mem_nil, or_false, forall_eq, putRow, dcells, get_nil, RetS, RetF, RetD, AV.frz, AV.frzL, AV.freshP, AV.freshL, DV.less, scal_int, scal_bool, scal_nil, scal_rowI, scal_rowU, scal_rowRat, scal_rowStep, Option.some.injEq, AV.tup.injEq, AV.agg.injEq, List.cons.injEq, DV.list.injEq, List.isEmpty_nil, Nat.le_refl, AV.d.injEq, DV.int.injEq, DV.bool.injEq, ↓reduceIte, Nat.reduceEqDiff, Nat.reduceAdd, Nat.reduceBEq, List.length_cons, List.length_nil, List.replicate_succ, List.replicate_zero, List.nil_append, List.cons_append, List.append_nil, List.foldl_cons, List.foldl_nil, List.map_cons, List.map_nil, List.all_cons, List.all_nil, List.set_cons_zero, List.set_cons_succ, List.getD_cons_zero, List.getD_cons_succ, List.drop_zero, List.drop_succ_cons, List.take_succ_cons, List.take_zero, List.flatten_cons, List.flatten_nil, Bool.true_and, Bool.and_true, Bool.not_true, Bool.not_false, true_and, and_true, true_or, or_true, Option.bind_some, Option.map_some, decide_true, decide_false, beq_self_eq_true, true_implies, false_implies, implies_true, not_true_eq_false, not_false_eq_true, and_self, Bool.and_false, Bool.false_and, Nat.reduceLT, Nat.reduceLeDiff, List.reverse_cons, List.reverse_nil, Nat.zero_add, Nat.add_zero, Bool.false_eq_true, List.getElem?_cons_zero, cloneS]
  exact clone_end h1 h2
theorem body_power_trim {T : Tab} {n1 : Nat} (k1 : Knows T n1 (cloneS 1 8)) : sp_trim.Body T V_power_trim (L_power_trim n1) R_power_trim := by
  have F1 := k1.F; have G1 := k1.G
  rintro ⟨l, f, n⟩ ⟨h1, h2⟩
  have h1 : l.length ≤ maxLen := h1
  have h2 : n ≤ 64 := h2
  refine ⟨rfl, ?_⟩
  unfold V_power_trim L_power_trim R_power_trim
  simp only [↓vck_skip, ↓vck_ret, ↓vck_exit, ↓vck_region, ↓vck_nilq, ↓nilTo_to, nilG_d, nilG_r, ↓vck_seq, ↓vck_cond, ↓vck_block, ↓vck_loop, ↓vckTo_to, ↓thenK_n, ↓thenK_x, ↓thenK_r, ↓blockK_n, ↓blockK_x, ↓blockK_o, ↓blockK_r, ↓regK_to, ↓retK_r, ↓retK_n, ↓loopV_n, ↓loopV_x, ↓loopV_r, ↓famK_n, ↓famK_x, ↓famK_r, ↓boolK_true, ↓boolK_false, ↓boolK_not, ↓boolK_dec, ↓boolK_and, nf_mk, RGk_end_f, RGk_end_t, RGk_op, RGk_guard, opK_to, evN, evCallN, grow_mk, feet_f, feet_t, foot_mk, stepK_mk, stepK_v, stepK_no, guardG_t, guardG_f, guardG_no, condG_b, evT, Opd.ev, get_hit, get_next, app_to, app_no, app_up, app_skip, app_skipn, know_mk, knowO_t, knowO_c, envFrom, reserve, keeps, LOp.isNew, State.prune, cellsQ, cellsT, AV.leaf, Heap.at, evLoad_ptr, evLoad_dptr, loadO_vec, loadO_dvec1, stepK_load_map, idx_I, idx_W, rowW, set_rowW, app_rowW, app_rowW0, rep_rowW0, rowB, set_rowB, rep_rowB, rowN, lens_W, lensA_W, scal_rowW, default_W, w_or, w_and, w_andNot, w_and1, w_shl, w_shl1, w_shr, w_sub1, w_neg, w_add, w_bit, w_eq0, w_eq1, w_eq, Bool.decide_eq_true, idx_Rat, idx_Loc, idx_Act, idx_Step, idx_Stamp, stepK_idx_ref, evStore_ptr, storeO_vec, stepK_store_map1, loadDT_f, rowI, RatG.row, LocG.row, ActG.row, StepG.row, StampG.row, ActG.av, ActG.eta, RatG.eta, LocG.eta, beq_true, beq_false, loadDT_t, set_rowI, app_rowI, rep_rowI, set_rowRat, app_rowRat, rep_rowRat, set_rowLoc, app_rowLoc, app_rowAct, app_rowStep, List.length_set, List.length_replicate, toNat_cast, Int.reduceToNat, evLen, evAppend, srcOf, Src.all, Src.len, Src.leaf, joinV, drows_rep1, drows_rep2, drows_rep3, drows_rep4, drows_rep5, drows_rep6, drows_rep7, drows_rep8, mkVec, drows, evMk, List.length_map, take_mapF, drop_mapF, List.take_length, List.take_left, List.length_append, Nat.le_add_right, ite_self, List.take_of_length_le, evSlice, intOr, intOpd, Option.isSome_none, Option.isSome_some, Nat.sub_zero, loadQ, loadT, evBin, evUn, evIdxArr_d, evIdxArr_p, binT, binQ, chk, apartF, List.contains_cons, List.contains_nil, Bool.or_false, Bool.false_or, Bool.and_self, resQ, resV, resT, pickV, evCallT, evCall, fnOf, viewsT, isD, HO.drow, viewT, evInt2, evEq, eqV, eqK, eqC1, buildQ, buildT, buildRQ, buildRT, lens_I, lensA_I, lens_Rat, lensA_Rat, lens_Loc, lensA_Loc, lens_Act, lensA_Act, lens_Step, lensA_Step, lens_Stamp, lensA_Stamp, List.mem_cons, List.not_mem_nil, or_false, forall_eq, putRow, dcells, get_nil, RetS, RetF, RetD, AV.frz, AV.frzL, AV.freshP, AV.freshL, DV.less, scal_int, scal_bool, scal_nil, scal_rowI, scal_rowRat, scal_rowStep, Option.some.injEq, AV.tup.injEq, AV.agg.injEq, List.cons.injEq, DV.list.injEq, List.isEmpty_nil, Nat.le_refl, AV.d.injEq, DV.int.injEq, DV.bool.injEq, ↓reduceIte, Nat.reduceEqDiff, Nat.reduceAdd, Nat.reduceBEq, List.length_cons, List.length_nil, List.replicate_succ, List.replicate_zero, List.nil_append, List.cons_append, List.append_nil, List.foldl_cons, List.foldl_nil, List.map_cons, List.map_nil, List.all_cons, List.all_nil, List.set_cons_zero, List.set_cons_succ, List.getD_cons_zero, List.getD_cons_succ, List.drop_zero, List.drop_succ_cons, List.take_succ_cons, List.take_zero, List.flatten_cons, List.flatten_nil, Bool.true_and, Bool.and_true, Bool.not_true, Bool.not_false, true_and, and_true, true_or, or_true, Option.bind_some, Option.map_some, decide_true, decide_false, beq_self_eq_true, true_implies, false_implies, implies_true, not_true_eq_false, not_false_eq_true, and_self, Bool.and_false, Bool.false_and, Nat.reduceLT, Nat.reduceLeDiff, List.reverse_cons, List.reverse_nil, Nat.zero_add, Nat.add_zero, Bool.false_eq_true, List.getElem?_cons_zero, Nat.reduceMul, Nat.mul_one, sp_trim, F1, G1, at_clone]
  refine ⟨fun c => ⟨⟨by omega, by omega, by omega, by omega⟩, ?_⟩, fun c => ⟨roomy_of (by omega) (by omega), ?_⟩⟩
  · have : n - l.length = 0 := by omega
    simp [trimG, this]
  · refine Loop.fam [1, 5] (fun j : Nat => ⟨[(1, .d (.int .i64 n)), (5, .ref 0 1 0 (l.length + j) true)], [.dvec 1 ((l ++ List.replicate j 0#64).map rowW)]⟩) (fun j => l.length + j ≤ n) (fun j => n - j) 0 [0] (by simp) (by simp)
      (by simp only [State.can, AV.can, AV.canL, HO.can, canRows, idx, get_hit, get_next, Heap.at, Nat.reduceBEq, ↓reduceIte, Nat.reduceEqDiff, Option.getD_some, Option.map_some, List.map_cons, List.map_nil, List.getD_cons_zero, List.getD_cons_succ]; rw [List.replicate_zero, List.append_nil]; rfl) (by omega) ?_
    intro j hj
    simp only [↓vck_skip, ↓vck_ret, ↓vck_exit, ↓vck_region, ↓vck_nilq, ↓nilTo_to, nilG_d, nilG_r, ↓vck_seq, ↓vck_cond, ↓vck_block, ↓vck_loop, ↓vckTo_to, ↓thenK_n, ↓thenK_x, ↓thenK_r, ↓blockK_n, ↓blockK_x, ↓blockK_o, ↓blockK_r, ↓regK_to, ↓retK_r, ↓retK_n, ↓loopV_n, ↓loopV_x, ↓loopV_r, ↓famK_n, ↓famK_x, ↓famK_r, ↓boolK_true, ↓boolK_false, ↓boolK_not, ↓boolK_dec, ↓boolK_and, nf_mk, RGk_end_f, RGk_end_t, RGk_op, RGk_guard, opK_to, evN, evCallN, grow_mk, feet_f, feet_t, foot_mk, stepK_mk, stepK_v, stepK_no, guardG_t, guardG_f, guardG_no, condG_b, evT, Opd.ev, get_hit, get_next, app_to, app_no, app_up, app_skip, app_skipn, know_mk, knowO_t, knowO_c, envFrom, reserve, keeps, LOp.isNew, State.prune, cellsQ, cellsT, AV.leaf, Heap.at, evLoad_ptr, evLoad_dptr, loadO_vec, loadO_dvec1, stepK_load_map, idx_I, idx_W, rowW, set_rowW, app_rowW, app_rowW0, rep_rowW0, rowB, set_rowB, rep_rowB, rowN, lens_W, lensA_W, scal_rowW, default_W, w_or, w_and, w_andNot, w_and1, w_shl, w_shl1, w_shr, w_sub1, w_neg, w_add, w_bit, w_eq0, w_eq1, w_eq, Bool.decide_eq_true, idx_Rat, idx_Loc, idx_Act, idx_Step, idx_Stamp, stepK_idx_ref, evStore_ptr, storeO_vec, stepK_store_map1, loadDT_f, rowI, RatG.row, LocG.row, ActG.row, StepG.row, StampG.row, ActG.av, ActG.eta, RatG.eta, LocG.eta, beq_true, beq_false, loadDT_t, set_rowI, app_rowI, rep_rowI, set_rowRat, app_rowRat, rep_rowRat, set_rowLoc, app_rowLoc, app_rowAct, app_rowStep, List.length_set, List.length_replicate, toNat_cast, Int.reduceToNat, evLen, evAppend, srcOf, Src.all, Src.len, Src.leaf, joinV, drows_rep1, drows_rep2, drows_rep3, drows_rep4, drows_rep5, drows_rep6, drows_rep7, drows_rep8, mkVec, drows, evMk, List.length_map, take_mapF, drop_mapF, List.take_length, List.take_left, List.length_append, Nat.le_add_right, ite_self, List.take_of_length_le, evSlice, intOr, intOpd, Option.isSome_none, Option.isSome_some, Nat.sub_zero, loadQ, loadT, evBin, evUn, evIdxArr_d, evIdxArr_p, binT, binQ, chk, apartF, List.contains_cons, List.contains_nil, Bool.or_false, Bool.false_or, Bool.and_self, resQ, resV, resT, pickV, evCallT, evCall, fnOf, viewsT, isD, HO.drow, viewT, evInt2, evEq, eqV, eqK, eqC1, buildQ, buildT, buildRQ, buildRT, lens_I, lensA_I, lens_Rat, lensA_Rat, lens_Loc, lensA_Loc, lens_Act, lensA_Act, lens_Step, lensA_Step, lens_Stamp, lensA_Stamp, List.mem_cons, List.not_mem_nil, or_false, forall_eq, putRow, dcells, get_nil, RetS, RetF, RetD, AV.frz, AV.frzL, AV.freshP, AV.freshL, DV.less, scal_int, scal_bool, scal_nil, scal_rowI, scal_rowRat, scal_rowStep, Option.some.injEq, AV.tup.injEq, AV.agg.injEq, List.cons.injEq, DV.list.injEq, List.isEmpty_nil, Nat.le_refl, AV.d.injEq, DV.int.injEq, DV.bool.injEq, ↓reduceIte, Nat.reduceEqDiff, Nat.reduceAdd, Nat.reduceBEq, List.length_cons, List.length_nil, List.replicate_succ, List.replicate_zero, List.nil_append, List.cons_append, List.append_nil, List.foldl_cons, List.foldl_nil, List.map_cons, List.map_nil, List.all_cons, List.all_nil, List.set_cons_zero, List.set_cons_succ, List.getD_cons_zero, List.getD_cons_succ, List.drop_zero, List.drop_succ_cons, List.take_succ_cons, List.take_zero, List.flatten_cons, List.flatten_nil, Bool.true_and, Bool.and_true, Bool.not_true, Bool.not_false, true_and, and_true, true_or, or_true, Option.bind_some, Option.map_some, decide_true, decide_false, beq_self_eq_true, true_implies, false_implies, implies_true, not_true_eq_false, not_false_eq_true, and_self, Bool.and_false, Bool.false_and, Nat.reduceLT, Nat.reduceLeDiff, List.reverse_cons, List.reverse_nil, Nat.zero_add, Nat.add_zero, Bool.false_eq_true, List.getElem?_cons_zero, Nat.reduceMul, Nat.mul_one]
    refine ⟨fun g => ?_, fun g => ?_⟩
    · refine ⟨roomy_of (by omega) (by omega), ?_⟩
      rw [List.append_assoc, ← List.replicate_succ']
      exact FamNext.mk [2] (j + 1) (by simp) (by simp) (by simp only [State.can, AV.can, AV.canL, HO.can, canRows, idx, get_hit, get_next, Heap.at, Nat.reduceBEq, ↓reduceIte, Nat.reduceEqDiff, Option.getD_some, Option.map_some, List.map_cons, List.map_nil, List.getD_cons_zero, List.getD_cons_succ]; rfl) (by omega) (by omega)
    · have : n - l.length = j := by omega
      rw [trimG, this, List.take_of_length_le (by omega)]

/-! ### where -/
/-- A node of an execution is a row of four numbers, as an act is: Thread, Kind, Loc, Val. -/
abbrev NodeG := ActG
def NodeG.th (n : NodeG) : Int := n.kind
def NodeG.kd (n : NodeG) : Int := n.loc
def NodeG.lc (n : NodeG) : Int := n.old
def apartQ (a b : NodeG) : Bool := !decide (a.th = b.th) || decide (a.th < 0)
def locQ (a b : NodeG) : Bool := decide (a.lc = b.lc)
def sp_node2 (q : NodeG → NodeG → Bool) : Sp := ⟨NodeG × NodeG, fun x => [x.1.av, x.2.av], fun x => .data True (.d (.bool (q x.1 x.2))) true⟩
theorem at_node2 (q : NodeG → NodeG → Bool) (a b : NodeG) : (sp_node2 q).at [a.av, b.av] = .data True (.d (.bool (q a b))) true :=
  Sp.at_enc (s := sp_node2 q) (fun x y h => by
    obtain ⟨a, b⟩ := x; obtain ⟨c, d⟩ := y
    simp only [sp_node2, List.cons.injEq, and_true] at h
    rw [ActG.av_inj _ _ h.1, ActG.av_inj _ _ h.2]) (a, b)
theorem at_node2' (q : NodeG → NodeG → Bool) (a b : NodeG) : (sp_node2 q).at [.agg [.d (.int .i64 a.kind), .d (.int .i64 a.loc), .d (.int .i64 a.old), .d (.int .i64 a.new)], .agg [.d (.int .i64 b.kind), .d (.int .i64 b.loc), .d (.int .i64 b.old), .d (.int .i64 b.new)]] = .data True (.d (.bool (q a b))) true := at_node2 q a b
theorem body_power_apart {T : Tab} : (sp_node2 apartQ).Body T V_power_apart L_power_apart R_power_apart := by
  rintro ⟨⟨a1, a2, a3, a4⟩, ⟨b1, b2, b3, b4⟩⟩ -
  refine .inl ⟨rfl, ?_⟩
  unfold V_power_apart L_power_apart R_power_apart
  simp only [↓vck_skip, ↓vck_ret, ↓vck_exit, ↓vck_region, ↓vck_nilq, ↓nilTo_to, nilG_d, nilG_r, ↓vck_seq, ↓vck_cond, ↓vck_block, ↓vck_loop, ↓vckTo_to, ↓thenK_n, ↓thenK_x, ↓thenK_r, ↓blockK_n, ↓blockK_x, ↓blockK_o, ↓blockK_r, ↓regK_to, ↓retK_r, ↓retK_n, ↓loopV_n, ↓loopV_x, ↓loopV_r, ↓famK_n, ↓famK_x, ↓famK_r, ↓boolK_true, ↓boolK_false, ↓boolK_not, ↓boolK_dec, ↓boolK_and, nf_mk, RGk_end_f, RGk_end_t, RGk_op, RGk_guard, opK_to, evN, evCallN, grow_mk, feet_f, feet_t, foot_mk, stepK_mk, stepK_v, stepK_no, guardG_t, guardG_f, guardG_no, condG_b, evT, Opd.ev, get_hit, get_next, app_to, app_no, app_up, app_skip, app_skipn, know_mk, knowO_t, knowO_c, envFrom, reserve, keeps, LOp.isNew, State.prune, cellsQ, cellsT, AV.leaf, Heap.at, evLoad_ptr, evLoad_dptr, loadO_vec, loadO_dvec1, stepK_load_map, idx_I, idx_W, rowW, set_rowW, app_rowW, app_rowW0, rep_rowW0, rowB, set_rowB, rep_rowB, rowN, lens_W, lensA_W, scal_rowW, default_W, w_or, w_and, w_andNot, w_and1, w_shl, w_shl1, w_shr, w_sub1, w_neg, w_add, w_bit, w_eq0, w_eq1, w_eq, Bool.decide_eq_true, idx_Rat, idx_Loc, idx_Act, idx_Step, idx_Stamp, stepK_idx_ref, evStore_ptr, storeO_vec, stepK_store_map1, loadDT_f, rowI, RatG.row, LocG.row, ActG.row, StepG.row, StampG.row, ActG.av, ActG.eta, RatG.eta, LocG.eta, beq_true, beq_false, loadDT_t, set_rowI, app_rowI, rep_rowI, set_rowRat, app_rowRat, rep_rowRat, set_rowLoc, app_rowLoc, app_rowAct, app_rowStep, List.length_set, List.length_replicate, toNat_cast, Int.reduceToNat, evLen, evAppend, srcOf, Src.all, Src.len, Src.leaf, joinV, drows_rep1, drows_rep2, drows_rep3, drows_rep4, drows_rep5, drows_rep6, drows_rep7, drows_rep8, mkVec, drows, evMk, List.length_map, take_mapF, drop_mapF, List.take_length, List.take_left, List.length_append, Nat.le_add_right, ite_self, List.take_of_length_le, evSlice, intOr, intOpd, Option.isSome_none, Option.isSome_some, Nat.sub_zero, loadQ, loadT, evBin, evUn, evIdxArr_d, evIdxArr_p, binT, binQ, chk, apartF, List.contains_cons, List.contains_nil, Bool.or_false, Bool.false_or, Bool.and_self, resQ, resV, resT, pickV, evCallT, evCall, fnOf, viewsT, isD, HO.drow, viewT, evInt2, evEq, eqV, eqK, eqC1, buildQ, buildT, buildRQ, buildRT, lens_I, lensA_I, lens_Rat, lensA_Rat, lens_Loc, lensA_Loc, lens_Act, lensA_Act, lens_Step, lensA_Step, lens_Stamp, lensA_Stamp, List.mem_cons, List.not_mem_nil, or_false, forall_eq, putRow, dcells, get_nil, RetS, RetF, RetD, AV.frz, AV.frzL, AV.freshP, AV.freshL, DV.less, scal_int, scal_bool, scal_nil, scal_rowI, scal_rowRat, scal_rowStep, Option.some.injEq, AV.tup.injEq, AV.agg.injEq, List.cons.injEq, DV.list.injEq, List.isEmpty_nil, Nat.le_refl, AV.d.injEq, DV.int.injEq, DV.bool.injEq, ↓reduceIte, Nat.reduceEqDiff, Nat.reduceAdd, Nat.reduceBEq, List.length_cons, List.length_nil, List.replicate_succ, List.replicate_zero, List.nil_append, List.cons_append, List.append_nil, List.foldl_cons, List.foldl_nil, List.map_cons, List.map_nil, List.all_cons, List.all_nil, List.set_cons_zero, List.set_cons_succ, List.getD_cons_zero, List.getD_cons_succ, List.drop_zero, List.drop_succ_cons, List.take_succ_cons, List.take_zero, List.flatten_cons, List.flatten_nil, Bool.true_and, Bool.and_true, Bool.not_true, Bool.not_false, true_and, and_true, true_or, or_true, Option.bind_some, Option.map_some, decide_true, decide_false, beq_self_eq_true, true_implies, false_implies, implies_true, not_true_eq_false, not_false_eq_true, and_self, Bool.and_false, Bool.false_and, Nat.reduceLT, Nat.reduceLeDiff, List.reverse_cons, List.reverse_nil, Nat.zero_add, Nat.add_zero, Bool.false_eq_true, List.getElem?_cons_zero, Nat.reduceMul, Nat.mul_one, sp_node2, apartQ, ActG.av, NodeG.th]
  exact ⟨fun h => by simp [h], fun h => by simp [h]⟩
theorem body_power_model_poloc_1 {T : Tab} : (sp_node2 locQ).Body T V_power_model_poloc_1 L_power_model_poloc_1 R_power_model_poloc_1 := by
  rintro ⟨⟨a1, a2, a3, a4⟩, ⟨b1, b2, b3, b4⟩⟩ -
  refine .inl ⟨rfl, ?_⟩
  unfold V_power_model_poloc_1 L_power_model_poloc_1 R_power_model_poloc_1
  simp only [↓vck_skip, ↓vck_ret, ↓vck_exit, ↓vck_region, ↓vck_nilq, ↓nilTo_to, nilG_d, nilG_r, ↓vck_seq, ↓vck_cond, ↓vck_block, ↓vck_loop, ↓vckTo_to, ↓thenK_n, ↓thenK_x, ↓thenK_r, ↓blockK_n, ↓blockK_x, ↓blockK_o, ↓blockK_r, ↓regK_to, ↓retK_r, ↓retK_n, ↓loopV_n, ↓loopV_x, ↓loopV_r, ↓famK_n, ↓famK_x, ↓famK_r, ↓boolK_true, ↓boolK_false, ↓boolK_not, ↓boolK_dec, ↓boolK_and, nf_mk, RGk_end_f, RGk_end_t, RGk_op, RGk_guard, opK_to, evN, evCallN, grow_mk, feet_f, feet_t, foot_mk, stepK_mk, stepK_v, stepK_no, guardG_t, guardG_f, guardG_no, condG_b, evT, Opd.ev, get_hit, get_next, app_to, app_no, app_up, app_skip, app_skipn, know_mk, knowO_t, knowO_c, envFrom, reserve, keeps, LOp.isNew, State.prune, cellsQ, cellsT, AV.leaf, Heap.at, evLoad_ptr, evLoad_dptr, loadO_vec, loadO_dvec1, stepK_load_map, idx_I, idx_W, rowW, set_rowW, app_rowW, app_rowW0, rep_rowW0, rowB, set_rowB, rep_rowB, rowN, lens_W, lensA_W, scal_rowW, default_W, w_or, w_and, w_andNot, w_and1, w_shl, w_shl1, w_shr, w_sub1, w_neg, w_add, w_bit, w_eq0, w_eq1, w_eq, Bool.decide_eq_true, idx_Rat, idx_Loc, idx_Act, idx_Step, idx_Stamp, stepK_idx_ref, evStore_ptr, storeO_vec, stepK_store_map1, loadDT_f, rowI, RatG.row, LocG.row, ActG.row, StepG.row, StampG.row, ActG.av, ActG.eta, RatG.eta, LocG.eta, beq_true, beq_false, loadDT_t, set_rowI, app_rowI, rep_rowI, set_rowRat, app_rowRat, rep_rowRat, set_rowLoc, app_rowLoc, app_rowAct, app_rowStep, List.length_set, List.length_replicate, toNat_cast, Int.reduceToNat, evLen, evAppend, srcOf, Src.all, Src.len, Src.leaf, joinV, drows_rep1, drows_rep2, drows_rep3, drows_rep4, drows_rep5, drows_rep6, drows_rep7, drows_rep8, mkVec, drows, evMk, List.length_map, take_mapF, drop_mapF, List.take_length, List.take_left, List.length_append, Nat.le_add_right, ite_self, List.take_of_length_le, evSlice, intOr, intOpd, Option.isSome_none, Option.isSome_some, Nat.sub_zero, loadQ, loadT, evBin, evUn, evIdxArr_d, evIdxArr_p, binT, binQ, chk, apartF, List.contains_cons, List.contains_nil, Bool.or_false, Bool.false_or, Bool.and_self, resQ, resV, resT, pickV, evCallT, evCall, fnOf, viewsT, isD, HO.drow, viewT, evInt2, evEq, eqV, eqK, eqC1, buildQ, buildT, buildRQ, buildRT, lens_I, lensA_I, lens_Rat, lensA_Rat, lens_Loc, lensA_Loc, lens_Act, lensA_Act, lens_Step, lensA_Step, lens_Stamp, lensA_Stamp, List.mem_cons, List.not_mem_nil, or_false, forall_eq, putRow, dcells, get_nil, RetS, RetF, RetD, AV.frz, AV.frzL, AV.freshP, AV.freshL, DV.less, scal_int, scal_bool, scal_nil, scal_rowI, scal_rowRat, scal_rowStep, Option.some.injEq, AV.tup.injEq, AV.agg.injEq, List.cons.injEq, DV.list.injEq, List.isEmpty_nil, Nat.le_refl, AV.d.injEq, DV.int.injEq, DV.bool.injEq, ↓reduceIte, Nat.reduceEqDiff, Nat.reduceAdd, Nat.reduceBEq, List.length_cons, List.length_nil, List.replicate_succ, List.replicate_zero, List.nil_append, List.cons_append, List.append_nil, List.foldl_cons, List.foldl_nil, List.map_cons, List.map_nil, List.all_cons, List.all_nil, List.set_cons_zero, List.set_cons_succ, List.getD_cons_zero, List.getD_cons_succ, List.drop_zero, List.drop_succ_cons, List.take_succ_cons, List.take_zero, List.flatten_cons, List.flatten_nil, Bool.true_and, Bool.and_true, Bool.not_true, Bool.not_false, true_and, and_true, true_or, or_true, Option.bind_some, Option.map_some, decide_true, decide_false, beq_self_eq_true, true_implies, false_implies, implies_true, not_true_eq_false, not_false_eq_true, and_self, Bool.and_false, Bool.false_and, Nat.reduceLT, Nat.reduceLeDiff, List.reverse_cons, List.reverse_nil, Nat.zero_add, Nat.add_zero, Bool.false_eq_true, List.getElem?_cons_zero, Nat.reduceMul, Nat.mul_one, sp_node2, locQ, ActG.av, NodeG.lc]
  rfl

/-- What a candidate execution is, and what is made of it. -/
structure MG where
  nodes : List NodeG
  nf : Bool
  xn : List NodeG
  xf : Bool
  po : List W
  rf : List W
  co : List W
  fr : List W
  addr : List W
  data : List W
  ctrl : List W
  fenced : List W
  sync : List W
  lwsync : List W
  pairs : List W
  read : W
  write : W
def lsW (r : List W) : DV := .list (r.map rowW) false
def MG.cells (m : MG) : List DV := [.list (m.nodes.map ActG.row) m.nf, .list (m.xn.map ActG.row) m.xf, lsW m.po, lsW m.rf, lsW m.co, lsW m.fr, lsW m.addr, lsW m.data, lsW m.ctrl, lsW m.fenced, lsW m.sync, lsW m.lwsync, lsW m.pairs,
  .int .u64 (m.read.toNat : Int), .int .u64 (m.write.toNat : Int)]
theorem cells_len (m : MG) : m.cells.length = 15 := rfl
theorem cells_0 (m : MG) : m.cells.getD 0 DV.nilp = .list (m.nodes.map ActG.row) m.nf := rfl
theorem cells_1 (m : MG) : m.cells.getD 1 DV.nilp = .list (m.xn.map ActG.row) m.xf := rfl
theorem cells_2 (m : MG) : m.cells.getD 2 DV.nilp = .list (m.po.map rowW) false := rfl
theorem cells_3 (m : MG) : m.cells.getD 3 DV.nilp = .list (m.rf.map rowW) false := rfl
theorem cells_4 (m : MG) : m.cells.getD 4 DV.nilp = .list (m.co.map rowW) false := rfl
theorem cells_5 (m : MG) : m.cells.getD 5 DV.nilp = .list (m.fr.map rowW) false := rfl
theorem cells_6 (m : MG) : m.cells.getD 6 DV.nilp = .list (m.addr.map rowW) false := rfl
theorem cells_7 (m : MG) : m.cells.getD 7 DV.nilp = .list (m.data.map rowW) false := rfl
theorem cells_8 (m : MG) : m.cells.getD 8 DV.nilp = .list (m.ctrl.map rowW) false := rfl
theorem cells_9 (m : MG) : m.cells.getD 9 DV.nilp = .list (m.fenced.map rowW) false := rfl
theorem cells_10 (m : MG) : m.cells.getD 10 DV.nilp = .list (m.sync.map rowW) false := rfl
theorem cells_11 (m : MG) : m.cells.getD 11 DV.nilp = .list (m.lwsync.map rowW) false := rfl
theorem cells_12 (m : MG) : m.cells.getD 12 DV.nilp = .list (m.pairs.map rowW) false := rfl
theorem cells_13 (m : MG) : m.cells.getD 13 DV.nilp = .int .u64 (m.read.toNat : Int) := rfl
theorem cells_14 (m : MG) : m.cells.getD 14 DV.nilp = .int .u64 (m.write.toNat : Int) := rfl
theorem lsW_inj {r s : List W} (h : lsW r = lsW s) : r = s := by
  simp only [lsW, DV.list.injEq, and_true] at h
  exact rows_inj rowW_inj h
theorem MG.cells_inj (m m' : MG) (h : m.cells = m'.cells) : m = m' := by
  obtain ⟨a, b, c, d, e, f, g, i, j, k, l, n, o, p, q, r, s⟩ := m
  obtain ⟨a', b', c', d', e', f', g', i', j', k', l', n', o', p', q', r', s'⟩ := m'
  simp only [MG.cells, List.cons.injEq, DV.list.injEq, DV.int.injEq, and_true, true_and] at h
  obtain ⟨⟨h1, h2⟩, ⟨h3, h4⟩, h5, h6, h7, h8, h9, h10, h11, h12, h13, h14, h15, h16, h17⟩ := h
  rw [rows_inj ActG.row_inj h1, h2, rows_inj ActG.row_inj h3, h4, lsW_inj h5, lsW_inj h6, lsW_inj h7, lsW_inj h8, lsW_inj h9, lsW_inj h10, lsW_inj h11, lsW_inj h12, lsW_inj h13, lsW_inj h14, lsW_inj h15, W.inj h16, W.inj h17]

def whereG (nodes : List NodeG) (q : NodeG → NodeG → Bool) (r : List W) : List W := mkR r.length fun i k => hasN r i k && q (nodes.getD i default) (nodes.getD k default)
/-- Told by the number of the function that is handed over. -/
def sp_where (qs : Nat → Option (NodeG → NodeG → Bool)) : Sp := ⟨MG × List W × Bool × Nat, fun x => [.dptr x.1.cells 0, .d (.list (x.2.1.map rowW) x.2.2.1), .d (.fn x.2.2.2)],
  fun x => match qs x.2.2.2 with | some q => .data (x.2.1.length ≤ 64 ∧ x.2.1.length ≤ x.1.nodes.length) (.d (.list ((whereG x.1.nodes q x.2.1).map rowW) false)) true | none => .none⟩
theorem at_where {qs : Nat → Option (NodeG → NodeG → Bool)} {g : Nat} {q : NodeG → NodeG → Bool} (hg : qs g = some q) (m : MG) (r : List W) (f : Bool) : (sp_where qs).at [.dptr m.cells 0, .d (.list (r.map rowW) f), .d (.fn g)] =
    .data (r.length ≤ 64 ∧ r.length ≤ m.nodes.length) (.d (.list ((whereG m.nodes q r).map rowW) false)) true := by
  refine (Sp.at_enc (s := sp_where qs) (fun x y h => ?_) (m, r, f, g)).trans ?_
  · obtain ⟨a, b, c, d⟩ := x; obtain ⟨a', b', c', d'⟩ := y
    simp only [sp_where, List.cons.injEq, AV.dptr.injEq, AV.d.injEq, DV.list.injEq, DV.fn.injEq, and_true] at h
    rw [MG.cells_inj _ _ h.1, rows_inj rowW_inj h.2.1.1, h.2.1.2, h.2.2]
  · simp only [sp_where, hg]
def qs2 (n1 n2 : Nat) : Nat → Option (NodeG → NodeG → Bool) := fun g => if g = n1 then some apartQ else if g = n2 then some locQ else none

theorem where_body {T : Tab} {n1 g : Nat} {q : NodeG → NodeG → Bool} (k1 : Knows T n1 sp_Has) (k2 : Knows T g (sp_node2 q)) (m : MG) (r : List W) (f : Bool) :
    (SpecR.data (r.length ≤ 64 ∧ r.length ≤ m.nodes.length) (.d (.list ((whereG m.nodes q r).map rowW) false)) true).asks fun Post => vck T 0 V_power_model_where (L_power_model_where n1)
      ⟨envFrom 0 [.dptr m.cells 0, .d (.list (r.map rowW) f), .d (.fn g)], []⟩ (retK R_power_model_where Post) := by
  have F1 := k1.F; have G1 := k1.G; have F2 := k2.F; have G2 := k2.G
  rintro ⟨h1, h2⟩
  refine .inr ⟨rfl, ?_⟩
  have hm : maxLen = 9223372036854775807 := rfl
  unfold V_power_model_where L_power_model_where R_power_model_where
  generalize hn : r.length = n at *
  simp only [↓vck_skip, ↓vck_ret, ↓vck_exit, ↓vck_region, ↓vck_nilq, ↓nilTo_to, nilG_d, nilG_r, ↓vck_seq, ↓vck_cond, ↓vck_block, ↓vck_loop, ↓vckTo_to, ↓thenK_n, ↓thenK_x, ↓thenK_r, ↓blockK_n, ↓blockK_x, ↓blockK_o, ↓blockK_r, ↓regK_to, ↓retK_r, ↓retK_n, ↓loopV_n, ↓loopV_x, ↓loopV_r, ↓famK_n, ↓famK_x, ↓famK_r, ↓boolK_true, ↓boolK_false, ↓boolK_not, ↓boolK_dec, ↓boolK_and, nf_mk, RGk_end_f, RGk_end_t, RGk_op, RGk_guard, opK_to, evN, evCallN, grow_mk, feet_f, feet_t, foot_mk, stepK_mk, stepK_v, stepK_no, guardG_t, guardG_f, guardG_no, condG_b, evT, Opd.ev, get_hit, get_next, app_to, app_no, app_up, app_skip, app_skipn, know_mk, knowO_t, knowO_c, envFrom, reserve, keeps, LOp.isNew, State.prune, cellsQ, cellsT, AV.leaf, Heap.at, evLoad_ptr, evLoad_dptr, loadO_vec, loadO_dvec1, stepK_load_map, idx_I, idx_W, rowW, set_rowW, app_rowW, app_rowW0, rep_rowW0, rowB, set_rowB, rep_rowB, rowN, lens_W, lensA_W, scal_rowW, default_W, w_or, w_and, w_andNot, w_and1, w_shl, w_shl1, w_shr, w_sub1, w_neg, w_add, w_bit, w_eq0, w_eq1, w_eq, Bool.decide_eq_true, idx_Rat, idx_Loc, idx_Act, idx_Step, idx_Stamp, stepK_idx_ref, evStore_ptr, storeO_vec, stepK_store_map1, loadDT_f, rowI, RatG.row, LocG.row, ActG.row, StepG.row, StampG.row, ActG.av, ActG.eta, RatG.eta, LocG.eta, beq_true, beq_false, loadDT_t, set_rowI, app_rowI, rep_rowI, set_rowRat, app_rowRat, rep_rowRat, set_rowLoc, app_rowLoc, app_rowAct, app_rowStep, List.length_set, List.length_replicate, toNat_cast, Int.reduceToNat, evLen, evAppend, srcOf, Src.all, Src.len, Src.leaf, joinV, drows_rep1, drows_rep2, drows_rep3, drows_rep4, drows_rep5, drows_rep6, drows_rep7, drows_rep8, mkVec, drows, evMk, List.length_map, take_mapF, drop_mapF, List.take_length, List.take_left, List.length_append, Nat.le_add_right, ite_self, List.take_of_length_le, evSlice, intOr, intOpd, Option.isSome_none, Option.isSome_some, Nat.sub_zero, loadQ, loadT, evBin, evUn, evIdxArr_d, evIdxArr_p, binT, binQ, chk, apartF, List.contains_cons, List.contains_nil, Bool.or_false, Bool.false_or, Bool.and_self, resQ, resV, resT, pickV, evCallT, evCall, fnOf, viewsT, isD, HO.drow, viewT, evInt2, evEq, eqV, eqK, eqC1, buildQ, buildT, buildRQ, buildRT, lens_I, lensA_I, lens_Rat, lensA_Rat, lens_Loc, lensA_Loc, lens_Act, lensA_Act, lens_Step, lensA_Step, lens_Stamp, lensA_Stamp, List.mem_cons, List.not_mem_nil, or_false, forall_eq, putRow, dcells, get_nil, RetS, RetF, RetD, AV.frz, AV.frzL, AV.freshP, AV.freshL, DV.less, scal_int, scal_bool, scal_nil, scal_rowI, scal_rowRat, scal_rowStep, Option.some.injEq, AV.tup.injEq, AV.agg.injEq, List.cons.injEq, DV.list.injEq, List.isEmpty_nil, Nat.le_refl, AV.d.injEq, DV.int.injEq, DV.bool.injEq, ↓reduceIte, Nat.reduceEqDiff, Nat.reduceAdd, Nat.reduceBEq, List.length_cons, List.length_nil, List.replicate_succ, List.replicate_zero, List.nil_append, List.cons_append, List.append_nil, List.foldl_cons, List.foldl_nil, List.map_cons, List.map_nil, List.all_cons, List.all_nil, List.set_cons_zero, List.set_cons_succ, List.getD_cons_zero, List.getD_cons_succ, List.drop_zero, List.drop_succ_cons, List.take_succ_cons, List.take_zero, List.flatten_cons, List.flatten_nil, Bool.true_and, Bool.and_true, Bool.not_true, Bool.not_false, true_and, and_true, true_or, or_true, Option.bind_some, Option.map_some, decide_true, decide_false, beq_self_eq_true, true_implies, false_implies, implies_true, not_true_eq_false, not_false_eq_true, and_self, Bool.and_false, Bool.false_and, Nat.reduceLT, Nat.reduceLeDiff, List.reverse_cons, List.reverse_nil, Nat.zero_add, Nat.add_zero, Bool.false_eq_true, List.getElem?_cons_zero, Nat.reduceMul, Nat.mul_one, F1, G1, F2, G2, at_Has, hn]
  have hz : List.replicate n 0#64 = mkR n (upS (fun i k => hasN r i k && q (m.nodes.getD i default) (m.nodes.getD k default)) 0 0) := mkR_zero (fun a b _ _ => upS_zero _ a b)
  rw [hz]
  generalize hp : (fun i k => hasN r i k && q (m.nodes.getD i default) (m.nodes.getD k default)) = p
  have hp' : ∀ i k, p i k = (hasN r i k && q (m.nodes.getD i default) (m.nodes.getD k default)) := fun i k => by rw [← hp]
  refine ⟨⟨by omega, by omega, roomy_of (by omega) (by omega)⟩, ?_⟩
  refine Loop.fam [0, 1, 2, 7, 14, 15] (fun i : Nat => ⟨[(0, .dptr m.cells 0), (1, .d (.list (r.map rowW) f)), (2, .d (.fn g)), (7, .ref 0 1 0 n true), (14, .d (.int .i64 n)), (15, .d (.int .i64 i))],
      [.dvec 1 ((mkR n (upS p i 0)).map rowW)]⟩) (fun i => i ≤ n) (fun i => n - i) 0 [0] (by simp) (by simp) (by simp only [State.can, AV.can, AV.canL, HO.can, canRows, idx, get_hit, get_next, Heap.at, Nat.reduceBEq, ↓reduceIte, Nat.reduceEqDiff, Option.getD_some, Option.map_some, List.map_cons, List.map_nil, List.getD_cons_zero, List.getD_cons_succ]; rfl) (by omega) ?_
  intro i hi
  simp only [↓vck_skip, ↓vck_ret, ↓vck_exit, ↓vck_region, ↓vck_nilq, ↓nilTo_to, nilG_d, nilG_r, ↓vck_seq, ↓vck_cond, ↓vck_block, ↓vck_loop, ↓vckTo_to, ↓thenK_n, ↓thenK_x, ↓thenK_r, ↓blockK_n, ↓blockK_x, ↓blockK_o, ↓blockK_r, ↓regK_to, ↓retK_r, ↓retK_n, ↓loopV_n, ↓loopV_x, ↓loopV_r, ↓famK_n, ↓famK_x, ↓famK_r, ↓boolK_true, ↓boolK_false, ↓boolK_not, ↓boolK_dec, ↓boolK_and, nf_mk, RGk_end_f, RGk_end_t, RGk_op, RGk_guard, opK_to, evN, evCallN, grow_mk, feet_f, feet_t, foot_mk, stepK_mk, stepK_v, stepK_no, guardG_t, guardG_f, guardG_no, condG_b, evT, Opd.ev, get_hit, get_next, app_to, app_no, app_up, app_skip, app_skipn, know_mk, knowO_t, knowO_c, envFrom, reserve, keeps, LOp.isNew, State.prune, cellsQ, cellsT, AV.leaf, Heap.at, evLoad_ptr, evLoad_dptr, loadO_vec, loadO_dvec1, stepK_load_map, idx_I, idx_W, rowW, set_rowW, app_rowW, app_rowW0, rep_rowW0, rowB, set_rowB, rep_rowB, rowN, lens_W, lensA_W, scal_rowW, default_W, w_or, w_and, w_andNot, w_and1, w_shl, w_shl1, w_shr, w_sub1, w_neg, w_add, w_bit, w_eq0, w_eq1, w_eq, Bool.decide_eq_true, idx_Rat, idx_Loc, idx_Act, idx_Step, idx_Stamp, stepK_idx_ref, evStore_ptr, storeO_vec, stepK_store_map1, loadDT_f, rowI, RatG.row, LocG.row, ActG.row, StepG.row, StampG.row, ActG.av, ActG.eta, RatG.eta, LocG.eta, beq_true, beq_false, loadDT_t, set_rowI, app_rowI, rep_rowI, set_rowRat, app_rowRat, rep_rowRat, set_rowLoc, app_rowLoc, app_rowAct, app_rowStep, List.length_set, List.length_replicate, toNat_cast, Int.reduceToNat, evLen, evAppend, srcOf, Src.all, Src.len, Src.leaf, joinV, drows_rep1, drows_rep2, drows_rep3, drows_rep4, drows_rep5, drows_rep6, drows_rep7, drows_rep8, mkVec, drows, evMk, List.length_map, take_mapF, drop_mapF, List.take_length, List.take_left, List.length_append, Nat.le_add_right, ite_self, List.take_of_length_le, evSlice, intOr, intOpd, Option.isSome_none, Option.isSome_some, Nat.sub_zero, loadQ, loadT, evBin, evUn, evIdxArr_d, evIdxArr_p, binT, binQ, chk, apartF, List.contains_cons, List.contains_nil, Bool.or_false, Bool.false_or, Bool.and_self, resQ, resV, resT, pickV, evCallT, evCall, fnOf, viewsT, isD, HO.drow, viewT, evInt2, evEq, eqV, eqK, eqC1, buildQ, buildT, buildRQ, buildRT, lens_I, lensA_I, lens_Rat, lensA_Rat, lens_Loc, lensA_Loc, lens_Act, lensA_Act, lens_Step, lensA_Step, lens_Stamp, lensA_Stamp, List.mem_cons, List.not_mem_nil, or_false, forall_eq, putRow, dcells, get_nil, RetS, RetF, RetD, AV.frz, AV.frzL, AV.freshP, AV.freshL, DV.less, scal_int, scal_bool, scal_nil, scal_rowI, scal_rowRat, scal_rowStep, Option.some.injEq, AV.tup.injEq, AV.agg.injEq, List.cons.injEq, DV.list.injEq, List.isEmpty_nil, Nat.le_refl, AV.d.injEq, DV.int.injEq, DV.bool.injEq, ↓reduceIte, Nat.reduceEqDiff, Nat.reduceAdd, Nat.reduceBEq, List.length_cons, List.length_nil, List.replicate_succ, List.replicate_zero, List.nil_append, List.cons_append, List.append_nil, List.foldl_cons, List.foldl_nil, List.map_cons, List.map_nil, List.all_cons, List.all_nil, List.set_cons_zero, List.set_cons_succ, List.getD_cons_zero, List.getD_cons_succ, List.drop_zero, List.drop_succ_cons, List.take_succ_cons, List.take_zero, List.flatten_cons, List.flatten_nil, Bool.true_and, Bool.and_true, Bool.not_true, Bool.not_false, true_and, and_true, true_or, or_true, Option.bind_some, Option.map_some, decide_true, decide_false, beq_self_eq_true, true_implies, false_implies, implies_true, not_true_eq_false, not_false_eq_true, and_self, Bool.and_false, Bool.false_and, Nat.reduceLT, Nat.reduceLeDiff, List.reverse_cons, List.reverse_nil, Nat.zero_add, Nat.add_zero, Bool.false_eq_true, List.getElem?_cons_zero, Nat.reduceMul, Nat.mul_one, F1, G1, F2, G2, at_Has, hn]
  refine ⟨fun c => ?_, fun c => ?_⟩
  · have c' : i < n := by omega
    refine Loop.fam [0, 1, 2, 7, 8, 14, 15, 19, 20] (fun k : Nat => ⟨[(0, .dptr m.cells 0), (1, .d (.list (r.map rowW) f)), (2, .d (.fn g)), (7, .ref 0 1 0 n true), (8, .d (.int .i64 i)), (14, .d (.int .i64 n)), (15, .d (.int .i64 i)), (19, .d (.int .i64 n)), (20, .d (.int .i64 k))],
      [.dvec 1 ((mkR n (upS p i k)).map rowW)]⟩) (fun k => k ≤ n) (fun k => n - k) 0 [0] (by simp) (by simp) (by simp only [State.can, AV.can, AV.canL, HO.can, canRows, idx, get_hit, get_next, Heap.at, Nat.reduceBEq, ↓reduceIte, Nat.reduceEqDiff, Option.getD_some, Option.map_some, List.map_cons, List.map_nil, List.getD_cons_zero, List.getD_cons_succ]; rfl) (by omega) ?_
    intro k hk
    simp only [↓vck_skip, ↓vck_ret, ↓vck_exit, ↓vck_region, ↓vck_nilq, ↓nilTo_to, nilG_d, nilG_r, ↓vck_seq, ↓vck_cond, ↓vck_block, ↓vck_loop, ↓vckTo_to, ↓thenK_n, ↓thenK_x, ↓thenK_r, ↓blockK_n, ↓blockK_x, ↓blockK_o, ↓blockK_r, ↓regK_to, ↓retK_r, ↓retK_n, ↓loopV_n, ↓loopV_x, ↓loopV_r, ↓famK_n, ↓famK_x, ↓famK_r, ↓boolK_true, ↓boolK_false, ↓boolK_not, ↓boolK_dec, ↓boolK_and, nf_mk, RGk_end_f, RGk_end_t, RGk_op, RGk_guard, opK_to, evN, evCallN, grow_mk, feet_f, feet_t, foot_mk, stepK_mk, stepK_v, stepK_no, guardG_t, guardG_f, guardG_no, condG_b, evT, Opd.ev, get_hit, get_next, app_to, app_no, app_up, app_skip, app_skipn, know_mk, knowO_t, knowO_c, envFrom, reserve, keeps, LOp.isNew, State.prune, cellsQ, cellsT, AV.leaf, Heap.at, evLoad_ptr, evLoad_dptr, loadO_vec, loadO_dvec1, stepK_load_map, idx_I, idx_W, rowW, set_rowW, app_rowW, app_rowW0, rep_rowW0, rowB, set_rowB, rep_rowB, rowN, lens_W, lensA_W, scal_rowW, default_W, w_or, w_and, w_andNot, w_and1, w_shl, w_shl1, w_shr, w_sub1, w_neg, w_add, w_bit, w_eq0, w_eq1, w_eq, Bool.decide_eq_true, idx_Rat, idx_Loc, idx_Act, idx_Step, idx_Stamp, stepK_idx_ref, evStore_ptr, storeO_vec, stepK_store_map1, loadDT_f, rowI, RatG.row, LocG.row, ActG.row, StepG.row, StampG.row, ActG.av, ActG.eta, RatG.eta, LocG.eta, beq_true, beq_false, loadDT_t, set_rowI, app_rowI, rep_rowI, set_rowRat, app_rowRat, rep_rowRat, set_rowLoc, app_rowLoc, app_rowAct, app_rowStep, List.length_set, List.length_replicate, toNat_cast, Int.reduceToNat, evLen, evAppend, srcOf, Src.all, Src.len, Src.leaf, joinV, drows_rep1, drows_rep2, drows_rep3, drows_rep4, drows_rep5, drows_rep6, drows_rep7, drows_rep8, mkVec, drows, evMk, List.length_map, take_mapF, drop_mapF, List.take_length, List.take_left, List.length_append, Nat.le_add_right, ite_self, List.take_of_length_le, evSlice, intOr, intOpd, Option.isSome_none, Option.isSome_some, Nat.sub_zero, loadQ, loadT, evBin, evUn, evIdxArr_d, evIdxArr_p, binT, binQ, chk, apartF, List.contains_cons, List.contains_nil, Bool.or_false, Bool.false_or, Bool.and_self, resQ, resV, resT, pickV, evCallT, evCall, fnOf, viewsT, isD, HO.drow, viewT, evInt2, evEq, eqV, eqK, eqC1, buildQ, buildT, buildRQ, buildRT, lens_I, lensA_I, lens_Rat, lensA_Rat, lens_Loc, lensA_Loc, lens_Act, lensA_Act, lens_Step, lensA_Step, lens_Stamp, lensA_Stamp, List.mem_cons, List.not_mem_nil, or_false, forall_eq, putRow, dcells, get_nil, RetS, RetF, RetD, AV.frz, AV.frzL, AV.freshP, AV.freshL, DV.less, scal_int, scal_bool, scal_nil, scal_rowI, scal_rowRat, scal_rowStep, Option.some.injEq, AV.tup.injEq, AV.agg.injEq, List.cons.injEq, DV.list.injEq, List.isEmpty_nil, Nat.le_refl, AV.d.injEq, DV.int.injEq, DV.bool.injEq, ↓reduceIte, Nat.reduceEqDiff, Nat.reduceAdd, Nat.reduceBEq, List.length_cons, List.length_nil, List.replicate_succ, List.replicate_zero, List.nil_append, List.cons_append, List.append_nil, List.foldl_cons, List.foldl_nil, List.map_cons, List.map_nil, List.all_cons, List.all_nil, List.set_cons_zero, List.set_cons_succ, List.getD_cons_zero, List.getD_cons_succ, List.drop_zero, List.drop_succ_cons, List.take_succ_cons, List.take_zero, List.flatten_cons, List.flatten_nil, Bool.true_and, Bool.and_true, Bool.not_true, Bool.not_false, true_and, and_true, true_or, or_true, Option.bind_some, Option.map_some, decide_true, decide_false, beq_self_eq_true, true_implies, false_implies, implies_true, not_true_eq_false, not_false_eq_true, and_self, Bool.and_false, Bool.false_and, Nat.reduceLT, Nat.reduceLeDiff, List.reverse_cons, List.reverse_nil, Nat.zero_add, Nat.add_zero, Bool.false_eq_true, List.getElem?_cons_zero, Nat.reduceMul, Nat.mul_one, F1, G1, F2, G2, at_Has, hn, MG.cells, at_node2']
    refine ⟨fun c2 => ?_, fun c2 => ?_⟩
    · have g' : k < n := by omega
      rw [wrapU (k := k) (by omega), wrap_succ g' (by omega), hasI_nat]
      simp only [toNat_cast, mkR_len]
      refine ⟨by omega, fun hb => ⟨⟨by omega, by omega⟩, ⟨by omega, by omega⟩, fun hq => ⟨⟨by omega, by omega⟩, c', by omega, ⟨by omega, by omega⟩, c', ?_⟩, fun hq => ?_⟩, fun hb => ?_⟩
      · rw [upS_yes p c' g' h1 (by rw [hp', hb, hq]; rfl)]
        exact FamNext.mk [0] (k + 1) (by simp) (by simp) (by simp only [State.can, AV.can, AV.canL, HO.can, canRows, idx, get_hit, get_next, Heap.at, Nat.reduceBEq, ↓reduceIte, Nat.reduceEqDiff, Option.getD_some, Option.map_some, List.map_cons, List.map_nil, List.getD_cons_zero, List.getD_cons_succ]) (by omega) (by omega)
      · rw [upS_no p (by rw [hp', hb, hq]; rfl)]
        exact FamNext.mk [0] (k + 1) (by simp) (by simp) (by simp only [State.can, AV.can, AV.canL, HO.can, canRows, idx, get_hit, get_next, Heap.at, Nat.reduceBEq, ↓reduceIte, Nat.reduceEqDiff, Option.getD_some, Option.map_some, List.map_cons, List.map_nil, List.getD_cons_zero, List.getD_cons_succ]) (by omega) (by omega)
      · rw [upS_no p (by rw [hp', hb]; rfl)]
        exact FamNext.mk [0] (k + 1) (by simp) (by simp) (by simp only [State.can, AV.can, AV.canL, HO.can, canRows, idx, get_hit, get_next, Heap.at, Nat.reduceBEq, ↓reduceIte, Nat.reduceEqDiff, Option.getD_some, Option.map_some, List.map_cons, List.map_nil, List.getD_cons_zero, List.getD_cons_succ]) (by omega) (by omega)
    · have : k = n := by omega
      subst this
      rw [wrap_succ c' (by unfold maxLen; omega), upS_next]
      exact FamNext.mk [0] (i + 1) (by simp) (by simp) (by simp only [State.can, AV.can, AV.canL, HO.can, canRows, idx, get_hit, get_next, Heap.at, Nat.reduceBEq, ↓reduceIte, Nat.reduceEqDiff, Option.getD_some, Option.map_some, List.map_cons, List.map_nil, List.getD_cons_zero, List.getD_cons_succ]) (by omega) (by omega)
  · have : i = n := by omega
    subst this
    rw [upS_end, ← hp]
    have := frz_end (l := whereG m.nodes q r) (n := i) (by simp [whereG, mkR_len, hn])
    unfold whereG at this
    rw [hn] at this
    unfold whereG
    rw [hn]
    exact this
theorem body_power_model_where {T : Tab} {n1 n_power_apart n_power_model_poloc_1 : Nat} (k1 : Knows T n1 sp_Has) (k2 : Knows T n_power_apart (sp_node2 apartQ)) (k3 : Knows T n_power_model_poloc_1 (sp_node2 locQ)) :
    (sp_where (qs2 n_power_apart n_power_model_poloc_1)).Body T V_power_model_where (L_power_model_where n1) R_power_model_where := by
  rintro ⟨m, r, f, g⟩
  simp only [sp_where, qs2]
  split
  · rename_i q hh
    split at hh
    · rename_i e; cases hh; rw [e]; exact where_body k1 k2 m r f
    · split at hh
      · rename_i e; cases hh; rw [e]; exact where_body k1 k3 m r f
      · cases hh
  · trivial

/-! ### ext, poloc -/
def sp_ext : Sp := ⟨MG × List W × Bool, fun x => [.dptr x.1.cells 0, .d (.list (x.2.1.map rowW) x.2.2)],
  fun x => .data (x.2.1.length ≤ 64 ∧ x.2.1.length ≤ x.1.nodes.length) (.d (.list ((whereG x.1.nodes apartQ x.2.1).map rowW) false)) false⟩
theorem at_ext (m : MG) (r : List W) (f : Bool) : sp_ext.at [.dptr m.cells 0, .d (.list (r.map rowW) f)] = .data (r.length ≤ 64 ∧ r.length ≤ m.nodes.length) (.d (.list ((whereG m.nodes apartQ r).map rowW) false)) false :=
  Sp.at_enc (s := sp_ext) (fun x y h => by
    obtain ⟨a, b, c⟩ := x; obtain ⟨a', b', c'⟩ := y
    simp only [sp_ext, List.cons.injEq, AV.dptr.injEq, AV.d.injEq, DV.list.injEq, and_true] at h
    rw [MG.cells_inj _ _ h.1, rows_inj rowW_inj h.2.1, h.2.2]) (m, r, f)
theorem body_power_model_ext {T : Tab} {n1 n2 n_power_apart n_power_model_poloc_1 : Nat} (k1 : Knows T n1 (sp_where (qs2 n_power_apart n_power_model_poloc_1))) (e1 : qs2 n_power_apart n_power_model_poloc_1 n2 = some apartQ) :
    sp_ext.Body T V_power_model_ext (L_power_model_ext n1 n2) R_power_model_ext := by
  have F1 := k1.F; have G1 := k1.G
  rintro ⟨m, r, f⟩ ⟨h1, h2⟩
  refine ⟨rfl, ?_⟩
  unfold V_power_model_ext L_power_model_ext R_power_model_ext
  simp only [↓vck_skip, ↓vck_ret, ↓vck_exit, ↓vck_region, ↓vck_nilq, ↓nilTo_to, nilG_d, nilG_r, ↓vck_seq, ↓vck_cond, ↓vck_block, ↓vck_loop, ↓vckTo_to, ↓thenK_n, ↓thenK_x, ↓thenK_r, ↓blockK_n, ↓blockK_x, ↓blockK_o, ↓blockK_r, ↓regK_to, ↓retK_r, ↓retK_n, ↓loopV_n, ↓loopV_x, ↓loopV_r, ↓famK_n, ↓famK_x, ↓famK_r, ↓boolK_true, ↓boolK_false, ↓boolK_not, ↓boolK_dec, ↓boolK_and, nf_mk, RGk_end_f, RGk_end_t, RGk_op, RGk_guard, opK_to, evN, evCallN, grow_mk, feet_f, feet_t, foot_mk, stepK_mk, stepK_v, stepK_no, guardG_t, guardG_f, guardG_no, condG_b, evT, Opd.ev, get_hit, get_next, app_to, app_no, app_up, app_skip, app_skipn, know_mk, knowO_t, knowO_c, envFrom, reserve, keeps, LOp.isNew, State.prune, cellsQ, cellsT, AV.leaf, Heap.at, evLoad_ptr, evLoad_dptr, loadO_vec, loadO_dvec1, stepK_load_map, idx_I, idx_W, rowW, set_rowW, app_rowW, app_rowW0, rep_rowW0, rowB, set_rowB, rep_rowB, rowN, lens_W, lensA_W, scal_rowW, default_W, w_or, w_and, w_andNot, w_and1, w_shl, w_shl1, w_shr, w_sub1, w_neg, w_add, w_bit, w_eq0, w_eq1, w_eq, Bool.decide_eq_true, idx_Rat, idx_Loc, idx_Act, idx_Step, idx_Stamp, stepK_idx_ref, evStore_ptr, storeO_vec, stepK_store_map1, loadDT_f, rowI, RatG.row, LocG.row, ActG.row, StepG.row, StampG.row, ActG.av, ActG.eta, RatG.eta, LocG.eta, beq_true, beq_false, loadDT_t, set_rowI, app_rowI, rep_rowI, set_rowRat, app_rowRat, rep_rowRat, set_rowLoc, app_rowLoc, app_rowAct, app_rowStep, List.length_set, List.length_replicate, toNat_cast, Int.reduceToNat, evLen, evAppend, srcOf, Src.all, Src.len, Src.leaf, joinV, drows_rep1, drows_rep2, drows_rep3, drows_rep4, drows_rep5, drows_rep6, drows_rep7, drows_rep8, mkVec, drows, evMk, List.length_map, take_mapF, drop_mapF, List.take_length, List.take_left, List.length_append, Nat.le_add_right, ite_self, List.take_of_length_le, evSlice, intOr, intOpd, Option.isSome_none, Option.isSome_some, Nat.sub_zero, loadQ, loadT, evBin, evUn, evIdxArr_d, evIdxArr_p, binT, binQ, chk, apartF, List.contains_cons, List.contains_nil, Bool.or_false, Bool.false_or, Bool.and_self, resQ, resV, resT, pickV, evCallT, evCall, fnOf, viewsT, isD, HO.drow, viewT, evInt2, evEq, eqV, eqK, eqC1, buildQ, buildT, buildRQ, buildRT, lens_I, lensA_I, lens_Rat, lensA_Rat, lens_Loc, lensA_Loc, lens_Act, lensA_Act, lens_Step, lensA_Step, lens_Stamp, lensA_Stamp, List.mem_cons, List.not_mem_nil, or_false, forall_eq, putRow, dcells, get_nil, RetS, RetF, RetD, AV.frz, AV.frzL, AV.freshP, AV.freshL, DV.less, scal_int, scal_bool, scal_nil, scal_rowI, scal_rowRat, scal_rowStep, Option.some.injEq, AV.tup.injEq, AV.agg.injEq, List.cons.injEq, DV.list.injEq, List.isEmpty_nil, Nat.le_refl, AV.d.injEq, DV.int.injEq, DV.bool.injEq, ↓reduceIte, Nat.reduceEqDiff, Nat.reduceAdd, Nat.reduceBEq, List.length_cons, List.length_nil, List.replicate_succ, List.replicate_zero, List.nil_append, List.cons_append, List.append_nil, List.foldl_cons, List.foldl_nil, List.map_cons, List.map_nil, List.all_cons, List.all_nil, List.set_cons_zero, List.set_cons_succ, List.getD_cons_zero, List.getD_cons_succ, List.drop_zero, List.drop_succ_cons, List.take_succ_cons, List.take_zero, List.flatten_cons, List.flatten_nil, Bool.true_and, Bool.and_true, Bool.not_true, Bool.not_false, true_and, and_true, true_or, or_true, Option.bind_some, Option.map_some, decide_true, decide_false, beq_self_eq_true, true_implies, false_implies, implies_true, not_true_eq_false, not_false_eq_true, and_self, Bool.and_false, Bool.false_and, Nat.reduceLT, Nat.reduceLeDiff, List.reverse_cons, List.reverse_nil, Nat.zero_add, Nat.add_zero, Bool.false_eq_true, List.getElem?_cons_zero, Nat.reduceMul, Nat.mul_one, sp_ext, F1, G1, at_where e1]
  exact ⟨h1, h2⟩
def sp_poloc : Sp := ⟨MG, fun m => [.dptr m.cells 0], fun m => .data (m.po.length ≤ 64 ∧ m.po.length ≤ m.nodes.length) (.d (.list ((whereG m.nodes locQ m.po).map rowW) false)) false⟩
theorem at_poloc (m : MG) : sp_poloc.at [.dptr m.cells 0] = .data (m.po.length ≤ 64 ∧ m.po.length ≤ m.nodes.length) (.d (.list ((whereG m.nodes locQ m.po).map rowW) false)) false :=
  Sp.at_enc (s := sp_poloc) (fun (x y : MG) h => by
    simp only [sp_poloc, List.cons.injEq, AV.dptr.injEq, and_true] at h
    exact MG.cells_inj _ _ h) m
theorem body_power_model_poloc {T : Tab} {n1 n2 n_power_apart n_power_model_poloc_1 : Nat} (k1 : Knows T n1 (sp_where (qs2 n_power_apart n_power_model_poloc_1))) (e1 : qs2 n_power_apart n_power_model_poloc_1 n2 = some locQ) :
    sp_poloc.Body T V_power_model_poloc (L_power_model_poloc n1 n2) R_power_model_poloc := by
  have F1 := k1.F; have G1 := k1.G
  rintro (m : MG) ⟨h1, h2⟩
  refine ⟨rfl, ?_⟩
  unfold V_power_model_poloc L_power_model_poloc R_power_model_poloc
  simp only [↓vck_skip, ↓vck_ret, ↓vck_exit, ↓vck_region, ↓vck_nilq, ↓nilTo_to, nilG_d, nilG_r, ↓vck_seq, ↓vck_cond, ↓vck_block, ↓vck_loop, ↓vckTo_to, ↓thenK_n, ↓thenK_x, ↓thenK_r, ↓blockK_n, ↓blockK_x, ↓blockK_o, ↓blockK_r, ↓regK_to, ↓retK_r, ↓retK_n, ↓loopV_n, ↓loopV_x, ↓loopV_r, ↓famK_n, ↓famK_x, ↓famK_r, ↓boolK_true, ↓boolK_false, ↓boolK_not, ↓boolK_dec, ↓boolK_and, nf_mk, RGk_end_f, RGk_end_t, RGk_op, RGk_guard, opK_to, evN, evCallN, grow_mk, feet_f, feet_t, foot_mk, stepK_mk, stepK_v, stepK_no, guardG_t, guardG_f, guardG_no, condG_b, evT, Opd.ev, get_hit, get_next, app_to, app_no, app_up, app_skip, app_skipn, know_mk, knowO_t, knowO_c, envFrom, reserve, keeps, LOp.isNew, State.prune, cellsQ, cellsT, AV.leaf, Heap.at, evLoad_ptr, evLoad_dptr, loadO_vec, loadO_dvec1, stepK_load_map, idx_I, idx_W, rowW, set_rowW, app_rowW, app_rowW0, rep_rowW0, rowB, set_rowB, rep_rowB, rowN, lens_W, lensA_W, scal_rowW, default_W, w_or, w_and, w_andNot, w_and1, w_shl, w_shl1, w_shr, w_sub1, w_neg, w_add, w_bit, w_eq0, w_eq1, w_eq, Bool.decide_eq_true, idx_Rat, idx_Loc, idx_Act, idx_Step, idx_Stamp, stepK_idx_ref, evStore_ptr, storeO_vec, stepK_store_map1, loadDT_f, rowI, RatG.row, LocG.row, ActG.row, StepG.row, StampG.row, ActG.av, ActG.eta, RatG.eta, LocG.eta, beq_true, beq_false, loadDT_t, set_rowI, app_rowI, rep_rowI, set_rowRat, app_rowRat, rep_rowRat, set_rowLoc, app_rowLoc, app_rowAct, app_rowStep, List.length_set, List.length_replicate, toNat_cast, Int.reduceToNat, evLen, evAppend, srcOf, Src.all, Src.len, Src.leaf, joinV, drows_rep1, drows_rep2, drows_rep3, drows_rep4, drows_rep5, drows_rep6, drows_rep7, drows_rep8, mkVec, drows, evMk, List.length_map, take_mapF, drop_mapF, List.take_length, List.take_left, List.length_append, Nat.le_add_right, ite_self, List.take_of_length_le, evSlice, intOr, intOpd, Option.isSome_none, Option.isSome_some, Nat.sub_zero, loadQ, loadT, evBin, evUn, evIdxArr_d, evIdxArr_p, binT, binQ, chk, apartF, List.contains_cons, List.contains_nil, Bool.or_false, Bool.false_or, Bool.and_self, resQ, resV, resT, pickV, evCallT, evCall, fnOf, viewsT, isD, HO.drow, viewT, evInt2, evEq, eqV, eqK, eqC1, buildQ, buildT, buildRQ, buildRT, lens_I, lensA_I, lens_Rat, lensA_Rat, lens_Loc, lensA_Loc, lens_Act, lensA_Act, lens_Step, lensA_Step, lens_Stamp, lensA_Stamp, List.mem_cons, List.not_mem_nil, or_false, forall_eq, putRow, dcells, get_nil, RetS, RetF, RetD, AV.frz, AV.frzL, AV.freshP, AV.freshL, DV.less, scal_int, scal_bool, scal_nil, scal_rowI, scal_rowRat, scal_rowStep, Option.some.injEq, AV.tup.injEq, AV.agg.injEq, List.cons.injEq, DV.list.injEq, List.isEmpty_nil, Nat.le_refl, AV.d.injEq, DV.int.injEq, DV.bool.injEq, ↓reduceIte, Nat.reduceEqDiff, Nat.reduceAdd, Nat.reduceBEq, List.length_cons, List.length_nil, List.replicate_succ, List.replicate_zero, List.nil_append, List.cons_append, List.append_nil, List.foldl_cons, List.foldl_nil, List.map_cons, List.map_nil, List.all_cons, List.all_nil, List.set_cons_zero, List.set_cons_succ, List.getD_cons_zero, List.getD_cons_succ, List.drop_zero, List.drop_succ_cons, List.take_succ_cons, List.take_zero, List.flatten_cons, List.flatten_nil, Bool.true_and, Bool.and_true, Bool.not_true, Bool.not_false, true_and, and_true, true_or, or_true, Option.bind_some, Option.map_some, decide_true, decide_false, beq_self_eq_true, true_implies, false_implies, implies_true, not_true_eq_false, not_false_eq_true, and_self, Bool.and_false, Bool.false_and, Nat.reduceLT, Nat.reduceLeDiff, List.reverse_cons, List.reverse_nil, Nat.zero_add, Nat.add_zero, Bool.false_eq_true, List.getElem?_cons_zero, Nat.reduceMul, Nat.mul_one, sp_poloc, F1, G1, at_where e1, cells_len, cells_2]
  exact ⟨h1, h2⟩

/-! ### all -/
/-- A list of relations, as rows. -/
def rowL (x : List W × Bool) : List DV := [.list (x.1.map rowW) x.2]
def orG (l : List (List W × Bool)) : List W := l.foldl (fun o x => lay2 qOr o x.1) []
def sp_pall : Sp := ⟨List (List W × Bool) × Bool, fun x => [.d (.list (x.1.map rowL) x.2)], fun x => .data (x.1.length ≤ 64 ∧ ∀ r ∈ x.1, r.1.length ≤ 64) (.d (.list ((orG x.1).map rowW) false)) false⟩
theorem rowL_inj (x y : List W × Bool) (h : rowL x = rowL y) : x = y := by
  obtain ⟨a, b⟩ := x; obtain ⟨c, d⟩ := y
  simp only [rowL, List.cons.injEq, DV.list.injEq, and_true] at h
  rw [rows_inj rowW_inj h.1, h.2]
theorem at_pall (l : List (List W × Bool)) (f : Bool) : sp_pall.at [.d (.list (l.map rowL) f)] = .data (l.length ≤ 64 ∧ ∀ r ∈ l, r.1.length ≤ 64) (.d (.list ((orG l).map rowW) false)) false :=
  Sp.at_enc (s := sp_pall) (fun x y h => by
    obtain ⟨a, b⟩ := x; obtain ⟨a', b'⟩ := y
    simp only [sp_pall, List.cons.injEq, AV.d.injEq, DV.list.injEq, and_true] at h
    rw [rows_inj rowL_inj h.1, h.2]) (l, f)
theorem at_lay2n (q : Bool → Bool → Bool) (B : List W) (e f : Bool) : (sp_lay2 q).at [.d (.list [] e), .d (.list (B.map rowW) f)] = .rows (0 ≤ maxLen ∧ B.length ≤ maxLen) 1 ((lay2 q [] B).map rowW) := at_lay2 q [] B e f
theorem idx_rowL {l : List (List W × Bool)} {full : Bool} {kd : IntKind} {n : Int} {k : Delta → Prop} : stepK (evIdxAddr 1 (.d (.list (l.map rowL) full)) (.d (.int kd n))) k ↔ (0 ≤ n ∧ n < l.length) ∧ k ⟨.dptr (rowL (l.getD n.toNat ([], false))) 0, [], []⟩ := by
  exact stepK_idx_map (f := rowL) (fun _ => rfl)
theorem rowL_len (x : List W × Bool) : (rowL x).length = 1 := rfl
theorem rowL_get (x : List W × Bool) : (rowL x).getD 0 DV.nilp = .list (x.1.map rowW) x.2 := rfl
theorem orG_next {l : List (List W × Bool)} {i : Nat} (h : i < l.length) : lay2 qOr (orG (l.take i)) (l.getD i ([], false)).1 = orG (l.take (i + 1)) := by
  rw [List.take_succ_eq_append_getElem h, orG, orG, List.foldl_append]
  rw [getD_lt h]; rfl
theorem lay2_len {q : Bool → Bool → Bool} {A B : List W} : (lay2 q A B).length = mxR A B := mkR_len
theorem orG_len (l : List (List W × Bool)) : (orG l).length ≤ 64 := by
  unfold orG
  suffices h : ∀ (l : List (List W × Bool)) (o : List W), o.length ≤ 64 → (l.foldl (fun o x => lay2 qOr o x.1) o).length ≤ 64 from h l [] (by simp)
  intro l
  induction l with
  | nil => exact fun o h => h
  | cons x l ih => exact fun o _ => ih _ (by rw [lay2_len]; exact mxR_le _ _)
theorem body_power_all {T : Tab} {n1 : Nat} (k1 : Knows T n1 (sp_lay2 qOr).dat) : sp_pall.Body T V_power_all (L_power_all n1) R_power_all := by
  have F1 := k1.F; have G1 := k1.G
  rintro ⟨l, f⟩ ⟨h1, h2⟩
  have h1 : l.length ≤ 64 := h1
  have h2 : ∀ r ∈ l, r.1.length ≤ 64 := h2
  refine ⟨rfl, ?_⟩
  unfold V_power_all L_power_all R_power_all
  simp only [↓vck_skip, ↓vck_ret, ↓vck_exit, ↓vck_region, ↓vck_nilq, ↓nilTo_to, nilG_d, nilG_r, ↓vck_seq, ↓vck_cond, ↓vck_block, ↓vck_loop, ↓vckTo_to, ↓thenK_n, ↓thenK_x, ↓thenK_r, ↓blockK_n, ↓blockK_x, ↓blockK_o, ↓blockK_r, ↓regK_to, ↓retK_r, ↓retK_n, ↓loopV_n, ↓loopV_x, ↓loopV_r, ↓famK_n, ↓famK_x, ↓famK_r, ↓boolK_true, ↓boolK_false, ↓boolK_not, ↓boolK_dec, ↓boolK_and, nf_mk, RGk_end_f, RGk_end_t, RGk_op, RGk_guard, opK_to, evN, evCallN, grow_mk, feet_f, feet_t, foot_mk, stepK_mk, stepK_v, stepK_no, guardG_t, guardG_f, guardG_no, condG_b, evT, Opd.ev, get_hit, get_next, app_to, app_no, app_up, app_skip, app_skipn, know_mk, knowO_t, knowO_c, envFrom, reserve, keeps, LOp.isNew, State.prune, cellsQ, cellsT, AV.leaf, Heap.at, evLoad_ptr, evLoad_dptr, loadO_vec, loadO_dvec1, stepK_load_map, idx_I, idx_W, rowW, set_rowW, app_rowW, app_rowW0, rep_rowW0, rowB, set_rowB, rep_rowB, rowN, lens_W, lensA_W, scal_rowW, default_W, w_or, w_and, w_andNot, w_and1, w_shl, w_shl1, w_shr, w_sub1, w_neg, w_add, w_bit, w_eq0, w_eq1, w_eq, Bool.decide_eq_true, idx_Rat, idx_Loc, idx_Act, idx_Step, idx_Stamp, stepK_idx_ref, evStore_ptr, storeO_vec, stepK_store_map1, loadDT_f, rowI, RatG.row, LocG.row, ActG.row, StepG.row, StampG.row, ActG.av, ActG.eta, RatG.eta, LocG.eta, beq_true, beq_false, loadDT_t, set_rowI, app_rowI, rep_rowI, set_rowRat, app_rowRat, rep_rowRat, set_rowLoc, app_rowLoc, app_rowAct, app_rowStep, List.length_set, List.length_replicate, toNat_cast, Int.reduceToNat, evLen, evAppend, srcOf, Src.all, Src.len, Src.leaf, joinV, drows_rep1, drows_rep2, drows_rep3, drows_rep4, drows_rep5, drows_rep6, drows_rep7, drows_rep8, mkVec, drows, evMk, List.length_map, take_mapF, drop_mapF, List.take_length, List.take_left, List.length_append, Nat.le_add_right, ite_self, List.take_of_length_le, evSlice, intOr, intOpd, Option.isSome_none, Option.isSome_some, Nat.sub_zero, loadQ, loadT, evBin, evUn, evIdxArr_d, evIdxArr_p, binT, binQ, chk, apartF, List.contains_cons, List.contains_nil, Bool.or_false, Bool.false_or, Bool.and_self, resQ, resV, resT, pickV, evCallT, evCall, fnOf, viewsT, isD, HO.drow, viewT, evInt2, evEq, eqV, eqK, eqC1, buildQ, buildT, buildRQ, buildRT, lens_I, lensA_I, lens_Rat, lensA_Rat, lens_Loc, lensA_Loc, lens_Act, lensA_Act, lens_Step, lensA_Step, lens_Stamp, lensA_Stamp, List.mem_cons, List.not_mem_nil, or_false, forall_eq, putRow, dcells, get_nil, RetS, RetF, RetD, AV.frz, AV.frzL, AV.freshP, AV.freshL, DV.less, scal_int, scal_bool, scal_nil, scal_rowI, scal_rowRat, scal_rowStep, Option.some.injEq, AV.tup.injEq, AV.agg.injEq, List.cons.injEq, DV.list.injEq, List.isEmpty_nil, Nat.le_refl, AV.d.injEq, DV.int.injEq, DV.bool.injEq, ↓reduceIte, Nat.reduceEqDiff, Nat.reduceAdd, Nat.reduceBEq, List.length_cons, List.length_nil, List.replicate_succ, List.replicate_zero, List.nil_append, List.cons_append, List.append_nil, List.foldl_cons, List.foldl_nil, List.map_cons, List.map_nil, List.all_cons, List.all_nil, List.set_cons_zero, List.set_cons_succ, List.getD_cons_zero, List.getD_cons_succ, List.drop_zero, List.drop_succ_cons, List.take_succ_cons, List.take_zero, List.flatten_cons, List.flatten_nil, Bool.true_and, Bool.and_true, Bool.not_true, Bool.not_false, true_and, and_true, true_or, or_true, Option.bind_some, Option.map_some, decide_true, decide_false, beq_self_eq_true, true_implies, false_implies, implies_true, not_true_eq_false, not_false_eq_true, and_self, Bool.and_false, Bool.false_and, Nat.reduceLT, Nat.reduceLeDiff, List.reverse_cons, List.reverse_nil, Nat.zero_add, Nat.add_zero, Bool.false_eq_true, List.getElem?_cons_zero, Nat.reduceMul, Nat.mul_one, sp_pall, F1, G1, Sp.at_dat, at_lay2, at_lay2n, SpecR.dat_rows, idx_rowL, List.length_map]
  refine Loop.fam [6, 7, 8, 3] (fun i : Nat => ⟨[(6, .d (.list (l.map rowL) f)), (7, .d (.int .i64 l.length)), (8, .d (.int .i64 i)), (3, .d (.list ((orG (l.take i)).map rowW) (decide (i = 0))))], []⟩) (fun i => i ≤ l.length) (fun i => l.length - i) 0 [] (by simp) (by simp)
    (by simp only [State.can, AV.can, AV.canL, HO.can, canRows, idx, get_hit, get_next, Heap.at, Nat.reduceBEq, ↓reduceIte, Nat.reduceEqDiff, Option.getD_some, Option.map_some, List.map_cons, List.map_nil, List.getD_cons_zero, List.getD_cons_succ]; rfl) (by omega) ?_
  intro i hi
  simp only [↓vck_skip, ↓vck_ret, ↓vck_exit, ↓vck_region, ↓vck_nilq, ↓nilTo_to, nilG_d, nilG_r, ↓vck_seq, ↓vck_cond, ↓vck_block, ↓vck_loop, ↓vckTo_to, ↓thenK_n, ↓thenK_x, ↓thenK_r, ↓blockK_n, ↓blockK_x, ↓blockK_o, ↓blockK_r, ↓regK_to, ↓retK_r, ↓retK_n, ↓loopV_n, ↓loopV_x, ↓loopV_r, ↓famK_n, ↓famK_x, ↓famK_r, ↓boolK_true, ↓boolK_false, ↓boolK_not, ↓boolK_dec, ↓boolK_and, nf_mk, RGk_end_f, RGk_end_t, RGk_op, RGk_guard, opK_to, evN, evCallN, grow_mk, feet_f, feet_t, foot_mk, stepK_mk, stepK_v, stepK_no, guardG_t, guardG_f, guardG_no, condG_b, evT, Opd.ev, get_hit, get_next, app_to, app_no, app_up, app_skip, app_skipn, know_mk, knowO_t, knowO_c, envFrom, reserve, keeps, LOp.isNew, State.prune, cellsQ, cellsT, AV.leaf, Heap.at, evLoad_ptr, evLoad_dptr, loadO_vec, loadO_dvec1, stepK_load_map, idx_I, idx_W, rowW, set_rowW, app_rowW, app_rowW0, rep_rowW0, rowB, set_rowB, rep_rowB, rowN, lens_W, lensA_W, scal_rowW, default_W, w_or, w_and, w_andNot, w_and1, w_shl, w_shl1, w_shr, w_sub1, w_neg, w_add, w_bit, w_eq0, w_eq1, w_eq, Bool.decide_eq_true, idx_Rat, idx_Loc, idx_Act, idx_Step, idx_Stamp, stepK_idx_ref, evStore_ptr, storeO_vec, stepK_store_map1, loadDT_f, rowI, RatG.row, LocG.row, ActG.row, StepG.row, StampG.row, ActG.av, ActG.eta, RatG.eta, LocG.eta, beq_true, beq_false, loadDT_t, set_rowI, app_rowI, rep_rowI, set_rowRat, app_rowRat, rep_rowRat, set_rowLoc, app_rowLoc, app_rowAct, app_rowStep, List.length_set, List.length_replicate, toNat_cast, Int.reduceToNat, evLen, evAppend, srcOf, Src.all, Src.len, Src.leaf, joinV, drows_rep1, drows_rep2, drows_rep3, drows_rep4, drows_rep5, drows_rep6, drows_rep7, drows_rep8, mkVec, drows, evMk, List.length_map, take_mapF, drop_mapF, List.take_length, List.take_left, List.length_append, Nat.le_add_right, ite_self, List.take_of_length_le, evSlice, intOr, intOpd, Option.isSome_none, Option.isSome_some, Nat.sub_zero, loadQ, loadT, evBin, evUn, evIdxArr_d, evIdxArr_p, binT, binQ, chk, apartF, List.contains_cons, List.contains_nil, Bool.or_false, Bool.false_or, Bool.and_self, resQ, resV, resT, pickV, evCallT, evCall, fnOf, viewsT, isD, HO.drow, viewT, evInt2, evEq, eqV, eqK, eqC1, buildQ, buildT, buildRQ, buildRT, lens_I, lensA_I, lens_Rat, lensA_Rat, lens_Loc, lensA_Loc, lens_Act, lensA_Act, lens_Step, lensA_Step, lens_Stamp, lensA_Stamp, List.mem_cons, List.not_mem_nil, or_false, forall_eq, putRow, dcells, get_nil, RetS, RetF, RetD, AV.frz, AV.frzL, AV.freshP, AV.freshL, DV.less, scal_int, scal_bool, scal_nil, scal_rowI, scal_rowRat, scal_rowStep, Option.some.injEq, AV.tup.injEq, AV.agg.injEq, List.cons.injEq, DV.list.injEq, List.isEmpty_nil, Nat.le_refl, AV.d.injEq, DV.int.injEq, DV.bool.injEq, ↓reduceIte, Nat.reduceEqDiff, Nat.reduceAdd, Nat.reduceBEq, List.length_cons, List.length_nil, List.replicate_succ, List.replicate_zero, List.nil_append, List.cons_append, List.append_nil, List.foldl_cons, List.foldl_nil, List.map_cons, List.map_nil, List.all_cons, List.all_nil, List.set_cons_zero, List.set_cons_succ, List.getD_cons_zero, List.getD_cons_succ, List.drop_zero, List.drop_succ_cons, List.take_succ_cons, List.take_zero, List.flatten_cons, List.flatten_nil, Bool.true_and, Bool.and_true, Bool.not_true, Bool.not_false, true_and, and_true, true_or, or_true, Option.bind_some, Option.map_some, decide_true, decide_false, beq_self_eq_true, true_implies, false_implies, implies_true, not_true_eq_false, not_false_eq_true, and_self, Bool.and_false, Bool.false_and, Nat.reduceLT, Nat.reduceLeDiff, List.reverse_cons, List.reverse_nil, Nat.zero_add, Nat.add_zero, Bool.false_eq_true, List.getElem?_cons_zero, Nat.reduceMul, Nat.mul_one, F1, G1, Sp.at_dat, at_lay2, at_lay2n, SpecR.dat_rows, idx_rowL, rowL_len, rowL_get]
  refine ⟨fun c => ?_, fun c => ?_⟩
  · have c' : i < l.length := by omega
    have e1 := orG_len (l.take i)
    have e2 : (l.getD i ([], false)).1.length ≤ 64 := by rw [getD_lt c']; exact h2 _ (List.getElem_mem c')
    rw [orG_next c', wrap_succ c' (by unfold maxLen; omega)]
    refine ⟨⟨by omega, by omega⟩, ⟨by unfold maxLen; omega, by unfold maxLen; omega⟩, FamNext.mk [] (i + 1) (by simp) (by simp) ?_ (by omega) (by omega)⟩
    rw [show decide (i + 1 = 0) = false from rfl]
    simp only [State.can, AV.can, AV.canL, HO.can, canRows, idx, get_hit, get_next, Heap.at, Nat.reduceBEq, ↓reduceIte, Nat.reduceEqDiff, Option.getD_some, Option.map_some, List.map_cons, List.map_nil, List.getD_cons_zero, List.getD_cons_succ]
  · have : i = l.length := by omega
    subst this
    rw [List.take_length]
end Go.Ago
