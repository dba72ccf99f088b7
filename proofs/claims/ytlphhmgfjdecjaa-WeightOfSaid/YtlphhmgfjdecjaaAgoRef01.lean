/- The contracts of the reference of layer 1: those of package rat. Conditions: none. -/
import Derived.Test.YtlphhmgfjdecjaaAgoRat
import Derived.Test.YtlphhmgfjdecjaaAgoLowRef01
set_option maxRecDepth 100000
set_option linter.unusedSimpArgs false
set_option linter.unusedVariables false
namespace Go.Ago

theorem cmp_swap (a b c d : Int) : rat_cmp c d a b = - rat_cmp a b c d := by
  unfold rat_cmp
  rw [Bool.and_comm]
  split
  · unfold sgn
    split <;> split <;> (try split) <;> (try split) <;> omega
  · rfl

theorem cmp_vals (a b c d : Int) : rat_cmp a b c d = -1 ∨ rat_cmp a b c d = 0 ∨ rat_cmp a b c d = 1 := by
  unfold rat_cmp sgn
  split
  · split
    · exact .inl rfl
    · split
      · exact .inr (.inr rfl)
      · exact .inr (.inl rfl)
  · exact .inr (.inl rfl)

/-- The first number by which a whole multiple comes out. -/
theorem least_first {a b d : Int} (hb : 0 < b) (hd : 0 < d) (h0 : b ∣ a * d) (hmin : ∀ e, 0 < e → e < d → ¬ b ∣ a * e) : d = b.tdiv (gcdI a b) ∧ (a * d).tdiv b = a.tdiv (gcdI a b) := by
  have g0 := gcdI_pos (a := a) (b := b) (by omega)
  have ha : gcdI a b ∣ a := Int.ofNat_dvd_left.2 (Nat.gcd_dvd_left _ _)
  have hbd : gcdI a b ∣ b := Int.ofNat_dvd_left.2 (Nat.gcd_dvd_right _ _)
  have hg : gcdI a b = (Nat.gcd a.natAbs b.natAbs : Nat) := rfl
  generalize gcdI a b = g at *
  obtain ⟨A, rfl⟩ := ha
  obtain ⟨B, rfl⟩ := hbd
  have hB : 0 < B := by
    by_cases h : 0 < B
    · exact h
    · have := Int.mul_nonpos_of_nonneg_of_nonpos (Int.le_of_lt g0) (show B ≤ 0 by omega); omega
  have hco : Nat.gcd A.natAbs B.natAbs = 1 := by
    rw [Int.natAbs_mul, Int.natAbs_mul, Nat.gcd_mul_left] at hg
    have hgn : (g.natAbs : Int) = g := by omega
    have : g.natAbs * Nat.gcd A.natAbs B.natAbs = g.natAbs * 1 := by
      have : ((g.natAbs * Nat.gcd A.natAbs B.natAbs : Nat) : Int) = (g.natAbs : Nat) := by rw [← hg, hgn]
      omega
    exact Nat.eq_of_mul_eq_mul_left (by omega) this
  have hBd : B ∣ d := by
    rw [Int.mul_assoc] at h0
    have h1 : B ∣ A * d := Int.dvd_of_mul_dvd_mul_left (by omega) h0
    have h2 := Int.natAbs_dvd_natAbs.2 h1
    rw [Int.natAbs_mul] at h2
    exact Int.natAbs_dvd_natAbs.1 (Nat.Coprime.dvd_of_dvd_mul_left (by rw [Nat.Coprime, Nat.gcd_comm]; exact hco) h2)
  have hdB : d = B := by
    have h1 := Int.le_of_dvd hd hBd
    by_cases h2 : B < d
    · exact absurd ⟨A, by rw [Int.mul_assoc, Int.mul_assoc, Int.mul_comm A B]⟩ (hmin B hB h2)
    · omega
  subst hdB
  refine ⟨by rw [Int.mul_tdiv_cancel_left _ (by omega)], ?_⟩
  rw [Int.mul_tdiv_cancel_left _ (by omega), show g * A * d = A * (g * d) by rw [Int.mul_comm g A, Int.mul_assoc], Int.mul_tdiv_cancel _ (by omega)]

theorem body_ref01_Right {T : Tab} : sp_rat_Right.Body T V_ref01_Right L_ref01_Right R_ref01_Right := by
  rintro ⟨a, b⟩ -
  refine .inl ⟨rfl, ?_⟩
  unfold V_ref01_Right L_ref01_Right R_ref01_Right
  simp only [↓vck_skip, ↓vck_ret, ↓vck_exit, ↓vck_region, ↓vck_nilq, ↓nilTo_to, nilG_d, nilG_r, ↓vck_seq, ↓vck_cond, ↓vck_block, ↓vck_loop, ↓vckTo_to, ↓thenK_n, ↓thenK_x, ↓thenK_r, ↓blockK_n, ↓blockK_x, ↓blockK_o, ↓blockK_r, ↓regK_to, ↓retK_r, ↓retK_n, ↓loopV_n, ↓loopV_x, ↓loopV_r, ↓famK_n, ↓famK_x, ↓famK_r, ↓boolK_true, ↓boolK_false, ↓boolK_not, ↓boolK_dec, ↓boolK_and, nf_mk, RGk_end_f, RGk_end_t, RGk_op, RGk_guard, opK_to, feet_f, feet_t, foot_mk, stepK_mk, stepK_v, stepK_no, guardG_t, guardG_f, guardG_no, condG_b, evT, Opd.ev, get_hit, get_next, app_to, app_no, app_up, app_skip, app_skipn, know_mk, knowO_t, knowO_c, envFrom, reserve, keeps, LOp.isNew, State.prune, cellsQ, cellsT, AV.leaf, Heap.at, evLoad_ptr, evLoad_dptr, loadO_vec, loadO_dvec1, stepK_load_map, idx_I, idx_U, idx_Rat, idx_Loc, idx_Act, idx_Step, idx_Stamp, stepK_idx_ref, evStore_ptr, storeO_vec, stepK_store_map1, loadDT_f, rowI, rowU, RatG.row, LocG.row, ActG.row, StepG.row, StampG.row, ActG.av, ActG.eta, RatG.eta, LocG.eta, beq_true, beq_false, loadDT_t, set_rowI, set_rowU, app_rowI, app_rowU, rep_rowI, rep_rowU, set_rowRat, app_rowRat, rep_rowRat, set_rowLoc, app_rowLoc, app_rowAct, app_rowStep, List.length_set, List.length_replicate, Int.toNat_natCast, Int.reduceToNat, evLen, evAppend, srcOf, Src.all, Src.len, Src.leaf, joinV, drows_rep1, drows_rep2, drows_rep3, drows_rep4, drows_rep5, drows_rep6, drows_rep7, drows_rep8, mkVec, drows, evMk, List.length_map, take_map_len, take_map_ge, loadQ, loadT, evBin, evUn, binT, binQ, chk, apartF, List.contains_cons, List.contains_nil, Bool.or_false, Bool.false_or, Bool.and_self, resQ, resV, resT, pickV, evCallT, evCall, fnOf, viewsT, viewT, evInt2, evEq, eqV, eqK, eqC1, buildQ, buildT, buildRQ, buildRT, lens_I, lensA_I, lens_U, lensA_U, lens_Rat, lensA_Rat, lens_Loc, lensA_Loc, lens_Act, lensA_Act, lens_Step, lensA_Step, lens_Stamp, lensA_Stamp, List.mem_cons, List.not_mem_nil, or_false, forall_eq, putRow, dcells, get_nil, RetS, RetF, RetD, AV.frz, AV.frzL, AV.freshP, AV.freshL, DV.less, scal_int, scal_bool, scal_nil, scal_rowI, scal_rowU, scal_rowRat, scal_rowStep, Option.some.injEq, AV.tup.injEq, AV.agg.injEq, List.cons.injEq, DV.list.injEq, List.isEmpty_nil, Nat.le_refl, AV.d.injEq, DV.int.injEq, DV.bool.injEq, ↓reduceIte, Nat.reduceEqDiff, Nat.reduceAdd, Nat.reduceBEq, List.length_cons, List.length_nil, List.replicate_succ, List.replicate_zero, List.nil_append, List.cons_append, List.append_nil, List.foldl_cons, List.foldl_nil, List.map_cons, List.map_nil, List.all_cons, List.all_nil, List.set_cons_zero, List.set_cons_succ, List.getD_cons_zero, List.getD_cons_succ, List.drop_zero, List.drop_succ_cons, List.take_succ_cons, List.take_zero, List.flatten_cons, List.flatten_nil, Bool.true_and, Bool.and_true, Bool.not_true, Bool.not_false, true_and, and_true, true_or, or_true, Option.bind_some, Option.map_some, decide_true, decide_false, beq_self_eq_true, true_implies, false_implies, implies_true, not_true_eq_false, not_false_eq_true, and_self, Bool.and_false, Bool.false_and, Nat.reduceLT, Nat.reduceLeDiff, List.reverse_cons, List.reverse_nil, Nat.zero_add, Nat.add_zero, Bool.false_eq_true, List.getElem?_cons_zero, sp_rat_Right]
  simp only [rat_right]
  refine ⟨fun h1 => ⟨fun h2 => ⟨fun h3 => ?_, fun h3 => ?_⟩, fun h2 => ?_⟩, fun h1 => ?_⟩ <;> simp [*]

theorem body_ref01_Cmp {T : Tab} {n1 : Nat} (k1 : Knows T n1 sp_rat_Right) : sp_rat_Cmp.Body T V_ref01_Cmp (L_ref01_Cmp n1) R_ref01_Cmp := by
  have F1 := k1.F; have G1 := k1.G
  rintro ⟨a, b, c, d⟩ -
  refine .inl ⟨rfl, ?_⟩
  unfold V_ref01_Cmp L_ref01_Cmp R_ref01_Cmp
  simp only [↓vck_skip, ↓vck_ret, ↓vck_exit, ↓vck_region, ↓vck_nilq, ↓nilTo_to, nilG_d, nilG_r, ↓vck_seq, ↓vck_cond, ↓vck_block, ↓vck_loop, ↓vckTo_to, ↓thenK_n, ↓thenK_x, ↓thenK_r, ↓blockK_n, ↓blockK_x, ↓blockK_o, ↓blockK_r, ↓regK_to, ↓retK_r, ↓retK_n, ↓loopV_n, ↓loopV_x, ↓loopV_r, ↓famK_n, ↓famK_x, ↓famK_r, ↓boolK_true, ↓boolK_false, ↓boolK_not, ↓boolK_dec, ↓boolK_and, nf_mk, RGk_end_f, RGk_end_t, RGk_op, RGk_guard, opK_to, feet_f, feet_t, foot_mk, stepK_mk, stepK_v, stepK_no, guardG_t, guardG_f, guardG_no, condG_b, evT, Opd.ev, get_hit, get_next, app_to, app_no, app_up, app_skip, app_skipn, know_mk, knowO_t, knowO_c, envFrom, reserve, keeps, LOp.isNew, State.prune, cellsQ, cellsT, AV.leaf, Heap.at, evLoad_ptr, evLoad_dptr, loadO_vec, loadO_dvec1, stepK_load_map, idx_I, idx_U, idx_Rat, idx_Loc, idx_Act, idx_Step, idx_Stamp, stepK_idx_ref, evStore_ptr, storeO_vec, stepK_store_map1, loadDT_f, rowI, rowU, RatG.row, LocG.row, ActG.row, StepG.row, StampG.row, ActG.av, ActG.eta, RatG.eta, LocG.eta, beq_true, beq_false, loadDT_t, set_rowI, set_rowU, app_rowI, app_rowU, rep_rowI, rep_rowU, set_rowRat, app_rowRat, rep_rowRat, set_rowLoc, app_rowLoc, app_rowAct, app_rowStep, List.length_set, List.length_replicate, Int.toNat_natCast, Int.reduceToNat, evLen, evAppend, srcOf, Src.all, Src.len, Src.leaf, joinV, drows_rep1, drows_rep2, drows_rep3, drows_rep4, drows_rep5, drows_rep6, drows_rep7, drows_rep8, mkVec, drows, evMk, List.length_map, take_map_len, take_map_ge, loadQ, loadT, evBin, evUn, binT, binQ, chk, apartF, List.contains_cons, List.contains_nil, Bool.or_false, Bool.false_or, Bool.and_self, resQ, resV, resT, pickV, evCallT, evCall, fnOf, viewsT, viewT, evInt2, evEq, eqV, eqK, eqC1, buildQ, buildT, buildRQ, buildRT, lens_I, lensA_I, lens_U, lensA_U, lens_Rat, lensA_Rat, lens_Loc, lensA_Loc, lens_Act, lensA_Act, lens_Step, lensA_Step, lens_Stamp, lensA_Stamp, List.mem_cons, List.not_mem_nil, or_false, forall_eq, putRow, dcells, get_nil, RetS, RetF, RetD, AV.frz, AV.frzL, AV.freshP, AV.freshL, DV.less, scal_int, scal_bool, scal_nil, scal_rowI, scal_rowU, scal_rowRat, scal_rowStep, Option.some.injEq, AV.tup.injEq, AV.agg.injEq, List.cons.injEq, DV.list.injEq, List.isEmpty_nil, Nat.le_refl, AV.d.injEq, DV.int.injEq, DV.bool.injEq, ↓reduceIte, Nat.reduceEqDiff, Nat.reduceAdd, Nat.reduceBEq, List.length_cons, List.length_nil, List.replicate_succ, List.replicate_zero, List.nil_append, List.cons_append, List.append_nil, List.foldl_cons, List.foldl_nil, List.map_cons, List.map_nil, List.all_cons, List.all_nil, List.set_cons_zero, List.set_cons_succ, List.getD_cons_zero, List.getD_cons_succ, List.drop_zero, List.drop_succ_cons, List.take_succ_cons, List.take_zero, List.flatten_cons, List.flatten_nil, Bool.true_and, Bool.and_true, Bool.not_true, Bool.not_false, true_and, and_true, true_or, or_true, Option.bind_some, Option.map_some, decide_true, decide_false, beq_self_eq_true, true_implies, false_implies, implies_true, not_true_eq_false, not_false_eq_true, and_self, Bool.and_false, Bool.false_and, Nat.reduceLT, Nat.reduceLeDiff, List.reverse_cons, List.reverse_nil, Nat.zero_add, Nat.add_zero, Bool.false_eq_true, List.getElem?_cons_zero, sp_rat_Cmp, F1, G1, at_rat_Right]
  refine ⟨fun h1 => ⟨fun h2 => ?_, fun h2 => by simp [rat_cmp, h1, h2]⟩, fun h1 => by simp [rat_cmp, h1]⟩
  obtain ⟨r1, r2, r3, r4⟩ := right_iff.1 h1
  obtain ⟨s1, s2, s3, s4⟩ := right_iff.1 h2
  have e1 := mul_bd r3 r4 s1 s2
  have e2 := mul_bd s3 s4 r1 r2
  simp only [rat_cmp, h1, h2, sgn, Bool.and_self, if_true, wrap_id (n := a * d) (by omega) (by omega), wrap_id (n := c * b) (by omega) (by omega)]
  generalize a * d = p at *
  generalize c * b = q at *
  rw [wrap_id (by omega) (by omega)]
  refine ⟨fun h => ?_, fun h => ⟨fun h' => ?_, fun h' => ?_⟩⟩
  · rw [if_pos (by omega)]
  · rw [if_neg (by omega), if_pos (by omega)]
  · rw [if_neg (by omega), if_neg (by omega)]

theorem body_ref01_Max {T : Tab} {n1 : Nat} (k1 : Knows T n1 sp_rat_Cmp) : sp_rat_Max.Body T V_ref01_Max (L_ref01_Max n1) R_ref01_Max := by
  have F1 := k1.F; have G1 := k1.G
  rintro ⟨a, b, c, d⟩ -
  refine .inl ⟨rfl, ?_⟩
  unfold V_ref01_Max L_ref01_Max R_ref01_Max
  simp only [↓vck_skip, ↓vck_ret, ↓vck_exit, ↓vck_region, ↓vck_nilq, ↓nilTo_to, nilG_d, nilG_r, ↓vck_seq, ↓vck_cond, ↓vck_block, ↓vck_loop, ↓vckTo_to, ↓thenK_n, ↓thenK_x, ↓thenK_r, ↓blockK_n, ↓blockK_x, ↓blockK_o, ↓blockK_r, ↓regK_to, ↓retK_r, ↓retK_n, ↓loopV_n, ↓loopV_x, ↓loopV_r, ↓famK_n, ↓famK_x, ↓famK_r, ↓boolK_true, ↓boolK_false, ↓boolK_not, ↓boolK_dec, ↓boolK_and, nf_mk, RGk_end_f, RGk_end_t, RGk_op, RGk_guard, opK_to, feet_f, feet_t, foot_mk, stepK_mk, stepK_v, stepK_no, guardG_t, guardG_f, guardG_no, condG_b, evT, Opd.ev, get_hit, get_next, app_to, app_no, app_up, app_skip, app_skipn, know_mk, knowO_t, knowO_c, envFrom, reserve, keeps, LOp.isNew, State.prune, cellsQ, cellsT, AV.leaf, Heap.at, evLoad_ptr, evLoad_dptr, loadO_vec, loadO_dvec1, stepK_load_map, idx_I, idx_U, idx_Rat, idx_Loc, idx_Act, idx_Step, idx_Stamp, stepK_idx_ref, evStore_ptr, storeO_vec, stepK_store_map1, loadDT_f, rowI, rowU, RatG.row, LocG.row, ActG.row, StepG.row, StampG.row, ActG.av, ActG.eta, RatG.eta, LocG.eta, beq_true, beq_false, loadDT_t, set_rowI, set_rowU, app_rowI, app_rowU, rep_rowI, rep_rowU, set_rowRat, app_rowRat, rep_rowRat, set_rowLoc, app_rowLoc, app_rowAct, app_rowStep, List.length_set, List.length_replicate, Int.toNat_natCast, Int.reduceToNat, evLen, evAppend, srcOf, Src.all, Src.len, Src.leaf, joinV, drows_rep1, drows_rep2, drows_rep3, drows_rep4, drows_rep5, drows_rep6, drows_rep7, drows_rep8, mkVec, drows, evMk, List.length_map, take_map_len, take_map_ge, loadQ, loadT, evBin, evUn, binT, binQ, chk, apartF, List.contains_cons, List.contains_nil, Bool.or_false, Bool.false_or, Bool.and_self, resQ, resV, resT, pickV, evCallT, evCall, fnOf, viewsT, viewT, evInt2, evEq, eqV, eqK, eqC1, buildQ, buildT, buildRQ, buildRT, lens_I, lensA_I, lens_U, lensA_U, lens_Rat, lensA_Rat, lens_Loc, lensA_Loc, lens_Act, lensA_Act, lens_Step, lensA_Step, lens_Stamp, lensA_Stamp, List.mem_cons, List.not_mem_nil, or_false, forall_eq, putRow, dcells, get_nil, RetS, RetF, RetD, AV.frz, AV.frzL, AV.freshP, AV.freshL, DV.less, scal_int, scal_bool, scal_nil, scal_rowI, scal_rowU, scal_rowRat, scal_rowStep, Option.some.injEq, AV.tup.injEq, AV.agg.injEq, List.cons.injEq, DV.list.injEq, List.isEmpty_nil, Nat.le_refl, AV.d.injEq, DV.int.injEq, DV.bool.injEq, ↓reduceIte, Nat.reduceEqDiff, Nat.reduceAdd, Nat.reduceBEq, List.length_cons, List.length_nil, List.replicate_succ, List.replicate_zero, List.nil_append, List.cons_append, List.append_nil, List.foldl_cons, List.foldl_nil, List.map_cons, List.map_nil, List.all_cons, List.all_nil, List.set_cons_zero, List.set_cons_succ, List.getD_cons_zero, List.getD_cons_succ, List.drop_zero, List.drop_succ_cons, List.take_succ_cons, List.take_zero, List.flatten_cons, List.flatten_nil, Bool.true_and, Bool.and_true, Bool.not_true, Bool.not_false, true_and, and_true, true_or, or_true, Option.bind_some, Option.map_some, decide_true, decide_false, beq_self_eq_true, true_implies, false_implies, implies_true, not_true_eq_false, not_false_eq_true, and_self, Bool.and_false, Bool.false_and, Nat.reduceLT, Nat.reduceLeDiff, List.reverse_cons, List.reverse_nil, Nat.zero_add, Nat.add_zero, Bool.false_eq_true, List.getElem?_cons_zero, sp_rat_Max, F1, G1, at_rat_Cmp]
  have e := cmp_swap a b c d
  have v := cmp_vals a b c d
  exact ⟨fun h => by rw [rat_max, if_pos (by omega)]; exact ⟨rfl, rfl⟩, fun h => by rw [rat_max, if_neg (by omega)]; exact ⟨rfl, rfl⟩⟩

theorem body_ref01_Least {T : Tab} {n1 : Nat} (k1 : Knows T n1 sp_rat_Right) : sp_rat_Least.Body T V_ref01_Least (L_ref01_Least n1) R_ref01_Least := by
  have F1 := k1.F; have G1 := k1.G
  rintro ⟨a, b⟩ -
  refine .inl ⟨rfl, ?_⟩
  unfold V_ref01_Least L_ref01_Least R_ref01_Least
  simp only [↓vck_skip, ↓vck_ret, ↓vck_exit, ↓vck_region, ↓vck_nilq, ↓nilTo_to, nilG_d, nilG_r, ↓vck_seq, ↓vck_cond, ↓vck_block, ↓vck_loop, ↓vckTo_to, ↓thenK_n, ↓thenK_x, ↓thenK_r, ↓blockK_n, ↓blockK_x, ↓blockK_o, ↓blockK_r, ↓regK_to, ↓retK_r, ↓retK_n, ↓loopV_n, ↓loopV_x, ↓loopV_r, ↓famK_n, ↓famK_x, ↓famK_r, ↓boolK_true, ↓boolK_false, ↓boolK_not, ↓boolK_dec, ↓boolK_and, nf_mk, RGk_end_f, RGk_end_t, RGk_op, RGk_guard, opK_to, feet_f, feet_t, foot_mk, stepK_mk, stepK_v, stepK_no, guardG_t, guardG_f, guardG_no, condG_b, evT, Opd.ev, get_hit, get_next, app_to, app_no, app_up, app_skip, app_skipn, know_mk, knowO_t, knowO_c, envFrom, reserve, keeps, LOp.isNew, State.prune, cellsQ, cellsT, AV.leaf, Heap.at, evLoad_ptr, evLoad_dptr, loadO_vec, loadO_dvec1, stepK_load_map, idx_I, idx_U, idx_Rat, idx_Loc, idx_Act, idx_Step, idx_Stamp, stepK_idx_ref, evStore_ptr, storeO_vec, stepK_store_map1, loadDT_f, rowI, rowU, RatG.row, LocG.row, ActG.row, StepG.row, StampG.row, ActG.av, ActG.eta, RatG.eta, LocG.eta, beq_true, beq_false, loadDT_t, set_rowI, set_rowU, app_rowI, app_rowU, rep_rowI, rep_rowU, set_rowRat, app_rowRat, rep_rowRat, set_rowLoc, app_rowLoc, app_rowAct, app_rowStep, List.length_set, List.length_replicate, Int.toNat_natCast, Int.reduceToNat, evLen, evAppend, srcOf, Src.all, Src.len, Src.leaf, joinV, drows_rep1, drows_rep2, drows_rep3, drows_rep4, drows_rep5, drows_rep6, drows_rep7, drows_rep8, mkVec, drows, evMk, List.length_map, take_map_len, take_map_ge, loadQ, loadT, evBin, evUn, binT, binQ, chk, apartF, List.contains_cons, List.contains_nil, Bool.or_false, Bool.false_or, Bool.and_self, resQ, resV, resT, pickV, evCallT, evCall, fnOf, viewsT, viewT, evInt2, evEq, eqV, eqK, eqC1, buildQ, buildT, buildRQ, buildRT, lens_I, lensA_I, lens_U, lensA_U, lens_Rat, lensA_Rat, lens_Loc, lensA_Loc, lens_Act, lensA_Act, lens_Step, lensA_Step, lens_Stamp, lensA_Stamp, List.mem_cons, List.not_mem_nil, or_false, forall_eq, putRow, dcells, get_nil, RetS, RetF, RetD, AV.frz, AV.frzL, AV.freshP, AV.freshL, DV.less, scal_int, scal_bool, scal_nil, scal_rowI, scal_rowU, scal_rowRat, scal_rowStep, Option.some.injEq, AV.tup.injEq, AV.agg.injEq, List.cons.injEq, DV.list.injEq, List.isEmpty_nil, Nat.le_refl, AV.d.injEq, DV.int.injEq, DV.bool.injEq, ↓reduceIte, Nat.reduceEqDiff, Nat.reduceAdd, Nat.reduceBEq, List.length_cons, List.length_nil, List.replicate_succ, List.replicate_zero, List.nil_append, List.cons_append, List.append_nil, List.foldl_cons, List.foldl_nil, List.map_cons, List.map_nil, List.all_cons, List.all_nil, List.set_cons_zero, List.set_cons_succ, List.getD_cons_zero, List.getD_cons_succ, List.drop_zero, List.drop_succ_cons, List.take_succ_cons, List.take_zero, List.flatten_cons, List.flatten_nil, Bool.true_and, Bool.and_true, Bool.not_true, Bool.not_false, true_and, and_true, true_or, or_true, Option.bind_some, Option.map_some, decide_true, decide_false, beq_self_eq_true, true_implies, false_implies, implies_true, not_true_eq_false, not_false_eq_true, and_self, Bool.and_false, Bool.false_and, Nat.reduceLT, Nat.reduceLeDiff, List.reverse_cons, List.reverse_nil, Nat.zero_add, Nat.add_zero, Bool.false_eq_true, List.getElem?_cons_zero, sp_rat_Least, F1, G1, at_rat_Right]
  refine ⟨fun h => ?_, fun h => by simp [rat_least, h]⟩
  obtain ⟨r1, r2, r3, r4⟩ := right_iff.1 h
  refine Loop.fam [1, 2, 3] (fun d : Int => ⟨[(1, .ptr 0 2 0 0), (2, .ptr 1 2 0 0), (3, .d (.int .i64 d))], [.vec 2 [[.d (.int .i64 a), .d (.int .i64 b)]], .vec 2 [[.d (.int .i64 0), .d (.int .i64 0)]]]⟩)
    (fun d => 1 ≤ d ∧ d ≤ b ∧ ∀ e, 0 < e → e < d → ¬ b ∣ a * e) (fun d => (b - d).toNat) 1 [0, 1] (by simp) (by simp) (by simp only [State.can, AV.can, AV.canL, HO.can, canRows, idx, get_hit, get_next, Heap.at, Nat.reduceBEq, ↓reduceIte, Nat.reduceEqDiff, Option.getD_some, Option.map_some, List.map_cons, List.map_nil, List.getD_cons_zero, List.getD_cons_succ]) ⟨by omega, r1, fun e h1 h2 => by omega⟩ ?_
  rintro d ⟨d1, d2, d3⟩
  simp only [↓vck_skip, ↓vck_ret, ↓vck_exit, ↓vck_region, ↓vck_nilq, ↓nilTo_to, nilG_d, nilG_r, ↓vck_seq, ↓vck_cond, ↓vck_block, ↓vck_loop, ↓vckTo_to, ↓thenK_n, ↓thenK_x, ↓thenK_r, ↓blockK_n, ↓blockK_x, ↓blockK_o, ↓blockK_r, ↓regK_to, ↓retK_r, ↓retK_n, ↓loopV_n, ↓loopV_x, ↓loopV_r, ↓famK_n, ↓famK_x, ↓famK_r, ↓boolK_true, ↓boolK_false, ↓boolK_not, ↓boolK_dec, ↓boolK_and, nf_mk, RGk_end_f, RGk_end_t, RGk_op, RGk_guard, opK_to, feet_f, feet_t, foot_mk, stepK_mk, stepK_v, stepK_no, guardG_t, guardG_f, guardG_no, condG_b, evT, Opd.ev, get_hit, get_next, app_to, app_no, app_up, app_skip, app_skipn, know_mk, knowO_t, knowO_c, envFrom, reserve, keeps, LOp.isNew, State.prune, cellsQ, cellsT, AV.leaf, Heap.at, evLoad_ptr, evLoad_dptr, loadO_vec, loadO_dvec1, stepK_load_map, idx_I, idx_U, idx_Rat, idx_Loc, idx_Act, idx_Step, idx_Stamp, stepK_idx_ref, evStore_ptr, storeO_vec, stepK_store_map1, loadDT_f, rowI, rowU, RatG.row, LocG.row, ActG.row, StepG.row, StampG.row, ActG.av, ActG.eta, RatG.eta, LocG.eta, beq_true, beq_false, loadDT_t, set_rowI, set_rowU, app_rowI, app_rowU, rep_rowI, rep_rowU, set_rowRat, app_rowRat, rep_rowRat, set_rowLoc, app_rowLoc, app_rowAct, app_rowStep, List.length_set, List.length_replicate, Int.toNat_natCast, Int.reduceToNat, evLen, evAppend, srcOf, Src.all, Src.len, Src.leaf, joinV, drows_rep1, drows_rep2, drows_rep3, drows_rep4, drows_rep5, drows_rep6, drows_rep7, drows_rep8, mkVec, drows, evMk, List.length_map, take_map_len, take_map_ge, loadQ, loadT, evBin, evUn, binT, binQ, chk, apartF, List.contains_cons, List.contains_nil, Bool.or_false, Bool.false_or, Bool.and_self, resQ, resV, resT, pickV, evCallT, evCall, fnOf, viewsT, viewT, evInt2, evEq, eqV, eqK, eqC1, buildQ, buildT, buildRQ, buildRT, lens_I, lensA_I, lens_U, lensA_U, lens_Rat, lensA_Rat, lens_Loc, lensA_Loc, lens_Act, lensA_Act, lens_Step, lensA_Step, lens_Stamp, lensA_Stamp, List.mem_cons, List.not_mem_nil, or_false, forall_eq, putRow, dcells, get_nil, RetS, RetF, RetD, AV.frz, AV.frzL, AV.freshP, AV.freshL, DV.less, scal_int, scal_bool, scal_nil, scal_rowI, scal_rowU, scal_rowRat, scal_rowStep, Option.some.injEq, AV.tup.injEq, AV.agg.injEq, List.cons.injEq, DV.list.injEq, List.isEmpty_nil, Nat.le_refl, AV.d.injEq, DV.int.injEq, DV.bool.injEq, ↓reduceIte, Nat.reduceEqDiff, Nat.reduceAdd, Nat.reduceBEq, List.length_cons, List.length_nil, List.replicate_succ, List.replicate_zero, List.nil_append, List.cons_append, List.append_nil, List.foldl_cons, List.foldl_nil, List.map_cons, List.map_nil, List.all_cons, List.all_nil, List.set_cons_zero, List.set_cons_succ, List.getD_cons_zero, List.getD_cons_succ, List.drop_zero, List.drop_succ_cons, List.take_succ_cons, List.take_zero, List.flatten_cons, List.flatten_nil, Bool.true_and, Bool.and_true, Bool.not_true, Bool.not_false, true_and, and_true, true_or, or_true, Option.bind_some, Option.map_some, decide_true, decide_false, beq_self_eq_true, true_implies, false_implies, implies_true, not_true_eq_false, not_false_eq_true, and_self, Bool.and_false, Bool.false_and, Nat.reduceLT, Nat.reduceLeDiff, List.reverse_cons, List.reverse_nil, Nat.zero_add, Nat.add_zero, Bool.false_eq_true, List.getElem?_cons_zero]
  have md := mul_bd r3 r4 d1 (by omega : d ≤ 1024)
  have q := tdiv_bd (g := b) (a := a * d) (by omega)
  rw [wrap_id (n := a * d) (by omega) (by omega), wrap_id (n := d + 1) (by omega) (by omega), wrap_id (n := (a * d).tdiv b) (by omega) (by omega)]
  refine ⟨fun h1 => ⟨by omega, fun h2 => ⟨by omega, ?_⟩, fun h2 => ?_⟩, fun h1 => ?_⟩
  · obtain ⟨e1, e2⟩ := least_first (by omega) (by omega) (Int.dvd_of_tmod_eq_zero h2) d3
    simp only [rat_least, h, if_true, ← e1, e2, and_self]
  · refine FamNext.mk [0, 1] (d + 1) (by simp) (by simp) (by simp only [State.can, AV.can, AV.canL, HO.can, canRows, idx, get_hit, get_next, Heap.at, Nat.reduceBEq, ↓reduceIte, Nat.reduceEqDiff, Option.getD_some, Option.map_some, List.map_cons, List.map_nil, List.getD_cons_zero, List.getD_cons_succ]) ⟨by omega, by omega, fun e e1 e2 hd => ?_⟩ (by omega)
    by_cases e3 : e = d
    · subst e3; exact h2 (Int.tmod_eq_zero_of_dvd hd)
    · exact d3 e e1 (by omega) hd
  · obtain ⟨e1, e2⟩ := least_first (a := a) (b := b) (d := b) (by omega) (by omega) ⟨a, by rw [Int.mul_comm]⟩ (fun e h1 h2 => d3 e h1 (by omega))
    rw [Int.mul_tdiv_cancel _ (by omega)] at e2
    simp only [rat_least, h, if_true, ← e1, ← e2, and_self]

theorem body_ref01_Between {T : Tab} {n1 n2 n3 : Nat} (k1 : Knows T n1 sp_rat_Right) (k2 : Knows T n2 sp_rat_Cmp) (k3 : Knows T n3 sp_rat_Least) : sp_rat_Between.Body T V_ref01_Between (L_ref01_Between n1 n2 n3) R_ref01_Between := by
  have F1 := k1.F; have G1 := k1.G; have F2 := k2.F; have G2 := k2.G; have F3 := k3.F; have G3 := k3.G
  rintro ⟨a, b, c, d⟩ -
  refine .inl ⟨by dsimp only; cases rat_between a b c d <;> rfl, ?_⟩
  unfold V_ref01_Between L_ref01_Between R_ref01_Between
  simp only [↓vck_skip, ↓vck_ret, ↓vck_exit, ↓vck_region, ↓vck_nilq, ↓nilTo_to, nilG_d, nilG_r, ↓vck_seq, ↓vck_cond, ↓vck_block, ↓vck_loop, ↓vckTo_to, ↓thenK_n, ↓thenK_x, ↓thenK_r, ↓blockK_n, ↓blockK_x, ↓blockK_o, ↓blockK_r, ↓regK_to, ↓retK_r, ↓retK_n, ↓loopV_n, ↓loopV_x, ↓loopV_r, ↓famK_n, ↓famK_x, ↓famK_r, ↓boolK_true, ↓boolK_false, ↓boolK_not, ↓boolK_dec, ↓boolK_and, nf_mk, RGk_end_f, RGk_end_t, RGk_op, RGk_guard, opK_to, feet_f, feet_t, foot_mk, stepK_mk, stepK_v, stepK_no, guardG_t, guardG_f, guardG_no, condG_b, evT, Opd.ev, get_hit, get_next, app_to, app_no, app_up, app_skip, app_skipn, know_mk, knowO_t, knowO_c, envFrom, reserve, keeps, LOp.isNew, State.prune, cellsQ, cellsT, AV.leaf, Heap.at, evLoad_ptr, evLoad_dptr, loadO_vec, loadO_dvec1, stepK_load_map, idx_I, idx_U, idx_Rat, idx_Loc, idx_Act, idx_Step, idx_Stamp, stepK_idx_ref, evStore_ptr, storeO_vec, stepK_store_map1, loadDT_f, rowI, rowU, RatG.row, LocG.row, ActG.row, StepG.row, StampG.row, ActG.av, ActG.eta, RatG.eta, LocG.eta, beq_true, beq_false, loadDT_t, set_rowI, set_rowU, app_rowI, app_rowU, rep_rowI, rep_rowU, set_rowRat, app_rowRat, rep_rowRat, set_rowLoc, app_rowLoc, app_rowAct, app_rowStep, List.length_set, List.length_replicate, Int.toNat_natCast, Int.reduceToNat, evLen, evAppend, srcOf, Src.all, Src.len, Src.leaf, joinV, drows_rep1, drows_rep2, drows_rep3, drows_rep4, drows_rep5, drows_rep6, drows_rep7, drows_rep8, mkVec, drows, evMk, List.length_map, take_map_len, take_map_ge, loadQ, loadT, evBin, evUn, binT, binQ, chk, apartF, List.contains_cons, List.contains_nil, Bool.or_false, Bool.false_or, Bool.and_self, resQ, resV, resT, pickV, evCallT, evCall, fnOf, viewsT, viewT, evInt2, evEq, eqV, eqK, eqC1, buildQ, buildT, buildRQ, buildRT, lens_I, lensA_I, lens_U, lensA_U, lens_Rat, lensA_Rat, lens_Loc, lensA_Loc, lens_Act, lensA_Act, lens_Step, lensA_Step, lens_Stamp, lensA_Stamp, List.mem_cons, List.not_mem_nil, or_false, forall_eq, putRow, dcells, get_nil, RetS, RetF, RetD, AV.frz, AV.frzL, AV.freshP, AV.freshL, DV.less, scal_int, scal_bool, scal_nil, scal_rowI, scal_rowU, scal_rowRat, scal_rowStep, Option.some.injEq, AV.tup.injEq, AV.agg.injEq, List.cons.injEq, DV.list.injEq, List.isEmpty_nil, Nat.le_refl, AV.d.injEq, DV.int.injEq, DV.bool.injEq, ↓reduceIte, Nat.reduceEqDiff, Nat.reduceAdd, Nat.reduceBEq, List.length_cons, List.length_nil, List.replicate_succ, List.replicate_zero, List.nil_append, List.cons_append, List.append_nil, List.foldl_cons, List.foldl_nil, List.map_cons, List.map_nil, List.all_cons, List.all_nil, List.set_cons_zero, List.set_cons_succ, List.getD_cons_zero, List.getD_cons_succ, List.drop_zero, List.drop_succ_cons, List.take_succ_cons, List.take_zero, List.flatten_cons, List.flatten_nil, Bool.true_and, Bool.and_true, Bool.not_true, Bool.not_false, true_and, and_true, true_or, or_true, Option.bind_some, Option.map_some, decide_true, decide_false, beq_self_eq_true, true_implies, false_implies, implies_true, not_true_eq_false, not_false_eq_true, and_self, Bool.and_false, Bool.false_and, Nat.reduceLT, Nat.reduceLeDiff, List.reverse_cons, List.reverse_nil, Nat.zero_add, Nat.add_zero, Bool.false_eq_true, List.getElem?_cons_zero, sp_rat_Between, F1, G1, at_rat_Right, F2, G2, at_rat_Cmp, F3, G3, at_rat_Least]
  have v := cmp_vals a b c d
  refine ⟨fun h => ?_, fun h => by rw [rat_between, if_pos (by omega)]; rfl⟩
  have h : ¬ 0 ≤ rat_cmp a b c d := by omega
  obtain ⟨h1, h2⟩ := cmp_neg h
  obtain ⟨r1, r2, r3, r4⟩ := right_iff.1 h1
  obtain ⟨s1, s2, s3, s4⟩ := right_iff.1 h2
  obtain ⟨l1, l2, l3⟩ := least_bd h1
  obtain ⟨m1, m2, m3⟩ := least_bd h2
  rw [wrap_id (by omega) (by omega), wrap_id (by omega) (by omega)]
  exact ⟨fun h3 => by simp [rat_between, h, h3, mo], fun h3 => by simp [rat_between, h, h3, mo]⟩

theorem body_ref01_After {T : Tab} {n1 : Nat} (k1 : Knows T n1 sp_rat_Right) : sp_rat_After.Body T V_ref01_After (L_ref01_After n1) R_ref01_After := by
  have F1 := k1.F; have G1 := k1.G
  rintro ⟨a, b⟩ -
  refine .inl ⟨by dsimp only; cases rat_after a b <;> rfl, ?_⟩
  unfold V_ref01_After L_ref01_After R_ref01_After
  simp only [↓vck_skip, ↓vck_ret, ↓vck_exit, ↓vck_region, ↓vck_nilq, ↓nilTo_to, nilG_d, nilG_r, ↓vck_seq, ↓vck_cond, ↓vck_block, ↓vck_loop, ↓vckTo_to, ↓thenK_n, ↓thenK_x, ↓thenK_r, ↓blockK_n, ↓blockK_x, ↓blockK_o, ↓blockK_r, ↓regK_to, ↓retK_r, ↓retK_n, ↓loopV_n, ↓loopV_x, ↓loopV_r, ↓famK_n, ↓famK_x, ↓famK_r, ↓boolK_true, ↓boolK_false, ↓boolK_not, ↓boolK_dec, ↓boolK_and, nf_mk, RGk_end_f, RGk_end_t, RGk_op, RGk_guard, opK_to, feet_f, feet_t, foot_mk, stepK_mk, stepK_v, stepK_no, guardG_t, guardG_f, guardG_no, condG_b, evT, Opd.ev, get_hit, get_next, app_to, app_no, app_up, app_skip, app_skipn, know_mk, knowO_t, knowO_c, envFrom, reserve, keeps, LOp.isNew, State.prune, cellsQ, cellsT, AV.leaf, Heap.at, evLoad_ptr, evLoad_dptr, loadO_vec, loadO_dvec1, stepK_load_map, idx_I, idx_U, idx_Rat, idx_Loc, idx_Act, idx_Step, idx_Stamp, stepK_idx_ref, evStore_ptr, storeO_vec, stepK_store_map1, loadDT_f, rowI, rowU, RatG.row, LocG.row, ActG.row, StepG.row, StampG.row, ActG.av, ActG.eta, RatG.eta, LocG.eta, beq_true, beq_false, loadDT_t, set_rowI, set_rowU, app_rowI, app_rowU, rep_rowI, rep_rowU, set_rowRat, app_rowRat, rep_rowRat, set_rowLoc, app_rowLoc, app_rowAct, app_rowStep, List.length_set, List.length_replicate, Int.toNat_natCast, Int.reduceToNat, evLen, evAppend, srcOf, Src.all, Src.len, Src.leaf, joinV, drows_rep1, drows_rep2, drows_rep3, drows_rep4, drows_rep5, drows_rep6, drows_rep7, drows_rep8, mkVec, drows, evMk, List.length_map, take_map_len, take_map_ge, loadQ, loadT, evBin, evUn, binT, binQ, chk, apartF, List.contains_cons, List.contains_nil, Bool.or_false, Bool.false_or, Bool.and_self, resQ, resV, resT, pickV, evCallT, evCall, fnOf, viewsT, viewT, evInt2, evEq, eqV, eqK, eqC1, buildQ, buildT, buildRQ, buildRT, lens_I, lensA_I, lens_U, lensA_U, lens_Rat, lensA_Rat, lens_Loc, lensA_Loc, lens_Act, lensA_Act, lens_Step, lensA_Step, lens_Stamp, lensA_Stamp, List.mem_cons, List.not_mem_nil, or_false, forall_eq, putRow, dcells, get_nil, RetS, RetF, RetD, AV.frz, AV.frzL, AV.freshP, AV.freshL, DV.less, scal_int, scal_bool, scal_nil, scal_rowI, scal_rowU, scal_rowRat, scal_rowStep, Option.some.injEq, AV.tup.injEq, AV.agg.injEq, List.cons.injEq, DV.list.injEq, List.isEmpty_nil, Nat.le_refl, AV.d.injEq, DV.int.injEq, DV.bool.injEq, ↓reduceIte, Nat.reduceEqDiff, Nat.reduceAdd, Nat.reduceBEq, List.length_cons, List.length_nil, List.replicate_succ, List.replicate_zero, List.nil_append, List.cons_append, List.append_nil, List.foldl_cons, List.foldl_nil, List.map_cons, List.map_nil, List.all_cons, List.all_nil, List.set_cons_zero, List.set_cons_succ, List.getD_cons_zero, List.getD_cons_succ, List.drop_zero, List.drop_succ_cons, List.take_succ_cons, List.take_zero, List.flatten_cons, List.flatten_nil, Bool.true_and, Bool.and_true, Bool.not_true, Bool.not_false, true_and, and_true, true_or, or_true, Option.bind_some, Option.map_some, decide_true, decide_false, beq_self_eq_true, true_implies, false_implies, implies_true, not_true_eq_false, not_false_eq_true, and_self, Bool.and_false, Bool.false_and, Nat.reduceLT, Nat.reduceLeDiff, List.reverse_cons, List.reverse_nil, Nat.zero_add, Nat.add_zero, Bool.false_eq_true, List.getElem?_cons_zero, sp_rat_After, F1, G1, at_rat_Right]
  refine ⟨fun h => ?_, fun h => by simp [rat_after, h, mo]⟩
  obtain ⟨r1, r2, r3, r4⟩ := right_iff.1 h
  have q := tdiv_bd (g := b) (a := a) (by omega)
  have e := fdiv_eq (a := a) (b := b) (by omega)
  have f1 : a.fdiv b * b ≤ a := by rw [Int.fdiv_eq_ediv_of_nonneg _ (by omega)]; exact Int.ediv_mul_le a (by omega)
  have f2 : a < (a.fdiv b + 1) * b := by rw [Int.fdiv_eq_ediv_of_nonneg _ (by omega)]; exact Int.lt_ediv_add_one_mul_self a (by omega)
  refine ⟨by omega, ?_⟩
  rw [wrap_id (n := a.tdiv b) (by omega) (by omega), wrap_id (n := a.tdiv b + 2) (by omega) (by omega)]
  have hf : a.fdiv b + 1 ≤ a.tdiv b + 2 ∧ -1048578 ≤ a.fdiv b := by rw [e]; split <;> omega
  generalize hfe : a.fdiv b = f at *
  clear e
  refine Loop.fam [1, 2, 4] (fun d : Int => ⟨[(1, .ptr 0 2 0 0), (2, .ptr 1 2 0 0), (4, .d (.int .i64 d))], [.vec 2 [[.d (.int .i64 a), .d (.int .i64 b)]], .vec 2 [[.d (.int .i64 0), .d (.int .i64 0)]]]⟩)
    (fun d => f + 1 ≤ d ∧ d ≤ 1048580) (fun d => (d - f).toNat) (a.tdiv b + 2) [0, 1] (by simp) (by simp) (by simp only [State.can, AV.can, AV.canL, HO.can, canRows, idx, get_hit, get_next, Heap.at, Nat.reduceBEq, ↓reduceIte, Nat.reduceEqDiff, Option.getD_some, Option.map_some, List.map_cons, List.map_nil, List.getD_cons_zero, List.getD_cons_succ]) ⟨by omega, by omega⟩ ?_
  rintro d ⟨d1, d2⟩
  simp only [↓vck_skip, ↓vck_ret, ↓vck_exit, ↓vck_region, ↓vck_nilq, ↓nilTo_to, nilG_d, nilG_r, ↓vck_seq, ↓vck_cond, ↓vck_block, ↓vck_loop, ↓vckTo_to, ↓thenK_n, ↓thenK_x, ↓thenK_r, ↓blockK_n, ↓blockK_x, ↓blockK_o, ↓blockK_r, ↓regK_to, ↓retK_r, ↓retK_n, ↓loopV_n, ↓loopV_x, ↓loopV_r, ↓famK_n, ↓famK_x, ↓famK_r, ↓boolK_true, ↓boolK_false, ↓boolK_not, ↓boolK_dec, ↓boolK_and, nf_mk, RGk_end_f, RGk_end_t, RGk_op, RGk_guard, opK_to, feet_f, feet_t, foot_mk, stepK_mk, stepK_v, stepK_no, guardG_t, guardG_f, guardG_no, condG_b, evT, Opd.ev, get_hit, get_next, app_to, app_no, app_up, app_skip, app_skipn, know_mk, knowO_t, knowO_c, envFrom, reserve, keeps, LOp.isNew, State.prune, cellsQ, cellsT, AV.leaf, Heap.at, evLoad_ptr, evLoad_dptr, loadO_vec, loadO_dvec1, stepK_load_map, idx_I, idx_U, idx_Rat, idx_Loc, idx_Act, idx_Step, idx_Stamp, stepK_idx_ref, evStore_ptr, storeO_vec, stepK_store_map1, loadDT_f, rowI, rowU, RatG.row, LocG.row, ActG.row, StepG.row, StampG.row, ActG.av, ActG.eta, RatG.eta, LocG.eta, beq_true, beq_false, loadDT_t, set_rowI, set_rowU, app_rowI, app_rowU, rep_rowI, rep_rowU, set_rowRat, app_rowRat, rep_rowRat, set_rowLoc, app_rowLoc, app_rowAct, app_rowStep, List.length_set, List.length_replicate, Int.toNat_natCast, Int.reduceToNat, evLen, evAppend, srcOf, Src.all, Src.len, Src.leaf, joinV, drows_rep1, drows_rep2, drows_rep3, drows_rep4, drows_rep5, drows_rep6, drows_rep7, drows_rep8, mkVec, drows, evMk, List.length_map, take_map_len, take_map_ge, loadQ, loadT, evBin, evUn, binT, binQ, chk, apartF, List.contains_cons, List.contains_nil, Bool.or_false, Bool.false_or, Bool.and_self, resQ, resV, resT, pickV, evCallT, evCall, fnOf, viewsT, viewT, evInt2, evEq, eqV, eqK, eqC1, buildQ, buildT, buildRQ, buildRT, lens_I, lensA_I, lens_U, lensA_U, lens_Rat, lensA_Rat, lens_Loc, lensA_Loc, lens_Act, lensA_Act, lens_Step, lensA_Step, lens_Stamp, lensA_Stamp, List.mem_cons, List.not_mem_nil, or_false, forall_eq, putRow, dcells, get_nil, RetS, RetF, RetD, AV.frz, AV.frzL, AV.freshP, AV.freshL, DV.less, scal_int, scal_bool, scal_nil, scal_rowI, scal_rowU, scal_rowRat, scal_rowStep, Option.some.injEq, AV.tup.injEq, AV.agg.injEq, List.cons.injEq, DV.list.injEq, List.isEmpty_nil, Nat.le_refl, AV.d.injEq, DV.int.injEq, DV.bool.injEq, ↓reduceIte, Nat.reduceEqDiff, Nat.reduceAdd, Nat.reduceBEq, List.length_cons, List.length_nil, List.replicate_succ, List.replicate_zero, List.nil_append, List.cons_append, List.append_nil, List.foldl_cons, List.foldl_nil, List.map_cons, List.map_nil, List.all_cons, List.all_nil, List.set_cons_zero, List.set_cons_succ, List.getD_cons_zero, List.getD_cons_succ, List.drop_zero, List.drop_succ_cons, List.take_succ_cons, List.take_zero, List.flatten_cons, List.flatten_nil, Bool.true_and, Bool.and_true, Bool.not_true, Bool.not_false, true_and, and_true, true_or, or_true, Option.bind_some, Option.map_some, decide_true, decide_false, beq_self_eq_true, true_implies, false_implies, implies_true, not_true_eq_false, not_false_eq_true, and_self, Bool.and_false, Bool.false_and, Nat.reduceLT, Nat.reduceLeDiff, List.reverse_cons, List.reverse_nil, Nat.zero_add, Nat.add_zero, Bool.false_eq_true, List.getElem?_cons_zero]
  rw [wrap_id (n := d - 1) (by omega) (by omega)]
  have md : -2147483648 ≤ (d - 1) * b ∧ (d - 1) * b ≤ 2147483648 := by
    have e1 : (d - 1) * b ≤ 2097152 * b := Int.mul_le_mul_of_nonneg_right (by omega) (by omega)
    have e2 : -2097152 * b ≤ (d - 1) * b := Int.mul_le_mul_of_nonneg_right (by omega) (by omega)
    omega
  rw [wrap_id (n := (d - 1) * b) (by omega) (by omega)]
  refine ⟨fun h1 => FamNext.mk [0, 1] (d - 1) (by simp) (by simp) (by simp only [State.can, AV.can, AV.canL, HO.can, canRows, idx, get_hit, get_next, Heap.at, Nat.reduceBEq, ↓reduceIte, Nat.reduceEqDiff, Option.getD_some, Option.map_some, List.map_cons, List.map_nil, List.getD_cons_zero, List.getD_cons_succ]) ⟨?_, by omega⟩ (by omega), fun h1 => ?_⟩
  · by_cases h2 : f + 1 ≤ d - 1
    · exact h2
    · have e1 : (d - 1) * b ≤ f * b := Int.mul_le_mul_of_nonneg_right (by omega) (by omega)
      omega
  · have hd : d = f + 1 := by
      by_cases h2 : f + 1 ≤ d - 1
      · have e1 : (f + 1) * b ≤ (d - 1) * b := Int.mul_le_mul_of_nonneg_right h2 (by omega)
        omega
      · omega
    subst hd
    refine ⟨fun h2 => ?_, fun h2 => ⟨fun h3 => ?_, fun h3 => ?_⟩⟩
    · have : rat_right (f + 1) 1 = false := by simp [rat_right]; omega
      simp [rat_after, h, this, mo, hfe]
    · have : rat_right (f + 1) 1 = false := by simp [rat_right]; omega
      simp [rat_after, h, this, mo, hfe]
    · have : rat_right (f + 1) 1 = true := by simp [rat_right]; omega
      simp [rat_after, h, this, mo, hfe]
end Go.Ago
