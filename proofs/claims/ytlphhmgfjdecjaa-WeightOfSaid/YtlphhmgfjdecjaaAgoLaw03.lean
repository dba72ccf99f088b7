/- The laws of layer 3, as bodies that answer true. Conditions: none. -/
import Derived.Test.YtlphhmgfjdecjaaAgoWeight
import Derived.Test.YtlphhmgfjdecjaaAgoNear
import Derived.Test.YtlphhmgfjdecjaaAgoLaw01
import Derived.Test.YtlphhmgfjdecjaaAgoLowLaw03
set_option maxRecDepth 100000
set_option linter.unusedSimpArgs false
set_option linter.unusedVariables false
namespace Go.Ago

theorem fOf12 : fOf 1 2 = some 4602678819172646912 := by kernel_rfl

theorem body_law03_awake {T : Tab} {n1 n2 n3 : Nat} (k1 : Knows T n1 (sp_fb2 fLess)) (k2 : Knows T n2 sp_wOf) (k3 : Knows T n3 sp_least) : sp_true.Body T V_law03_awake (L_law03_awake n1 n2 n3) R_law03_awake := by
  have F1 := k1.F; have G1 := k1.G; have F2 := k2.F; have G2 := k2.G; have F3 := k3.F; have G3 := k3.G
  rintro x -
  refine .inl ⟨rfl, ?_⟩
  unfold V_law03_awake L_law03_awake R_law03_awake
  have h1 : ∀ full, sp_least.at [.d (.list [[.flt .f64 4613937818241073152], [.flt .f64 4607182418800017408]] full)] = .data (2 ≤ maxLen ∧ ∀ b ∈ [4613937818241073152, 4607182418800017408], f64 b) (.d (.int .i64 1)) true := fun full => by
    have := at_least [4613937818241073152, 4607182418800017408] full
    rw [show leastTo [4613937818241073152, 4607182418800017408] [4613937818241073152, 4607182418800017408].length = 1 by decide] at this
    exact this
  simp only [↓vck_skip, ↓vck_ret, ↓vck_exit, ↓vck_region, ↓vck_nilq, ↓nilTo_to, nilG_d, nilG_r, ↓vck_seq, ↓vck_cond, ↓vck_block, ↓vck_loop, ↓vckTo_to, ↓thenK_n, ↓thenK_x, ↓thenK_r, ↓blockK_n, ↓blockK_x, ↓blockK_o, ↓blockK_r, ↓regK_to, ↓retK_r, ↓retK_n, ↓loopV_n, ↓loopV_x, ↓loopV_r, ↓famK_n, ↓famK_x, ↓famK_r, ↓boolK_true, ↓boolK_false, ↓boolK_not, ↓boolK_dec, ↓boolK_and, nf_mk, RGk_end_f, RGk_end_t, RGk_op, RGk_guard, opK_to, feet_f, feet_t, foot_mk, stepK_mk, stepK_v, stepK_no, guardG_t, guardG_f, guardG_no, condG_b, evT, Opd.ev, get_hit, get_next, app_to, app_no, app_up, app_skip, app_skipn, know_mk, knowO_t, knowO_c, envFrom, reserve, keeps, LOp.isNew, State.prune, cellsQ, cellsT, AV.leaf, Heap.at, evLoad_ptr, evLoad_dptr, loadO_vec, loadO_dvec1, stepK_load_map, idx_I, idx_U, idx_Rat, idx_Loc, idx_Act, idx_Step, idx_Stamp, stepK_idx_ref, evStore_ptr, storeO_vec, stepK_store_map1, loadDT_f, rowI, rowU, RatG.row, LocG.row, ActG.row, StepG.row, StampG.row, ActG.av, ActG.eta, RatG.eta, LocG.eta, beq_true, beq_false, loadDT_t, set_rowI, set_rowU, app_rowI, app_rowU, rep_rowI, rep_rowU, set_rowRat, app_rowRat, rep_rowRat, set_rowLoc, app_rowLoc, app_rowAct, app_rowStep, List.length_set, List.length_replicate, Int.toNat_natCast, Int.reduceToNat, evLen, evAppend, srcOf, Src.all, Src.len, Src.leaf, joinV, drows_rep1, drows_rep2, drows_rep3, drows_rep4, drows_rep5, drows_rep6, drows_rep7, drows_rep8, mkVec, drows, evMk, List.length_map, take_mapF, drop_mapF, List.take_length, List.take_left, List.length_append, Nat.le_add_right, ite_self, List.take_of_length_le, evSlice, intOr, intOpd, Option.isSome_none, Option.isSome_some, Nat.sub_zero, loadQ, loadT, evBin, evUn, binT, binQ, chk, apartF, List.contains_cons, List.contains_nil, Bool.or_false, Bool.false_or, Bool.and_self, resQ, resV, resT, pickV, evCallT, evCall, fnOf, viewsT, viewT, evInt2, evEq, eqV, eqK, eqC1, buildQ, buildT, buildRQ, buildRT, lens_I, lensA_I, lens_U, lensA_U, lens_Rat, lensA_Rat, lens_Loc, lensA_Loc, lens_Act, lensA_Act, lens_Step, lensA_Step, lens_Stamp, lensA_Stamp, List.mem_cons, List.not_mem_nil, or_false, forall_eq, putRow, dcells, get_nil, RetS, RetF, RetD, AV.frz, AV.frzL, AV.freshP, AV.freshL, DV.less, scal_int, scal_bool, scal_nil, scal_rowI, scal_rowU, scal_rowRat, scal_rowStep, scal_rowF, scal_flt, idx_F, app_rowF, lens_F, lensA_F, rowF_len, loadF, getF, evFl, fltQ, fltT, quoV, cmpQ, cmpT, DV.flt.injEq, Option.some.injEq, AV.tup.injEq, AV.agg.injEq, List.cons.injEq, DV.list.injEq, List.isEmpty_nil, Nat.le_refl, AV.d.injEq, DV.int.injEq, DV.bool.injEq, ↓reduceIte, Nat.reduceEqDiff, Nat.reduceAdd, Nat.reduceBEq, List.length_cons, List.length_nil, List.replicate_succ, List.replicate_zero, List.nil_append, List.cons_append, List.append_nil, List.foldl_cons, List.foldl_nil, List.map_cons, List.map_nil, List.all_cons, List.all_nil, List.set_cons_zero, List.set_cons_succ, List.getD_cons_zero, List.getD_cons_succ, List.drop_zero, List.drop_succ_cons, List.take_succ_cons, List.take_zero, List.flatten_cons, List.flatten_nil, Bool.true_and, Bool.and_true, Bool.not_true, Bool.not_false, true_and, and_true, true_or, or_true, Option.bind_some, Option.map_some, decide_true, decide_false, beq_self_eq_true, true_implies, false_implies, implies_true, not_true_eq_false, not_false_eq_true, and_self, Bool.and_false, Bool.false_and, Nat.reduceLT, Nat.reduceLeDiff, List.reverse_cons, List.reverse_nil, Nat.zero_add, Nat.add_zero, Bool.false_eq_true, List.getElem?_cons_zero, sp_true, F1, G1, F2, G2, F3, G3, at_fb2, at_wOf, h1, fOf12]
  have e1 : (FloatKind.f64.format.order 4602678819172646912 4602678819172646912 == some Ordering.eq) = true := by
    rw [ord_eq (by omega) (by omega)]
    decide
  have e2 : fLess 4607182418800017408 4611686018427387904 = true := by decide
  rw [e1, e2]
  refine ⟨fun _ => ⟨⟨by show (_ : Nat) < _; omega, by show (_ : Nat) < _; omega⟩, fun _ => ⟨by unfold maxLen; omega, fun b hb => ?_⟩, fun h => absurd h (by simp)⟩, fun h => absurd h (by simp)⟩
  show b < 18446744073709551616
  omega

theorem rank_inj {b c : Nat} (hb : b < 18446744073709551616) (hc : c < 18446744073709551616) (h : fRank b = fRank c) (hn : fNaN b = false ∨ fNaN c = false) : b = c := by
  unfold fRank at h
  unfold fNaN fNeg fMag at *
  by_cases n1 : 9218868437227405312 < b % 9223372036854775808 <;> by_cases n2 : 9218868437227405312 < c % 9223372036854775808 <;> by_cases s1 : 9223372036854775808 ≤ b <;> by_cases s2 : 9223372036854775808 ≤ c <;>
    simp only [n1, n2, s1, s2, decide_true, decide_false, if_true, if_false, Bool.false_eq_true, Bool.true_eq_false, or_self, or_true, true_or] at h hn <;> omega

theorem law_WeightLess {T : Tab} {n1 n2 n3 : Nat} (k1 : Knows T n1 sp_true) (k2 : Knows T n2 (sp_fb2 fLess)) (k3 : Knows T n3 sp_rank) (a b : Int) (ha : inU a) (hb : inU b) :
    Holds T V_law03_WeightLess (L_law03_WeightLess n1 n2 n3) R_law03_WeightLess [.d (.int .u64 a), .d (.int .u64 b)] := by
  have F1 := k1.F; have G1 := k1.G; have F2 := k2.F; have G2 := k2.G; have F3 := k3.F; have G3 := k3.G
  unfold Holds V_law03_WeightLess L_law03_WeightLess R_law03_WeightLess
  obtain ⟨a1, a2⟩ := ha
  obtain ⟨b1, b2⟩ := hb
  have ha' : f64 a.toNat := by show a.toNat < 18446744073709551616; omega
  have hb' : f64 b.toNat := by show b.toNat < 18446744073709551616; omega
  simp only [↓vck_skip, ↓vck_ret, ↓vck_exit, ↓vck_region, ↓vck_nilq, ↓nilTo_to, nilG_d, nilG_r, ↓vck_seq, ↓vck_cond, ↓vck_block, ↓vck_loop, ↓vckTo_to, ↓thenK_n, ↓thenK_x, ↓thenK_r, ↓blockK_n, ↓blockK_x, ↓blockK_o, ↓blockK_r, ↓regK_to, ↓retK_r, ↓retK_n, ↓loopV_n, ↓loopV_x, ↓loopV_r, ↓famK_n, ↓famK_x, ↓famK_r, ↓boolK_true, ↓boolK_false, ↓boolK_not, ↓boolK_dec, ↓boolK_and, nf_mk, RGk_end_f, RGk_end_t, RGk_op, RGk_guard, opK_to, feet_f, feet_t, foot_mk, stepK_mk, stepK_v, stepK_no, guardG_t, guardG_f, guardG_no, condG_b, evT, Opd.ev, get_hit, get_next, app_to, app_no, app_up, app_skip, app_skipn, know_mk, knowO_t, knowO_c, envFrom, reserve, keeps, LOp.isNew, State.prune, cellsQ, cellsT, AV.leaf, Heap.at, evLoad_ptr, evLoad_dptr, loadO_vec, loadO_dvec1, stepK_load_map, idx_I, idx_U, idx_Rat, idx_Loc, idx_Act, idx_Step, idx_Stamp, stepK_idx_ref, evStore_ptr, storeO_vec, stepK_store_map1, loadDT_f, rowI, rowU, RatG.row, LocG.row, ActG.row, StepG.row, StampG.row, ActG.av, ActG.eta, RatG.eta, LocG.eta, beq_true, beq_false, loadDT_t, set_rowI, set_rowU, app_rowI, app_rowU, rep_rowI, rep_rowU, set_rowRat, app_rowRat, rep_rowRat, set_rowLoc, app_rowLoc, app_rowAct, app_rowStep, List.length_set, List.length_replicate, Int.toNat_natCast, Int.reduceToNat, evLen, evAppend, srcOf, Src.all, Src.len, Src.leaf, joinV, drows_rep1, drows_rep2, drows_rep3, drows_rep4, drows_rep5, drows_rep6, drows_rep7, drows_rep8, mkVec, drows, evMk, List.length_map, take_mapF, drop_mapF, List.take_length, List.take_left, List.length_append, Nat.le_add_right, ite_self, List.take_of_length_le, evSlice, intOr, intOpd, Option.isSome_none, Option.isSome_some, Nat.sub_zero, loadQ, loadT, evBin, evUn, binT, binQ, chk, apartF, List.contains_cons, List.contains_nil, Bool.or_false, Bool.false_or, Bool.and_self, resQ, resV, resT, pickV, evCallT, evCall, fnOf, viewsT, viewT, evInt2, evEq, eqV, eqK, eqC1, buildQ, buildT, buildRQ, buildRT, lens_I, lensA_I, lens_U, lensA_U, lens_Rat, lensA_Rat, lens_Loc, lensA_Loc, lens_Act, lensA_Act, lens_Step, lensA_Step, lens_Stamp, lensA_Stamp, List.mem_cons, List.not_mem_nil, or_false, forall_eq, putRow, dcells, get_nil, RetS, RetF, RetD, AV.frz, AV.frzL, AV.freshP, AV.freshL, DV.less, scal_int, scal_bool, scal_nil, scal_rowI, scal_rowU, scal_rowRat, scal_rowStep, scal_rowF, scal_flt, idx_F, app_rowF, lens_F, lensA_F, rowF_len, loadF, getF, evFl, fltQ, fltT, quoV, cmpQ, cmpT, DV.flt.injEq, Option.some.injEq, AV.tup.injEq, AV.agg.injEq, List.cons.injEq, DV.list.injEq, List.isEmpty_nil, Nat.le_refl, AV.d.injEq, DV.int.injEq, DV.bool.injEq, ↓reduceIte, Nat.reduceEqDiff, Nat.reduceAdd, Nat.reduceBEq, List.length_cons, List.length_nil, List.replicate_succ, List.replicate_zero, List.nil_append, List.cons_append, List.append_nil, List.foldl_cons, List.foldl_nil, List.map_cons, List.map_nil, List.all_cons, List.all_nil, List.set_cons_zero, List.set_cons_succ, List.getD_cons_zero, List.getD_cons_succ, List.drop_zero, List.drop_succ_cons, List.take_succ_cons, List.take_zero, List.flatten_cons, List.flatten_nil, Bool.true_and, Bool.and_true, Bool.not_true, Bool.not_false, true_and, and_true, true_or, or_true, Option.bind_some, Option.map_some, decide_true, decide_false, beq_self_eq_true, true_implies, false_implies, implies_true, not_true_eq_false, not_false_eq_true, and_self, Bool.and_false, Bool.false_and, Nat.reduceLT, Nat.reduceLeDiff, List.reverse_cons, List.reverse_nil, Nat.zero_add, Nat.add_zero, Bool.false_eq_true, List.getElem?_cons_zero, F1, G1, F2, G2, F3, G3, at_true, at_fb2, at_rank]
  refine ⟨⟨ha', hb'⟩, ha', hb', ?_⟩
  unfold fLess
  simp

theorem law_WeightOrder {T : Tab} {n1 n2 : Nat} (k1 : Knows T n1 sp_true) (k2 : Knows T n2 (sp_fb2 fLess)) (a b c : Int) (ha : inU a) (hb : inU b) (hc : inU c) :
    Holds T V_law03_WeightOrder (L_law03_WeightOrder n1 n2) R_law03_WeightOrder [.d (.int .u64 a), .d (.int .u64 b), .d (.int .u64 c)] := by
  have F1 := k1.F; have G1 := k1.G; have F2 := k2.F; have G2 := k2.G
  unfold Holds V_law03_WeightOrder L_law03_WeightOrder R_law03_WeightOrder
  obtain ⟨a1, a2⟩ := ha
  obtain ⟨b1, b2⟩ := hb
  obtain ⟨c1, c2⟩ := hc
  have ha' : f64 a.toNat := by show a.toNat < 18446744073709551616; omega
  have hb' : f64 b.toNat := by show b.toNat < 18446744073709551616; omega
  have hc' : f64 c.toNat := by show c.toNat < 18446744073709551616; omega
  simp only [↓vck_skip, ↓vck_ret, ↓vck_exit, ↓vck_region, ↓vck_nilq, ↓nilTo_to, nilG_d, nilG_r, ↓vck_seq, ↓vck_cond, ↓vck_block, ↓vck_loop, ↓vckTo_to, ↓thenK_n, ↓thenK_x, ↓thenK_r, ↓blockK_n, ↓blockK_x, ↓blockK_o, ↓blockK_r, ↓regK_to, ↓retK_r, ↓retK_n, ↓loopV_n, ↓loopV_x, ↓loopV_r, ↓famK_n, ↓famK_x, ↓famK_r, ↓boolK_true, ↓boolK_false, ↓boolK_not, ↓boolK_dec, ↓boolK_and, nf_mk, RGk_end_f, RGk_end_t, RGk_op, RGk_guard, opK_to, feet_f, feet_t, foot_mk, stepK_mk, stepK_v, stepK_no, guardG_t, guardG_f, guardG_no, condG_b, evT, Opd.ev, get_hit, get_next, app_to, app_no, app_up, app_skip, app_skipn, know_mk, knowO_t, knowO_c, envFrom, reserve, keeps, LOp.isNew, State.prune, cellsQ, cellsT, AV.leaf, Heap.at, evLoad_ptr, evLoad_dptr, loadO_vec, loadO_dvec1, stepK_load_map, idx_I, idx_U, idx_Rat, idx_Loc, idx_Act, idx_Step, idx_Stamp, stepK_idx_ref, evStore_ptr, storeO_vec, stepK_store_map1, loadDT_f, rowI, rowU, RatG.row, LocG.row, ActG.row, StepG.row, StampG.row, ActG.av, ActG.eta, RatG.eta, LocG.eta, beq_true, beq_false, loadDT_t, set_rowI, set_rowU, app_rowI, app_rowU, rep_rowI, rep_rowU, set_rowRat, app_rowRat, rep_rowRat, set_rowLoc, app_rowLoc, app_rowAct, app_rowStep, List.length_set, List.length_replicate, Int.toNat_natCast, Int.reduceToNat, evLen, evAppend, srcOf, Src.all, Src.len, Src.leaf, joinV, drows_rep1, drows_rep2, drows_rep3, drows_rep4, drows_rep5, drows_rep6, drows_rep7, drows_rep8, mkVec, drows, evMk, List.length_map, take_mapF, drop_mapF, List.take_length, List.take_left, List.length_append, Nat.le_add_right, ite_self, List.take_of_length_le, evSlice, intOr, intOpd, Option.isSome_none, Option.isSome_some, Nat.sub_zero, loadQ, loadT, evBin, evUn, binT, binQ, chk, apartF, List.contains_cons, List.contains_nil, Bool.or_false, Bool.false_or, Bool.and_self, resQ, resV, resT, pickV, evCallT, evCall, fnOf, viewsT, viewT, evInt2, evEq, eqV, eqK, eqC1, buildQ, buildT, buildRQ, buildRT, lens_I, lensA_I, lens_U, lensA_U, lens_Rat, lensA_Rat, lens_Loc, lensA_Loc, lens_Act, lensA_Act, lens_Step, lensA_Step, lens_Stamp, lensA_Stamp, List.mem_cons, List.not_mem_nil, or_false, forall_eq, putRow, dcells, get_nil, RetS, RetF, RetD, AV.frz, AV.frzL, AV.freshP, AV.freshL, DV.less, scal_int, scal_bool, scal_nil, scal_rowI, scal_rowU, scal_rowRat, scal_rowStep, scal_rowF, scal_flt, idx_F, app_rowF, lens_F, lensA_F, rowF_len, loadF, getF, evFl, fltQ, fltT, quoV, cmpQ, cmpT, DV.flt.injEq, Option.some.injEq, AV.tup.injEq, AV.agg.injEq, List.cons.injEq, DV.list.injEq, List.isEmpty_nil, Nat.le_refl, AV.d.injEq, DV.int.injEq, DV.bool.injEq, ↓reduceIte, Nat.reduceEqDiff, Nat.reduceAdd, Nat.reduceBEq, List.length_cons, List.length_nil, List.replicate_succ, List.replicate_zero, List.nil_append, List.cons_append, List.append_nil, List.foldl_cons, List.foldl_nil, List.map_cons, List.map_nil, List.all_cons, List.all_nil, List.set_cons_zero, List.set_cons_succ, List.getD_cons_zero, List.getD_cons_succ, List.drop_zero, List.drop_succ_cons, List.take_succ_cons, List.take_zero, List.flatten_cons, List.flatten_nil, Bool.true_and, Bool.and_true, Bool.not_true, Bool.not_false, true_and, and_true, true_or, or_true, Option.bind_some, Option.map_some, decide_true, decide_false, beq_self_eq_true, true_implies, false_implies, implies_true, not_true_eq_false, not_false_eq_true, and_self, Bool.and_false, Bool.false_and, Nat.reduceLT, Nat.reduceLeDiff, List.reverse_cons, List.reverse_nil, Nat.zero_add, Nat.add_zero, Bool.false_eq_true, List.getElem?_cons_zero, F1, G1, F2, G2, at_true, at_fb2]
  have na : (FloatKind.f64.format.order a.toNat a.toNat != some Ordering.eq) = fNaN a.toNat := by rw [ord_ne ha' ha']; cases fNaN a.toNat <;> simp
  have nb : (FloatKind.f64.format.order b.toNat b.toNat != some Ordering.eq) = fNaN b.toNat := by rw [ord_ne hb' hb']; cases fNaN b.toNat <;> simp
  rw [na, nb]
  clear na nb
  have t1 : fLess a.toNat b.toNat = true → fLess b.toNat a.toNat = false := fun h => by simp [fLess] at h ⊢; omega
  have t5 : fLess a.toNat b.toNat = true → fLess b.toNat c.toNat = true → fLess a.toNat c.toNat = true := fun h1 h2 => by simp [fLess] at h1 h2 ⊢; omega
  have t3 : fNaN a.toNat = true → fNaN b.toNat = true → fLess a.toNat b.toNat = false ∧ fLess b.toNat a.toNat = false := fun h1 h2 => by simp [fLess, fRank, h1, h2]
  have t4 : ¬ a = b → fNaN a.toNat = false ∨ fNaN b.toNat = false → fLess a.toNat b.toNat = true ∨ fLess b.toNat a.toNat = true := fun h1 h2 => by
    have h3 : a.toNat ≠ b.toNat := by omega
    have : fRank a.toNat ≠ fRank b.toNat := fun e => h3 (rank_inj ha' hb' e h2)
    simp only [fLess, decide_eq_true_eq]; omega
  have t2 : a = b → fLess a.toNat b.toNat = false ∧ fLess b.toNat a.toNat = false := fun e => by subst e; simp [fLess]
  generalize fLess a.toNat b.toNat = ab at *
  generalize fLess b.toNat a.toNat = ba at *
  generalize fLess b.toNat c.toNat = bc at *
  generalize fLess a.toNat c.toNat = ac at *
  generalize fNaN a.toNat = na at *
  generalize fNaN b.toNat = nb at *
  by_cases e : a = b
  · obtain ⟨rfl, rfl⟩ := t2 e
    simp [boolK, e, ha', hb', hc']
  · replace t4 := t4 e
    clear t2
    simp only [e, not_false_eq_true, false_implies, true_implies, true_and, ha', hb', hc', boolK]
    revert t1 t3 t4 t5
    cases ab <;> cases ba <;> cases bc <;> cases ac <;> cases na <;> cases nb <;> simp

theorem rank_le {b : Nat} (hb : b < 18446744073709551616) : fRank b ≤ 18446744073709551615 := by
  unfold fRank
  unfold fNaN fNeg fMag at *
  by_cases n1 : 9218868437227405312 < b % 9223372036854775808 <;> by_cases s1 : 9223372036854775808 ≤ b <;>
    simp only [n1, s1, decide_true, decide_false, if_true, if_false, Bool.false_eq_true] <;> omega
theorem rank_turn {b : Nat} (hb : b < 18446744073709551616) (hn : fNaN b = false) :
    fRank (if b < 9223372036854775808 then b + 9223372036854775808 else b - 9223372036854775808) = 18446744073709551615 - fRank b ∧ f64 (if b < 9223372036854775808 then b + 9223372036854775808 else b - 9223372036854775808) := by
  have hn' : ¬ 9218868437227405312 < b % 9223372036854775808 := of_decide_eq_false hn
  by_cases s : b < 9223372036854775808
  · simp only [s, if_true]
    have e1 : fNaN (b + 9223372036854775808) = false := by unfold fNaN fMag; exact decide_eq_false (by omega)
    have e2 : fNeg (b + 9223372036854775808) = true := by unfold fNeg; exact decide_eq_true (by omega)
    have e3 : fNeg b = false := by unfold fNeg; exact decide_eq_false (by omega)
    refine ⟨?_, by show b + 9223372036854775808 < 18446744073709551616; omega⟩
    unfold fRank
    rw [e1, e2, e3, hn]
    simp only [Bool.false_eq_true, if_true, if_false]
    try omega
  · simp only [s, if_false]
    have e1 : fNaN (b - 9223372036854775808) = false := by unfold fNaN fMag; exact decide_eq_false (by omega)
    have e2 : fNeg (b - 9223372036854775808) = false := by unfold fNeg; exact decide_eq_false (by omega)
    have e3 : fNeg b = true := by unfold fNeg; exact decide_eq_true (by omega)
    refine ⟨?_, by show b - 9223372036854775808 < 18446744073709551616; omega⟩
    unfold fRank
    rw [e1, e2, e3, hn]
    simp only [Bool.false_eq_true, if_true, if_false]
    try omega

theorem law_WeightTurned {T : Tab} {n1 n2 : Nat} (k1 : Knows T n1 sp_true) (k2 : Knows T n2 (sp_fb2 fLess)) (a b : Int) (ha : inU a) (hb : inU b) :
    Holds T V_law03_WeightTurned (L_law03_WeightTurned n1 n2) R_law03_WeightTurned [.d (.int .u64 a), .d (.int .u64 b)] := by
  have F1 := k1.F; have G1 := k1.G; have F2 := k2.F; have G2 := k2.G
  unfold Holds V_law03_WeightTurned L_law03_WeightTurned R_law03_WeightTurned
  obtain ⟨a1, a2⟩ := ha
  obtain ⟨b1, b2⟩ := hb
  have ha' : f64 a.toNat := by show a.toNat < 18446744073709551616; omega
  have hb' : f64 b.toNat := by show b.toNat < 18446744073709551616; omega
  simp only [↓vck_skip, ↓vck_ret, ↓vck_exit, ↓vck_region, ↓vck_nilq, ↓nilTo_to, nilG_d, nilG_r, ↓vck_seq, ↓vck_cond, ↓vck_block, ↓vck_loop, ↓vckTo_to, ↓thenK_n, ↓thenK_x, ↓thenK_r, ↓blockK_n, ↓blockK_x, ↓blockK_o, ↓blockK_r, ↓regK_to, ↓retK_r, ↓retK_n, ↓loopV_n, ↓loopV_x, ↓loopV_r, ↓famK_n, ↓famK_x, ↓famK_r, ↓boolK_true, ↓boolK_false, ↓boolK_not, ↓boolK_dec, ↓boolK_and, nf_mk, RGk_end_f, RGk_end_t, RGk_op, RGk_guard, opK_to, feet_f, feet_t, foot_mk, stepK_mk, stepK_v, stepK_no, guardG_t, guardG_f, guardG_no, condG_b, evT, Opd.ev, get_hit, get_next, app_to, app_no, app_up, app_skip, app_skipn, know_mk, knowO_t, knowO_c, envFrom, reserve, keeps, LOp.isNew, State.prune, cellsQ, cellsT, AV.leaf, Heap.at, evLoad_ptr, evLoad_dptr, loadO_vec, loadO_dvec1, stepK_load_map, idx_I, idx_U, idx_Rat, idx_Loc, idx_Act, idx_Step, idx_Stamp, stepK_idx_ref, evStore_ptr, storeO_vec, stepK_store_map1, loadDT_f, rowI, rowU, RatG.row, LocG.row, ActG.row, StepG.row, StampG.row, ActG.av, ActG.eta, RatG.eta, LocG.eta, beq_true, beq_false, loadDT_t, set_rowI, set_rowU, app_rowI, app_rowU, rep_rowI, rep_rowU, set_rowRat, app_rowRat, rep_rowRat, set_rowLoc, app_rowLoc, app_rowAct, app_rowStep, List.length_set, List.length_replicate, Int.toNat_natCast, Int.reduceToNat, evLen, evAppend, srcOf, Src.all, Src.len, Src.leaf, joinV, drows_rep1, drows_rep2, drows_rep3, drows_rep4, drows_rep5, drows_rep6, drows_rep7, drows_rep8, mkVec, drows, evMk, List.length_map, take_mapF, drop_mapF, List.take_length, List.take_left, List.length_append, Nat.le_add_right, ite_self, List.take_of_length_le, evSlice, intOr, intOpd, Option.isSome_none, Option.isSome_some, Nat.sub_zero, loadQ, loadT, evBin, evUn, binT, binQ, chk, apartF, List.contains_cons, List.contains_nil, Bool.or_false, Bool.false_or, Bool.and_self, resQ, resV, resT, pickV, evCallT, evCall, fnOf, viewsT, viewT, evInt2, evEq, eqV, eqK, eqC1, buildQ, buildT, buildRQ, buildRT, lens_I, lensA_I, lens_U, lensA_U, lens_Rat, lensA_Rat, lens_Loc, lensA_Loc, lens_Act, lensA_Act, lens_Step, lensA_Step, lens_Stamp, lensA_Stamp, List.mem_cons, List.not_mem_nil, or_false, forall_eq, putRow, dcells, get_nil, RetS, RetF, RetD, AV.frz, AV.frzL, AV.freshP, AV.freshL, DV.less, scal_int, scal_bool, scal_nil, scal_rowI, scal_rowU, scal_rowRat, scal_rowStep, scal_rowF, scal_flt, idx_F, app_rowF, lens_F, lensA_F, rowF_len, loadF, getF, evFl, fltQ, fltT, quoV, cmpQ, cmpT, DV.flt.injEq, Option.some.injEq, AV.tup.injEq, AV.agg.injEq, List.cons.injEq, DV.list.injEq, List.isEmpty_nil, Nat.le_refl, AV.d.injEq, DV.int.injEq, DV.bool.injEq, ↓reduceIte, Nat.reduceEqDiff, Nat.reduceAdd, Nat.reduceBEq, List.length_cons, List.length_nil, List.replicate_succ, List.replicate_zero, List.nil_append, List.cons_append, List.append_nil, List.foldl_cons, List.foldl_nil, List.map_cons, List.map_nil, List.all_cons, List.all_nil, List.set_cons_zero, List.set_cons_succ, List.getD_cons_zero, List.getD_cons_succ, List.drop_zero, List.drop_succ_cons, List.take_succ_cons, List.take_zero, List.flatten_cons, List.flatten_nil, Bool.true_and, Bool.and_true, Bool.not_true, Bool.not_false, true_and, and_true, true_or, or_true, Option.bind_some, Option.map_some, decide_true, decide_false, beq_self_eq_true, true_implies, false_implies, implies_true, not_true_eq_false, not_false_eq_true, and_self, Bool.and_false, Bool.false_and, Nat.reduceLT, Nat.reduceLeDiff, List.reverse_cons, List.reverse_nil, Nat.zero_add, Nat.add_zero, Bool.false_eq_true, List.getElem?_cons_zero, F1, G1, F2, G2, at_true, at_fb2]
  obtain ⟨x, rfl⟩ := Int.eq_ofNat_of_zero_le a1
  obtain ⟨y, rfl⟩ := Int.eq_ofNat_of_zero_le b1
  have ha' : x < 18446744073709551616 := ha'
  have hb' : y < 18446744073709551616 := hb'
  have na : (FloatKind.f64.format.order x x != some Ordering.eq) = fNaN x := by rw [ord_ne ha' ha']; cases fNaN x <;> simp
  have nb : (FloatKind.f64.format.order y y != some Ordering.eq) = fNaN y := by rw [ord_ne hb' hb']; cases fNaN y <;> simp
  rw [bits_xor_top x ha', bits_xor_top y hb']
  simp only [Int.toNat_natCast]
  rw [na, nb]
  have i1 : fLess x x = false := by simp [fLess]
  have i2 : fLess y y = false := by simp [fLess]
  rw [i1, i2]
  have ha2 : f64 x := ha'
  have hb2 : f64 y := hb'
  cases n1 : fNaN x with
  | true => simp [boolK, ha2, hb2]
  | false =>
    cases n2 : fNaN y with
    | true => simp [boolK, ha2, hb2]
    | false =>
      rw [boolK_false, boolK_false]
      have tx := rank_turn ha' n1
      have ty := rank_turn hb' n2
      refine ⟨⟨ha2, hb2⟩, ⟨ty.2, tx.2⟩, ?_⟩
      unfold fLess
      rw [tx.1, ty.1]
      have r1 := rank_le ha'
      have r2 := rank_le hb'
      rw [beq_iff_eq]
      exact decide_eq_decide.2 (by omega)

theorem law_WeightOf {T : Tab} {n1 n2 n3 : Nat} (k1 : Knows T n1 sp_true) (k2 : Knows T n2 sp_wOf) (k3 : Knows T n3 sp_inf) (u l : Int) (hu : inI u) (hl : inI l) :
    Holds T V_law03_WeightOf (L_law03_WeightOf n1 n2 n3) R_law03_WeightOf [.d (.int .i64 u), .d (.int .i64 l)] := by
  have F1 := k1.F; have G1 := k1.G; have F2 := k2.F; have G2 := k2.G; have F3 := k3.F; have G3 := k3.G
  unfold Holds V_law03_WeightOf L_law03_WeightOf R_law03_WeightOf
  have e0 : FloatKind.f64.format.div (FloatKind.f64.nearest u) (FloatKind.f64.nearest l) = fOf u l := rfl
  by_cases h0 : l = 0
  · subst h0
    by_cases hu0 : u = 0
    · subst hu0
      have e1 : fOf 0 0 = none := by kernel_rfl
      simp only [↓vck_skip, ↓vck_ret, ↓vck_exit, ↓vck_region, ↓vck_nilq, ↓nilTo_to, nilG_d, nilG_r, ↓vck_seq, ↓vck_cond, ↓vck_block, ↓vck_loop, ↓vckTo_to, ↓thenK_n, ↓thenK_x, ↓thenK_r, ↓blockK_n, ↓blockK_x, ↓blockK_o, ↓blockK_r, ↓regK_to, ↓retK_r, ↓retK_n, ↓loopV_n, ↓loopV_x, ↓loopV_r, ↓famK_n, ↓famK_x, ↓famK_r, ↓boolK_true, ↓boolK_false, ↓boolK_not, ↓boolK_dec, ↓boolK_and, nf_mk, RGk_end_f, RGk_end_t, RGk_op, RGk_guard, opK_to, feet_f, feet_t, foot_mk, stepK_mk, stepK_v, stepK_no, guardG_t, guardG_f, guardG_no, condG_b, evT, Opd.ev, get_hit, get_next, app_to, app_no, app_up, app_skip, app_skipn, know_mk, knowO_t, knowO_c, envFrom, reserve, keeps, LOp.isNew, State.prune, cellsQ, cellsT, AV.leaf, Heap.at, evLoad_ptr, evLoad_dptr, loadO_vec, loadO_dvec1, stepK_load_map, idx_I, idx_U, idx_Rat, idx_Loc, idx_Act, idx_Step, idx_Stamp, stepK_idx_ref, evStore_ptr, storeO_vec, stepK_store_map1, loadDT_f, rowI, rowU, RatG.row, LocG.row, ActG.row, StepG.row, StampG.row, ActG.av, ActG.eta, RatG.eta, LocG.eta, beq_true, beq_false, loadDT_t, set_rowI, set_rowU, app_rowI, app_rowU, rep_rowI, rep_rowU, set_rowRat, app_rowRat, rep_rowRat, set_rowLoc, app_rowLoc, app_rowAct, app_rowStep, List.length_set, List.length_replicate, Int.toNat_natCast, Int.reduceToNat, evLen, evAppend, srcOf, Src.all, Src.len, Src.leaf, joinV, drows_rep1, drows_rep2, drows_rep3, drows_rep4, drows_rep5, drows_rep6, drows_rep7, drows_rep8, mkVec, drows, evMk, List.length_map, take_mapF, drop_mapF, List.take_length, List.take_left, List.length_append, Nat.le_add_right, ite_self, List.take_of_length_le, evSlice, intOr, intOpd, Option.isSome_none, Option.isSome_some, Nat.sub_zero, loadQ, loadT, evBin, evUn, binT, binQ, chk, apartF, List.contains_cons, List.contains_nil, Bool.or_false, Bool.false_or, Bool.and_self, resQ, resV, resT, pickV, evCallT, evCall, fnOf, viewsT, viewT, evInt2, evEq, eqV, eqK, eqC1, buildQ, buildT, buildRQ, buildRT, lens_I, lensA_I, lens_U, lensA_U, lens_Rat, lensA_Rat, lens_Loc, lensA_Loc, lens_Act, lensA_Act, lens_Step, lensA_Step, lens_Stamp, lensA_Stamp, List.mem_cons, List.not_mem_nil, or_false, forall_eq, putRow, dcells, get_nil, RetS, RetF, RetD, AV.frz, AV.frzL, AV.freshP, AV.freshL, DV.less, scal_int, scal_bool, scal_nil, scal_rowI, scal_rowU, scal_rowRat, scal_rowStep, scal_rowF, scal_flt, idx_F, app_rowF, lens_F, lensA_F, rowF_len, loadF, getF, evFl, fltQ, fltT, quoV, cmpQ, cmpT, DV.flt.injEq, Option.some.injEq, AV.tup.injEq, AV.agg.injEq, List.cons.injEq, DV.list.injEq, List.isEmpty_nil, Nat.le_refl, AV.d.injEq, DV.int.injEq, DV.bool.injEq, ↓reduceIte, Nat.reduceEqDiff, Nat.reduceAdd, Nat.reduceBEq, List.length_cons, List.length_nil, List.replicate_succ, List.replicate_zero, List.nil_append, List.cons_append, List.append_nil, List.foldl_cons, List.foldl_nil, List.map_cons, List.map_nil, List.all_cons, List.all_nil, List.set_cons_zero, List.set_cons_succ, List.getD_cons_zero, List.getD_cons_succ, List.drop_zero, List.drop_succ_cons, List.take_succ_cons, List.take_zero, List.flatten_cons, List.flatten_nil, Bool.true_and, Bool.and_true, Bool.not_true, Bool.not_false, true_and, and_true, true_or, or_true, Option.bind_some, Option.map_some, decide_true, decide_false, beq_self_eq_true, true_implies, false_implies, implies_true, not_true_eq_false, not_false_eq_true, and_self, Bool.and_false, Bool.false_and, Nat.reduceLT, Nat.reduceLeDiff, List.reverse_cons, List.reverse_nil, Nat.zero_add, Nat.add_zero, Bool.false_eq_true, List.getElem?_cons_zero, F1, G1, F2, G2, F3, G3, at_true, at_wOf, at_inf, e0, e1]
    · have e1 : fOf u 0 = some (fInf u) := fOf_zero u hu hu0
      simp only [↓vck_skip, ↓vck_ret, ↓vck_exit, ↓vck_region, ↓vck_nilq, ↓nilTo_to, nilG_d, nilG_r, ↓vck_seq, ↓vck_cond, ↓vck_block, ↓vck_loop, ↓vckTo_to, ↓thenK_n, ↓thenK_x, ↓thenK_r, ↓blockK_n, ↓blockK_x, ↓blockK_o, ↓blockK_r, ↓regK_to, ↓retK_r, ↓retK_n, ↓loopV_n, ↓loopV_x, ↓loopV_r, ↓famK_n, ↓famK_x, ↓famK_r, ↓boolK_true, ↓boolK_false, ↓boolK_not, ↓boolK_dec, ↓boolK_and, nf_mk, RGk_end_f, RGk_end_t, RGk_op, RGk_guard, opK_to, feet_f, feet_t, foot_mk, stepK_mk, stepK_v, stepK_no, guardG_t, guardG_f, guardG_no, condG_b, evT, Opd.ev, get_hit, get_next, app_to, app_no, app_up, app_skip, app_skipn, know_mk, knowO_t, knowO_c, envFrom, reserve, keeps, LOp.isNew, State.prune, cellsQ, cellsT, AV.leaf, Heap.at, evLoad_ptr, evLoad_dptr, loadO_vec, loadO_dvec1, stepK_load_map, idx_I, idx_U, idx_Rat, idx_Loc, idx_Act, idx_Step, idx_Stamp, stepK_idx_ref, evStore_ptr, storeO_vec, stepK_store_map1, loadDT_f, rowI, rowU, RatG.row, LocG.row, ActG.row, StepG.row, StampG.row, ActG.av, ActG.eta, RatG.eta, LocG.eta, beq_true, beq_false, loadDT_t, set_rowI, set_rowU, app_rowI, app_rowU, rep_rowI, rep_rowU, set_rowRat, app_rowRat, rep_rowRat, set_rowLoc, app_rowLoc, app_rowAct, app_rowStep, List.length_set, List.length_replicate, Int.toNat_natCast, Int.reduceToNat, evLen, evAppend, srcOf, Src.all, Src.len, Src.leaf, joinV, drows_rep1, drows_rep2, drows_rep3, drows_rep4, drows_rep5, drows_rep6, drows_rep7, drows_rep8, mkVec, drows, evMk, List.length_map, take_mapF, drop_mapF, List.take_length, List.take_left, List.length_append, Nat.le_add_right, ite_self, List.take_of_length_le, evSlice, intOr, intOpd, Option.isSome_none, Option.isSome_some, Nat.sub_zero, loadQ, loadT, evBin, evUn, binT, binQ, chk, apartF, List.contains_cons, List.contains_nil, Bool.or_false, Bool.false_or, Bool.and_self, resQ, resV, resT, pickV, evCallT, evCall, fnOf, viewsT, viewT, evInt2, evEq, eqV, eqK, eqC1, buildQ, buildT, buildRQ, buildRT, lens_I, lensA_I, lens_U, lensA_U, lens_Rat, lensA_Rat, lens_Loc, lensA_Loc, lens_Act, lensA_Act, lens_Step, lensA_Step, lens_Stamp, lensA_Stamp, List.mem_cons, List.not_mem_nil, or_false, forall_eq, putRow, dcells, get_nil, RetS, RetF, RetD, AV.frz, AV.frzL, AV.freshP, AV.freshL, DV.less, scal_int, scal_bool, scal_nil, scal_rowI, scal_rowU, scal_rowRat, scal_rowStep, scal_rowF, scal_flt, idx_F, app_rowF, lens_F, lensA_F, rowF_len, loadF, getF, evFl, fltQ, fltT, quoV, cmpQ, cmpT, DV.flt.injEq, Option.some.injEq, AV.tup.injEq, AV.agg.injEq, List.cons.injEq, DV.list.injEq, List.isEmpty_nil, Nat.le_refl, AV.d.injEq, DV.int.injEq, DV.bool.injEq, ↓reduceIte, Nat.reduceEqDiff, Nat.reduceAdd, Nat.reduceBEq, List.length_cons, List.length_nil, List.replicate_succ, List.replicate_zero, List.nil_append, List.cons_append, List.append_nil, List.foldl_cons, List.foldl_nil, List.map_cons, List.map_nil, List.all_cons, List.all_nil, List.set_cons_zero, List.set_cons_succ, List.getD_cons_zero, List.getD_cons_succ, List.drop_zero, List.drop_succ_cons, List.take_succ_cons, List.take_zero, List.flatten_cons, List.flatten_nil, Bool.true_and, Bool.and_true, Bool.not_true, Bool.not_false, true_and, and_true, true_or, or_true, Option.bind_some, Option.map_some, decide_true, decide_false, beq_self_eq_true, true_implies, false_implies, implies_true, not_true_eq_false, not_false_eq_true, and_self, Bool.and_false, Bool.false_and, Nat.reduceLT, Nat.reduceLeDiff, List.reverse_cons, List.reverse_nil, Nat.zero_add, Nat.add_zero, Bool.false_eq_true, List.getElem?_cons_zero, F1, G1, F2, G2, F3, G3, at_true, at_wOf, at_inf, e0, e1]
      refine ⟨fun h => absurd h hu0, fun _ => ⟨fun h => ?_, fun h => ⟨fun h2 => ?_, fun h2 => absurd hu0 (by omega)⟩⟩⟩
      · have e : fInf u = fInf 1 := by unfold fInf; rw [if_pos (by omega), if_pos (by omega)]
        have e2 : (FloatKind.f64.format.order (fInf 1) (fInf 1) == some Ordering.eq) = true := by decide
        rw [e, e2]
        exact ⟨fun _ => trivial, fun h => absurd h (by simp)⟩
      · have e : fInf u = fInf (-1) := by unfold fInf; rw [if_neg (by omega), if_neg (by omega)]
        rw [e]; decide
  · obtain ⟨r, e1, hr, hn⟩ := fOf_some u l hu hl h0
    simp only [↓vck_skip, ↓vck_ret, ↓vck_exit, ↓vck_region, ↓vck_nilq, ↓nilTo_to, nilG_d, nilG_r, ↓vck_seq, ↓vck_cond, ↓vck_block, ↓vck_loop, ↓vckTo_to, ↓thenK_n, ↓thenK_x, ↓thenK_r, ↓blockK_n, ↓blockK_x, ↓blockK_o, ↓blockK_r, ↓regK_to, ↓retK_r, ↓retK_n, ↓loopV_n, ↓loopV_x, ↓loopV_r, ↓famK_n, ↓famK_x, ↓famK_r, ↓boolK_true, ↓boolK_false, ↓boolK_not, ↓boolK_dec, ↓boolK_and, nf_mk, RGk_end_f, RGk_end_t, RGk_op, RGk_guard, opK_to, feet_f, feet_t, foot_mk, stepK_mk, stepK_v, stepK_no, guardG_t, guardG_f, guardG_no, condG_b, evT, Opd.ev, get_hit, get_next, app_to, app_no, app_up, app_skip, app_skipn, know_mk, knowO_t, knowO_c, envFrom, reserve, keeps, LOp.isNew, State.prune, cellsQ, cellsT, AV.leaf, Heap.at, evLoad_ptr, evLoad_dptr, loadO_vec, loadO_dvec1, stepK_load_map, idx_I, idx_U, idx_Rat, idx_Loc, idx_Act, idx_Step, idx_Stamp, stepK_idx_ref, evStore_ptr, storeO_vec, stepK_store_map1, loadDT_f, rowI, rowU, RatG.row, LocG.row, ActG.row, StepG.row, StampG.row, ActG.av, ActG.eta, RatG.eta, LocG.eta, beq_true, beq_false, loadDT_t, set_rowI, set_rowU, app_rowI, app_rowU, rep_rowI, rep_rowU, set_rowRat, app_rowRat, rep_rowRat, set_rowLoc, app_rowLoc, app_rowAct, app_rowStep, List.length_set, List.length_replicate, Int.toNat_natCast, Int.reduceToNat, evLen, evAppend, srcOf, Src.all, Src.len, Src.leaf, joinV, drows_rep1, drows_rep2, drows_rep3, drows_rep4, drows_rep5, drows_rep6, drows_rep7, drows_rep8, mkVec, drows, evMk, List.length_map, take_mapF, drop_mapF, List.take_length, List.take_left, List.length_append, Nat.le_add_right, ite_self, List.take_of_length_le, evSlice, intOr, intOpd, Option.isSome_none, Option.isSome_some, Nat.sub_zero, loadQ, loadT, evBin, evUn, binT, binQ, chk, apartF, List.contains_cons, List.contains_nil, Bool.or_false, Bool.false_or, Bool.and_self, resQ, resV, resT, pickV, evCallT, evCall, fnOf, viewsT, viewT, evInt2, evEq, eqV, eqK, eqC1, buildQ, buildT, buildRQ, buildRT, lens_I, lensA_I, lens_U, lensA_U, lens_Rat, lensA_Rat, lens_Loc, lensA_Loc, lens_Act, lensA_Act, lens_Step, lensA_Step, lens_Stamp, lensA_Stamp, List.mem_cons, List.not_mem_nil, or_false, forall_eq, putRow, dcells, get_nil, RetS, RetF, RetD, AV.frz, AV.frzL, AV.freshP, AV.freshL, DV.less, scal_int, scal_bool, scal_nil, scal_rowI, scal_rowU, scal_rowRat, scal_rowStep, scal_rowF, scal_flt, idx_F, app_rowF, lens_F, lensA_F, rowF_len, loadF, getF, evFl, fltQ, fltT, quoV, cmpQ, cmpT, DV.flt.injEq, Option.some.injEq, AV.tup.injEq, AV.agg.injEq, List.cons.injEq, DV.list.injEq, List.isEmpty_nil, Nat.le_refl, AV.d.injEq, DV.int.injEq, DV.bool.injEq, ↓reduceIte, Nat.reduceEqDiff, Nat.reduceAdd, Nat.reduceBEq, List.length_cons, List.length_nil, List.replicate_succ, List.replicate_zero, List.nil_append, List.cons_append, List.append_nil, List.foldl_cons, List.foldl_nil, List.map_cons, List.map_nil, List.all_cons, List.all_nil, List.set_cons_zero, List.set_cons_succ, List.getD_cons_zero, List.getD_cons_succ, List.drop_zero, List.drop_succ_cons, List.take_succ_cons, List.take_zero, List.flatten_cons, List.flatten_nil, Bool.true_and, Bool.and_true, Bool.not_true, Bool.not_false, true_and, and_true, true_or, or_true, Option.bind_some, Option.map_some, decide_true, decide_false, beq_self_eq_true, true_implies, false_implies, implies_true, not_true_eq_false, not_false_eq_true, and_self, Bool.and_false, Bool.false_and, Nat.reduceLT, Nat.reduceLeDiff, List.reverse_cons, List.reverse_nil, Nat.zero_add, Nat.add_zero, Bool.false_eq_true, List.getElem?_cons_zero, F1, G1, F2, G2, F3, G3, at_true, at_wOf, at_inf, e0, e1]
    refine ⟨fun h => absurd h h0, fun _ => ?_⟩
    rw [ord_eq hr hr, hn]; simp
end Go.Ago
