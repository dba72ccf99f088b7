/- The contracts of package rat. Conditions: none. -/
import Derived.Test.YtlphhmgfjdecjaaAgo30
import Derived.Test.YtlphhmgfjdecjaaAgoLowRat
set_option maxRecDepth 100000
set_option linter.unusedSimpArgs false
set_option linter.unusedVariables false
namespace Go.Ago

def rat_right (a b : Int) : Bool := decide (1 ≤ b) && decide (b ≤ 1024) && decide (-1048576 ≤ a) && decide (a ≤ 1048576)

theorem right_iff {a b : Int} : rat_right a b = true ↔ 1 ≤ b ∧ b ≤ 1024 ∧ -1048576 ≤ a ∧ a ≤ 1048576 := by simp [rat_right, and_assoc]

theorem wrap_id {n : Int} (h : -9223372036854775808 ≤ n) (h' : n ≤ 9223372036854775807) : IntKind.wrap .i64 n = n := by
  simp [IntKind.wrap, IntKind.signed, IntKind.bits]
  split <;> omega

def sp_rat_Right : Sp := ⟨Int × Int, fun x => [.agg [.d (.int .i64 x.1), .d (.int .i64 x.2)]], fun x => .data True (.d (.bool (rat_right x.1 x.2))) true⟩
theorem at_rat_Right (a b : Int) : sp_rat_Right.at [.agg [.d (.int .i64 a), .d (.int .i64 b)]] = .data True (.d (.bool (rat_right a b))) true :=
  Sp.at_enc (s := sp_rat_Right) (fun x y h => by obtain ⟨a, b⟩ := x; obtain ⟨c, d⟩ := y; simpa [sp_rat_Right] using h) (a, b)

theorem body_rat_Right {T : Tab} : sp_rat_Right.Body T V_rat_Right L_rat_Right R_rat_Right := by
  rintro ⟨a, b⟩ -
  refine .inl ⟨rfl, ?_⟩
  unfold V_rat_Right L_rat_Right R_rat_Right
  simp only [↓vck_skip, ↓vck_ret, ↓vck_exit, ↓vck_region, ↓vck_nilq, ↓nilTo_to, nilG_d, nilG_r, ↓vck_seq, ↓vck_cond, ↓vck_block, ↓vck_loop, ↓vckTo_to, ↓thenK_n, ↓thenK_x, ↓thenK_r, ↓blockK_n, ↓blockK_x, ↓blockK_o, ↓blockK_r, ↓regK_to, ↓retK_r, ↓retK_n, ↓loopV_n, ↓loopV_x, ↓loopV_r, ↓famK_n, ↓famK_x, ↓famK_r, ↓boolK_true, ↓boolK_false, ↓boolK_not, ↓boolK_dec, ↓boolK_and, nf_mk, RGk_end_f, RGk_end_t, RGk_op, RGk_guard, opK_to, feet_f, feet_t, foot_mk, stepK_mk, stepK_v, stepK_no, guardG_t, guardG_f, guardG_no, condG_b, evT, Opd.ev, get_hit, get_next, app_to, app_no, app_up, app_skip, app_skipn, know_mk, knowO_t, knowO_c, envFrom, reserve, keeps, LOp.isNew, State.prune, cellsQ, cellsT, AV.leaf, Heap.at, evLoad_ptr, evLoad_dptr, loadO_vec, loadO_dvec1, stepK_load_map, idx_I, idx_U, idx_Rat, idx_Loc, idx_Act, idx_Step, idx_Stamp, stepK_idx_ref, evStore_ptr, storeO_vec, stepK_store_map1, loadDT_f, rowI, rowU, RatG.row, LocG.row, ActG.row, StepG.row, StampG.row, ActG.av, ActG.eta, RatG.eta, LocG.eta, beq_true, beq_false, loadDT_t, set_rowI, set_rowU, app_rowI, app_rowU, rep_rowI, rep_rowU, set_rowRat, app_rowRat, rep_rowRat, set_rowLoc, app_rowLoc, app_rowAct, app_rowStep, List.length_set, List.length_replicate, Int.toNat_natCast, Int.reduceToNat, evLen, evAppend, srcOf, Src.all, Src.len, Src.leaf, joinV, drows_rep1, drows_rep2, drows_rep3, drows_rep4, drows_rep5, drows_rep6, drows_rep7, drows_rep8, mkVec, drows, evMk, List.length_map, take_map_len, take_map_ge, loadQ, loadT, evBin, evUn, binT, binQ, chk, apartF, List.contains_cons, List.contains_nil, Bool.or_false, Bool.false_or, Bool.and_self, resQ, resV, resT, pickV, evCallT, evCall, fnOf, viewsT, viewT, evInt2, evEq, eqV, eqK, eqC1, buildQ, buildT, buildRQ, buildRT, lens_I, lensA_I, lens_U, lensA_U, lens_Rat, lensA_Rat, lens_Loc, lensA_Loc, lens_Act, lensA_Act, lens_Step, lensA_Step, lens_Stamp, lensA_Stamp, List.mem_cons, List.not_mem_nil, or_false, forall_eq, putRow, dcells, get_nil, RetS, RetF, RetD, AV.frz, AV.frzL, AV.freshP, AV.freshL, DV.less, scal_int, scal_bool, scal_nil, scal_rowI, scal_rowU, scal_rowRat, scal_rowStep, Option.some.injEq, AV.tup.injEq, AV.agg.injEq, List.cons.injEq, DV.list.injEq, List.isEmpty_nil, Nat.le_refl, AV.d.injEq, DV.int.injEq, DV.bool.injEq, ↓reduceIte, Nat.reduceEqDiff, Nat.reduceAdd, Nat.reduceBEq, List.length_cons, List.length_nil, List.replicate_succ, List.replicate_zero, List.nil_append, List.cons_append, List.append_nil, List.foldl_cons, List.foldl_nil, List.map_cons, List.map_nil, List.all_cons, List.all_nil, List.set_cons_zero, List.set_cons_succ, List.getD_cons_zero, List.getD_cons_succ, List.drop_zero, List.drop_succ_cons, List.take_succ_cons, List.take_zero, List.flatten_cons, List.flatten_nil, Bool.true_and, Bool.and_true, Bool.not_true, Bool.not_false, true_and, and_true, true_or, or_true, Option.bind_some, Option.map_some, decide_true, decide_false, beq_self_eq_true, true_implies, false_implies, implies_true, not_true_eq_false, not_false_eq_true, and_self, Bool.and_false, Bool.false_and, Nat.reduceLT, Nat.reduceLeDiff, List.reverse_cons, List.reverse_nil, Nat.zero_add, Nat.add_zero, Bool.false_eq_true, List.getElem?_cons_zero, sp_rat_Right]
  simp only [RetS, rat_right, AV.d.injEq, DV.bool.injEq]
  refine ⟨fun h1 => ⟨fun h2 => ⟨fun h3 => ?_, fun h3 => ?_⟩, fun h2 => ?_⟩, fun h1 => ?_⟩ <;> simp [*]

def sgn (d : Int) : Int := if d < 0 then -1 else if 0 < d then 1 else 0
def rat_cmp (a b c d : Int) : Int := if rat_right a b && rat_right c d then sgn (a * d - c * b) else 0

theorem mul_bd {a d : Int} (h1 : -1048576 ≤ a) (h2 : a ≤ 1048576) (h3 : 1 ≤ d) (h4 : d ≤ 1024) : -1073741824 ≤ a * d ∧ a * d ≤ 1073741824 := by
  have e1 : a * d ≤ 1048576 * d := Int.mul_le_mul_of_nonneg_right h2 (by omega)
  have e2 : -1048576 * d ≤ a * d := Int.mul_le_mul_of_nonneg_right h1 (by omega)
  omega

def sp_rat_Cmp : Sp := ⟨Int × Int × Int × Int, fun x => [.agg [.d (.int .i64 x.1), .d (.int .i64 x.2.1)], .agg [.d (.int .i64 x.2.2.1), .d (.int .i64 x.2.2.2)]], fun x => .data True (.d (.int .i64 (rat_cmp x.1 x.2.1 x.2.2.1 x.2.2.2))) true⟩
theorem at_rat_Cmp (a b c d : Int) : sp_rat_Cmp.at [.agg [.d (.int .i64 a), .d (.int .i64 b)], .agg [.d (.int .i64 c), .d (.int .i64 d)]] = .data True (.d (.int .i64 (rat_cmp a b c d))) true :=
  Sp.at_enc (s := sp_rat_Cmp) (fun x y h => by obtain ⟨a, b, c, d⟩ := x; obtain ⟨a', b', c', d'⟩ := y; simpa [sp_rat_Cmp, and_assoc] using h) (a, b, c, d)

theorem body_rat_Cmp {T : Tab} {n1 : Nat} (k1 : Knows T n1 sp_rat_Right) : sp_rat_Cmp.Body T V_rat_Cmp (L_rat_Cmp n1) R_rat_Cmp := by
  have F1 := k1.F; have G1 := k1.G
  rintro ⟨a, b, c, d⟩ -
  refine .inl ⟨rfl, ?_⟩
  unfold V_rat_Cmp L_rat_Cmp R_rat_Cmp
  simp only [↓vck_skip, ↓vck_ret, ↓vck_exit, ↓vck_region, ↓vck_nilq, ↓nilTo_to, nilG_d, nilG_r, ↓vck_seq, ↓vck_cond, ↓vck_block, ↓vck_loop, ↓vckTo_to, ↓thenK_n, ↓thenK_x, ↓thenK_r, ↓blockK_n, ↓blockK_x, ↓blockK_o, ↓blockK_r, ↓regK_to, ↓retK_r, ↓retK_n, ↓loopV_n, ↓loopV_x, ↓loopV_r, ↓famK_n, ↓famK_x, ↓famK_r, ↓boolK_true, ↓boolK_false, ↓boolK_not, ↓boolK_dec, ↓boolK_and, nf_mk, RGk_end_f, RGk_end_t, RGk_op, RGk_guard, opK_to, feet_f, feet_t, foot_mk, stepK_mk, stepK_v, stepK_no, guardG_t, guardG_f, guardG_no, condG_b, evT, Opd.ev, get_hit, get_next, app_to, app_no, app_up, app_skip, app_skipn, know_mk, knowO_t, knowO_c, envFrom, reserve, keeps, LOp.isNew, State.prune, cellsQ, cellsT, AV.leaf, Heap.at, evLoad_ptr, evLoad_dptr, loadO_vec, loadO_dvec1, stepK_load_map, idx_I, idx_U, idx_Rat, idx_Loc, idx_Act, idx_Step, idx_Stamp, stepK_idx_ref, evStore_ptr, storeO_vec, stepK_store_map1, loadDT_f, rowI, rowU, RatG.row, LocG.row, ActG.row, StepG.row, StampG.row, ActG.av, ActG.eta, RatG.eta, LocG.eta, beq_true, beq_false, loadDT_t, set_rowI, set_rowU, app_rowI, app_rowU, rep_rowI, rep_rowU, set_rowRat, app_rowRat, rep_rowRat, set_rowLoc, app_rowLoc, app_rowAct, app_rowStep, List.length_set, List.length_replicate, Int.toNat_natCast, Int.reduceToNat, evLen, evAppend, srcOf, Src.all, Src.len, Src.leaf, joinV, drows_rep1, drows_rep2, drows_rep3, drows_rep4, drows_rep5, drows_rep6, drows_rep7, drows_rep8, mkVec, drows, evMk, List.length_map, take_map_len, take_map_ge, loadQ, loadT, evBin, evUn, binT, binQ, chk, apartF, List.contains_cons, List.contains_nil, Bool.or_false, Bool.false_or, Bool.and_self, resQ, resV, resT, pickV, evCallT, evCall, fnOf, viewsT, viewT, evInt2, evEq, eqV, eqK, eqC1, buildQ, buildT, buildRQ, buildRT, lens_I, lensA_I, lens_U, lensA_U, lens_Rat, lensA_Rat, lens_Loc, lensA_Loc, lens_Act, lensA_Act, lens_Step, lensA_Step, lens_Stamp, lensA_Stamp, List.mem_cons, List.not_mem_nil, or_false, forall_eq, putRow, dcells, get_nil, RetS, RetF, RetD, AV.frz, AV.frzL, AV.freshP, AV.freshL, DV.less, scal_int, scal_bool, scal_nil, scal_rowI, scal_rowU, scal_rowRat, scal_rowStep, Option.some.injEq, AV.tup.injEq, AV.agg.injEq, List.cons.injEq, DV.list.injEq, List.isEmpty_nil, Nat.le_refl, AV.d.injEq, DV.int.injEq, DV.bool.injEq, ↓reduceIte, Nat.reduceEqDiff, Nat.reduceAdd, Nat.reduceBEq, List.length_cons, List.length_nil, List.replicate_succ, List.replicate_zero, List.nil_append, List.cons_append, List.append_nil, List.foldl_cons, List.foldl_nil, List.map_cons, List.map_nil, List.all_cons, List.all_nil, List.set_cons_zero, List.set_cons_succ, List.getD_cons_zero, List.getD_cons_succ, List.drop_zero, List.drop_succ_cons, List.take_succ_cons, List.take_zero, List.flatten_cons, List.flatten_nil, Bool.true_and, Bool.and_true, Bool.not_true, Bool.not_false, true_and, and_true, true_or, or_true, Option.bind_some, Option.map_some, decide_true, decide_false, beq_self_eq_true, true_implies, false_implies, implies_true, not_true_eq_false, not_false_eq_true, and_self, Bool.and_false, Bool.false_and, Nat.reduceLT, Nat.reduceLeDiff, List.reverse_cons, List.reverse_nil, Nat.zero_add, Nat.add_zero, Bool.false_eq_true, List.getElem?_cons_zero, sp_rat_Cmp, F1, G1, at_rat_Right, RetS, AV.d.injEq, DV.int.injEq]
  refine ⟨fun h1 => ⟨fun h2 => ?_, fun h2 => by simp [rat_cmp, h1, h2]⟩, fun h1 => by simp [rat_cmp, h1]⟩
  obtain ⟨r1, r2, r3, r4⟩ := right_iff.1 h1
  obtain ⟨s1, s2, s3, s4⟩ := right_iff.1 h2
  have e1 := mul_bd r3 r4 s1 s2
  have e2 := mul_bd s3 s4 r1 r2
  simp only [rat_cmp, h1, h2, sgn, Bool.and_self, if_true, wrap_id (n := a * d) (by omega) (by omega), wrap_id (n := c * b) (by omega) (by omega)]
  generalize a * d = p at *
  generalize c * b = q at *
  refine ⟨fun h => ?_, fun h => ⟨fun h' => ?_, fun h' => ?_⟩⟩
  · rw [if_pos (by omega)]
  · rw [if_neg (by omega), if_pos (by omega)]
  · rw [if_neg (by omega), if_neg (by omega)]

def gcdI (a b : Int) : Int := (Nat.gcd a.natAbs b.natAbs : Nat)

theorem gcdI_step {a b : Int} (ha : 0 ≤ a) (hb : 0 ≤ b) : gcdI b (a.tmod b) = gcdI a b := by
  unfold gcdI
  congr 1
  rw [Int.natAbs_tmod, Nat.gcd_comm, ← Nat.gcd_rec, Nat.gcd_comm]

def sp_rat_gcd : Sp := ⟨Int × Int, fun x => [.d (.int .i64 x.1), .d (.int .i64 x.2)], fun x => .data (0 ≤ x.1 ∧ 0 ≤ x.2) (.d (.int .i64 (gcdI x.1 x.2))) true⟩
theorem at_rat_gcd (a b : Int) : sp_rat_gcd.at [.d (.int .i64 a), .d (.int .i64 b)] = .data (0 ≤ a ∧ 0 ≤ b) (.d (.int .i64 (gcdI a b))) true :=
  Sp.at_enc (s := sp_rat_gcd) (fun x y h => by obtain ⟨a, b⟩ := x; obtain ⟨c, d⟩ := y; simpa [sp_rat_gcd] using h) (a, b)

theorem body_rat_gcd {T : Tab} : sp_rat_gcd.Body T V_rat_gcd L_rat_gcd R_rat_gcd := by
  rintro ⟨a, b⟩ ⟨ha, hb⟩
  refine .inl ⟨rfl, ?_⟩
  unfold V_rat_gcd L_rat_gcd R_rat_gcd
  simp only [↓vck_skip, ↓vck_ret, ↓vck_exit, ↓vck_region, ↓vck_nilq, ↓nilTo_to, nilG_d, nilG_r, ↓vck_seq, ↓vck_cond, ↓vck_block, ↓vck_loop, ↓vckTo_to, ↓thenK_n, ↓thenK_x, ↓thenK_r, ↓blockK_n, ↓blockK_x, ↓blockK_o, ↓blockK_r, ↓regK_to, ↓retK_r, ↓retK_n, ↓loopV_n, ↓loopV_x, ↓loopV_r, ↓famK_n, ↓famK_x, ↓famK_r, ↓boolK_true, ↓boolK_false, ↓boolK_not, ↓boolK_dec, ↓boolK_and, nf_mk, RGk_end_f, RGk_end_t, RGk_op, RGk_guard, opK_to, feet_f, feet_t, foot_mk, stepK_mk, stepK_v, stepK_no, guardG_t, guardG_f, guardG_no, condG_b, evT, Opd.ev, get_hit, get_next, app_to, app_no, app_up, app_skip, app_skipn, know_mk, knowO_t, knowO_c, envFrom, reserve, keeps, LOp.isNew, State.prune, cellsQ, cellsT, AV.leaf, Heap.at, evLoad_ptr, evLoad_dptr, loadO_vec, loadO_dvec1, stepK_load_map, idx_I, idx_U, idx_Rat, idx_Loc, idx_Act, idx_Step, idx_Stamp, stepK_idx_ref, evStore_ptr, storeO_vec, stepK_store_map1, loadDT_f, rowI, rowU, RatG.row, LocG.row, ActG.row, StepG.row, StampG.row, ActG.av, ActG.eta, RatG.eta, LocG.eta, beq_true, beq_false, loadDT_t, set_rowI, set_rowU, app_rowI, app_rowU, rep_rowI, rep_rowU, set_rowRat, app_rowRat, rep_rowRat, set_rowLoc, app_rowLoc, app_rowAct, app_rowStep, List.length_set, List.length_replicate, Int.toNat_natCast, Int.reduceToNat, evLen, evAppend, srcOf, Src.all, Src.len, Src.leaf, joinV, drows_rep1, drows_rep2, drows_rep3, drows_rep4, drows_rep5, drows_rep6, drows_rep7, drows_rep8, mkVec, drows, evMk, List.length_map, take_map_len, take_map_ge, loadQ, loadT, evBin, evUn, binT, binQ, chk, apartF, List.contains_cons, List.contains_nil, Bool.or_false, Bool.false_or, Bool.and_self, resQ, resV, resT, pickV, evCallT, evCall, fnOf, viewsT, viewT, evInt2, evEq, eqV, eqK, eqC1, buildQ, buildT, buildRQ, buildRT, lens_I, lensA_I, lens_U, lensA_U, lens_Rat, lensA_Rat, lens_Loc, lensA_Loc, lens_Act, lensA_Act, lens_Step, lensA_Step, lens_Stamp, lensA_Stamp, List.mem_cons, List.not_mem_nil, or_false, forall_eq, putRow, dcells, get_nil, RetS, RetF, RetD, AV.frz, AV.frzL, AV.freshP, AV.freshL, DV.less, scal_int, scal_bool, scal_nil, scal_rowI, scal_rowU, scal_rowRat, scal_rowStep, Option.some.injEq, AV.tup.injEq, AV.agg.injEq, List.cons.injEq, DV.list.injEq, List.isEmpty_nil, Nat.le_refl, AV.d.injEq, DV.int.injEq, DV.bool.injEq, ↓reduceIte, Nat.reduceEqDiff, Nat.reduceAdd, Nat.reduceBEq, List.length_cons, List.length_nil, List.replicate_succ, List.replicate_zero, List.nil_append, List.cons_append, List.append_nil, List.foldl_cons, List.foldl_nil, List.map_cons, List.map_nil, List.all_cons, List.all_nil, List.set_cons_zero, List.set_cons_succ, List.getD_cons_zero, List.getD_cons_succ, List.drop_zero, List.drop_succ_cons, List.take_succ_cons, List.take_zero, List.flatten_cons, List.flatten_nil, Bool.true_and, Bool.and_true, Bool.not_true, Bool.not_false, true_and, and_true, true_or, or_true, Option.bind_some, Option.map_some, decide_true, decide_false, beq_self_eq_true, true_implies, false_implies, implies_true, not_true_eq_false, not_false_eq_true, and_self, Bool.and_false, Bool.false_and, Nat.reduceLT, Nat.reduceLeDiff, List.reverse_cons, List.reverse_nil, Nat.zero_add, Nat.add_zero, Bool.false_eq_true, List.getElem?_cons_zero, sp_rat_gcd]
  refine Loop.fam [0, 1] (fun x : Int × Int => ⟨[(0, .d (.int .i64 x.1)), (1, .d (.int .i64 x.2))], []⟩) (fun x => 0 ≤ x.1 ∧ 0 ≤ x.2 ∧ gcdI x.1 x.2 = gcdI a b) (fun x => x.2.toNat) (a, b) [] (by simp) (by simp)
    (by simp only [State.can, AV.can, AV.canL, HO.can, canRows, idx, get_hit, get_next, Heap.at, Nat.reduceBEq, ↓reduceIte, Nat.reduceEqDiff, Option.getD_some, Option.map_some, List.map_cons, List.map_nil, List.getD_cons_zero, List.getD_cons_succ]) ⟨ha, hb, rfl⟩ ?_
  rintro ⟨x, y⟩ ⟨hx, hy, hg⟩
  simp only [↓vck_skip, ↓vck_ret, ↓vck_exit, ↓vck_region, ↓vck_nilq, ↓nilTo_to, nilG_d, nilG_r, ↓vck_seq, ↓vck_cond, ↓vck_block, ↓vck_loop, ↓vckTo_to, ↓thenK_n, ↓thenK_x, ↓thenK_r, ↓blockK_n, ↓blockK_x, ↓blockK_o, ↓blockK_r, ↓regK_to, ↓retK_r, ↓retK_n, ↓loopV_n, ↓loopV_x, ↓loopV_r, ↓famK_n, ↓famK_x, ↓famK_r, ↓boolK_true, ↓boolK_false, ↓boolK_not, ↓boolK_dec, ↓boolK_and, nf_mk, RGk_end_f, RGk_end_t, RGk_op, RGk_guard, opK_to, feet_f, feet_t, foot_mk, stepK_mk, stepK_v, stepK_no, guardG_t, guardG_f, guardG_no, condG_b, evT, Opd.ev, get_hit, get_next, app_to, app_no, app_up, app_skip, app_skipn, know_mk, knowO_t, knowO_c, envFrom, reserve, keeps, LOp.isNew, State.prune, cellsQ, cellsT, AV.leaf, Heap.at, evLoad_ptr, evLoad_dptr, loadO_vec, loadO_dvec1, stepK_load_map, idx_I, idx_U, idx_Rat, idx_Loc, idx_Act, idx_Step, idx_Stamp, stepK_idx_ref, evStore_ptr, storeO_vec, stepK_store_map1, loadDT_f, rowI, rowU, RatG.row, LocG.row, ActG.row, StepG.row, StampG.row, ActG.av, ActG.eta, RatG.eta, LocG.eta, beq_true, beq_false, loadDT_t, set_rowI, set_rowU, app_rowI, app_rowU, rep_rowI, rep_rowU, set_rowRat, app_rowRat, rep_rowRat, set_rowLoc, app_rowLoc, app_rowAct, app_rowStep, List.length_set, List.length_replicate, Int.toNat_natCast, Int.reduceToNat, evLen, evAppend, srcOf, Src.all, Src.len, Src.leaf, joinV, drows_rep1, drows_rep2, drows_rep3, drows_rep4, drows_rep5, drows_rep6, drows_rep7, drows_rep8, mkVec, drows, evMk, List.length_map, take_map_len, take_map_ge, loadQ, loadT, evBin, evUn, binT, binQ, chk, apartF, List.contains_cons, List.contains_nil, Bool.or_false, Bool.false_or, Bool.and_self, resQ, resV, resT, pickV, evCallT, evCall, fnOf, viewsT, viewT, evInt2, evEq, eqV, eqK, eqC1, buildQ, buildT, buildRQ, buildRT, lens_I, lensA_I, lens_U, lensA_U, lens_Rat, lensA_Rat, lens_Loc, lensA_Loc, lens_Act, lensA_Act, lens_Step, lensA_Step, lens_Stamp, lensA_Stamp, List.mem_cons, List.not_mem_nil, or_false, forall_eq, putRow, dcells, get_nil, RetS, RetF, RetD, AV.frz, AV.frzL, AV.freshP, AV.freshL, DV.less, scal_int, scal_bool, scal_nil, scal_rowI, scal_rowU, scal_rowRat, scal_rowStep, Option.some.injEq, AV.tup.injEq, AV.agg.injEq, List.cons.injEq, DV.list.injEq, List.isEmpty_nil, Nat.le_refl, AV.d.injEq, DV.int.injEq, DV.bool.injEq, ↓reduceIte, Nat.reduceEqDiff, Nat.reduceAdd, Nat.reduceBEq, List.length_cons, List.length_nil, List.replicate_succ, List.replicate_zero, List.nil_append, List.cons_append, List.append_nil, List.foldl_cons, List.foldl_nil, List.map_cons, List.map_nil, List.all_cons, List.all_nil, List.set_cons_zero, List.set_cons_succ, List.getD_cons_zero, List.getD_cons_succ, List.drop_zero, List.drop_succ_cons, List.take_succ_cons, List.take_zero, List.flatten_cons, List.flatten_nil, Bool.true_and, Bool.and_true, Bool.not_true, Bool.not_false, true_and, and_true, true_or, or_true, Option.bind_some, Option.map_some, decide_true, decide_false, beq_self_eq_true, true_implies, false_implies, implies_true, not_true_eq_false, not_false_eq_true, and_self, Bool.and_false, Bool.false_and, Nat.reduceLT, Nat.reduceLeDiff, List.reverse_cons, List.reverse_nil, Nat.zero_add, Nat.add_zero, Bool.false_eq_true, List.getElem?_cons_zero, RetS]
  refine ⟨fun h => ?_, fun h => ⟨h, FamNext.mk [] (y, x.tmod y) (by simp) (by simp) (by simp only [State.can, AV.can, AV.canL, HO.can, canRows, idx, get_hit, get_next, Heap.at, Nat.reduceBEq, ↓reduceIte, Nat.reduceEqDiff, Option.getD_some, Option.map_some, List.map_cons, List.map_nil, List.getD_cons_zero, List.getD_cons_succ]) ⟨hy, Int.tmod_nonneg _ hx, by rw [← hg]; exact gcdI_step hx hy⟩ ?_⟩⟩
  · rw [← hg]
    have hx : 0 ≤ x := hx
    simp only [h, gcdI, Int.natAbs_zero, Nat.gcd_zero_right]
    congr 2; omega
  · have hy : 0 ≤ y := hy
    have := Int.tmod_lt_of_pos x (show 0 < y by omega)
    have := Int.tmod_nonneg (b := y) (a := x) hx
    show (x.tmod y).toNat < y.toNat
    omega

/-- A moment, and whether there is one. -/
def mo : Option (Int × Int) → AV
  | some (a, b) => .tup [.agg [.d (.int .i64 a), .d (.int .i64 b)], .d (.bool true)]
  | none => .tup [.agg [.d (.int .i64 0), .d (.int .i64 0)], .d (.bool false)]

def rat_least (a b : Int) : Int × Int := if rat_right a b then (a.tdiv (gcdI a b), b.tdiv (gcdI a b)) else (a, b)
def rat_max (a b c d : Int) : Int × Int := if rat_cmp a b c d < 0 then (c, d) else (a, b)
def rat_between (a b c d : Int) : Option (Int × Int) :=
  if 0 ≤ rat_cmp a b c d then none
  else if rat_right ((rat_least a b).1 + (rat_least c d).1) ((rat_least a b).2 + (rat_least c d).2) then some ((rat_least a b).1 + (rat_least c d).1, (rat_least a b).2 + (rat_least c d).2) else none
def rat_after (a b : Int) : Option (Int × Int) :=
  if rat_right a b then (if rat_right (a.fdiv b + 1) 1 then some (a.fdiv b + 1, 1) else none) else none

theorem gcdI_pos {a b : Int} (h : b ≠ 0) : 0 < gcdI a b := by
  unfold gcdI
  have := Nat.gcd_pos_of_pos_right a.natAbs (n := b.natAbs) (by omega)
  omega

theorem tdiv_bd {g a : Int} (hg : 0 < g) : (a.tdiv g).natAbs ≤ a.natAbs := by
  rw [Int.natAbs_tdiv]; exact Nat.div_le_self _ _

theorem least_bd {a b : Int} (h : rat_right a b = true) : (rat_least a b).1.natAbs ≤ a.natAbs ∧ 1 ≤ (rat_least a b).2 ∧ (rat_least a b).2 ≤ b := by
  obtain ⟨r1, r2, r3, r4⟩ := right_iff.1 h
  have g0 := gcdI_pos (a := a) (b := b) (by omega)
  simp only [rat_least, h, if_true]
  refine ⟨tdiv_bd g0, ?_, ?_⟩
  · have : gcdI a b ≤ b := by
      unfold gcdI
      have := Nat.gcd_le_right a.natAbs (n := b.natAbs) (by omega)
      omega
    rw [Int.tdiv_eq_ediv_of_nonneg (by omega)]
    exact (Int.le_ediv_iff_mul_le g0).2 (by omega)
  · have := tdiv_bd (a := b) g0
    omega

theorem cmp_neg {a b c d : Int} (h : ¬ 0 ≤ rat_cmp a b c d) : rat_right a b = true ∧ rat_right c d = true := by
  unfold rat_cmp at h
  split at h
  · simpa using ‹(rat_right a b && rat_right c d) = true›
  · omega

theorem fdiv_eq {a b : Int} (hb : 0 < b) : a.fdiv b = if a < 0 ∧ ¬ a.tmod b = 0 then a.tdiv b - 1 else a.tdiv b := by
  rw [Int.fdiv_eq_ediv_of_nonneg _ (by omega)]
  split
  · rename_i h
    have := Int.tdiv_eq_ediv (a := a) (b := b)
    have hd : ¬ b ∣ a := fun hd => h.2 (Int.tmod_eq_zero_of_dvd hd)
    rw [if_neg (by rintro (h1 | h1); omega; exact hd h1), Int.sign_eq_one_of_pos hb] at this
    omega
  · rename_i h
    have := Int.tdiv_eq_ediv (a := a) (b := b)
    rw [if_pos] at this
    · omega
    · by_cases h1 : 0 ≤ a
      · exact .inl h1
      · exact .inr (Int.dvd_of_tmod_eq_zero (Classical.byContradiction fun h2 => h ⟨by omega, h2⟩))

def sp_rat_Least : Sp := ⟨Int × Int, fun x => [.agg [.d (.int .i64 x.1), .d (.int .i64 x.2)]], fun x => .data True (.agg [.d (.int .i64 (rat_least x.1 x.2).1), .d (.int .i64 (rat_least x.1 x.2).2)]) true⟩
theorem at_rat_Least (a b : Int) : sp_rat_Least.at [.agg [.d (.int .i64 a), .d (.int .i64 b)]] = .data True (.agg [.d (.int .i64 (rat_least a b).1), .d (.int .i64 (rat_least a b).2)]) true :=
  Sp.at_enc (s := sp_rat_Least) (fun x y h => by obtain ⟨a, b⟩ := x; obtain ⟨c, d⟩ := y; simpa [sp_rat_Least] using h) (a, b)

theorem body_rat_Least {T : Tab} {n1 n2 : Nat} (k1 : Knows T n1 sp_rat_Right) (k2 : Knows T n2 sp_rat_gcd) : sp_rat_Least.Body T V_rat_Least (L_rat_Least n1 n2) R_rat_Least := by
  have F1 := k1.F; have G1 := k1.G; have F2 := k2.F; have G2 := k2.G
  rintro ⟨a, b⟩ -
  refine .inl ⟨rfl, ?_⟩
  unfold V_rat_Least L_rat_Least R_rat_Least
  simp only [↓vck_skip, ↓vck_ret, ↓vck_exit, ↓vck_region, ↓vck_nilq, ↓nilTo_to, nilG_d, nilG_r, ↓vck_seq, ↓vck_cond, ↓vck_block, ↓vck_loop, ↓vckTo_to, ↓thenK_n, ↓thenK_x, ↓thenK_r, ↓blockK_n, ↓blockK_x, ↓blockK_o, ↓blockK_r, ↓regK_to, ↓retK_r, ↓retK_n, ↓loopV_n, ↓loopV_x, ↓loopV_r, ↓famK_n, ↓famK_x, ↓famK_r, ↓boolK_true, ↓boolK_false, ↓boolK_not, ↓boolK_dec, ↓boolK_and, nf_mk, RGk_end_f, RGk_end_t, RGk_op, RGk_guard, opK_to, feet_f, feet_t, foot_mk, stepK_mk, stepK_v, stepK_no, guardG_t, guardG_f, guardG_no, condG_b, evT, Opd.ev, get_hit, get_next, app_to, app_no, app_up, app_skip, app_skipn, know_mk, knowO_t, knowO_c, envFrom, reserve, keeps, LOp.isNew, State.prune, cellsQ, cellsT, AV.leaf, Heap.at, evLoad_ptr, evLoad_dptr, loadO_vec, loadO_dvec1, stepK_load_map, idx_I, idx_U, idx_Rat, idx_Loc, idx_Act, idx_Step, idx_Stamp, stepK_idx_ref, evStore_ptr, storeO_vec, stepK_store_map1, loadDT_f, rowI, rowU, RatG.row, LocG.row, ActG.row, StepG.row, StampG.row, ActG.av, ActG.eta, RatG.eta, LocG.eta, beq_true, beq_false, loadDT_t, set_rowI, set_rowU, app_rowI, app_rowU, rep_rowI, rep_rowU, set_rowRat, app_rowRat, rep_rowRat, set_rowLoc, app_rowLoc, app_rowAct, app_rowStep, List.length_set, List.length_replicate, Int.toNat_natCast, Int.reduceToNat, evLen, evAppend, srcOf, Src.all, Src.len, Src.leaf, joinV, drows_rep1, drows_rep2, drows_rep3, drows_rep4, drows_rep5, drows_rep6, drows_rep7, drows_rep8, mkVec, drows, evMk, List.length_map, take_map_len, take_map_ge, loadQ, loadT, evBin, evUn, binT, binQ, chk, apartF, List.contains_cons, List.contains_nil, Bool.or_false, Bool.false_or, Bool.and_self, resQ, resV, resT, pickV, evCallT, evCall, fnOf, viewsT, viewT, evInt2, evEq, eqV, eqK, eqC1, buildQ, buildT, buildRQ, buildRT, lens_I, lensA_I, lens_U, lensA_U, lens_Rat, lensA_Rat, lens_Loc, lensA_Loc, lens_Act, lensA_Act, lens_Step, lensA_Step, lens_Stamp, lensA_Stamp, List.mem_cons, List.not_mem_nil, or_false, forall_eq, putRow, dcells, get_nil, RetS, RetF, RetD, AV.frz, AV.frzL, AV.freshP, AV.freshL, DV.less, scal_int, scal_bool, scal_nil, scal_rowI, scal_rowU, scal_rowRat, scal_rowStep, Option.some.injEq, AV.tup.injEq, AV.agg.injEq, List.cons.injEq, DV.list.injEq, List.isEmpty_nil, Nat.le_refl, AV.d.injEq, DV.int.injEq, DV.bool.injEq, ↓reduceIte, Nat.reduceEqDiff, Nat.reduceAdd, Nat.reduceBEq, List.length_cons, List.length_nil, List.replicate_succ, List.replicate_zero, List.nil_append, List.cons_append, List.append_nil, List.foldl_cons, List.foldl_nil, List.map_cons, List.map_nil, List.all_cons, List.all_nil, List.set_cons_zero, List.set_cons_succ, List.getD_cons_zero, List.getD_cons_succ, List.drop_zero, List.drop_succ_cons, List.take_succ_cons, List.take_zero, List.flatten_cons, List.flatten_nil, Bool.true_and, Bool.and_true, Bool.not_true, Bool.not_false, true_and, and_true, true_or, or_true, Option.bind_some, Option.map_some, decide_true, decide_false, beq_self_eq_true, true_implies, false_implies, implies_true, not_true_eq_false, not_false_eq_true, and_self, Bool.and_false, Bool.false_and, Nat.reduceLT, Nat.reduceLeDiff, List.reverse_cons, List.reverse_nil, Nat.zero_add, Nat.add_zero, Bool.false_eq_true, List.getElem?_cons_zero, sp_rat_Least, F1, G1, F2, G2, at_rat_Right, at_rat_gcd]
  refine ⟨fun h => ?_, fun h => by simp [rat_least, h]⟩
  obtain ⟨r1, r2, r3, r4⟩ := right_iff.1 h
  have e : (if IntKind.i64.wrap (0 - a) > a then IntKind.i64.wrap (0 - a) else a) = (a.natAbs : Int) := by
    rw [wrap_id (by omega) (by omega)]; split <;> omega
  have e2 : gcdI (a.natAbs : Int) b = gcdI a b := by simp [gcdI]
  rw [e, e2]
  have g0 := gcdI_pos (a := a) (b := b) (by omega)
  have q1 := tdiv_bd (g := gcdI a b) (a := a) (by omega)
  have q2 := tdiv_bd (g := gcdI a b) (a := b) (by omega)
  refine ⟨⟨by omega, by omega⟩, by omega, by omega, ?_⟩
  rw [wrap_id (by omega) (by omega), wrap_id (by omega) (by omega)]
  simp [rat_least, h]

def sp_rat_Max : Sp := ⟨Int × Int × Int × Int, fun x => [.agg [.d (.int .i64 x.1), .d (.int .i64 x.2.1)], .agg [.d (.int .i64 x.2.2.1), .d (.int .i64 x.2.2.2)]], fun x => .data True (.agg [.d (.int .i64 (rat_max x.1 x.2.1 x.2.2.1 x.2.2.2).1), .d (.int .i64 (rat_max x.1 x.2.1 x.2.2.1 x.2.2.2).2)]) true⟩
theorem at_rat_Max (a b c d : Int) : sp_rat_Max.at [.agg [.d (.int .i64 a), .d (.int .i64 b)], .agg [.d (.int .i64 c), .d (.int .i64 d)]] = .data True (.agg [.d (.int .i64 (rat_max a b c d).1), .d (.int .i64 (rat_max a b c d).2)]) true :=
  Sp.at_enc (s := sp_rat_Max) (fun x y h => by obtain ⟨a, b, c, d⟩ := x; obtain ⟨a', b', c', d'⟩ := y; simpa [sp_rat_Max, and_assoc] using h) (a, b, c, d)

theorem body_rat_Max {T : Tab} {n1 : Nat} (k1 : Knows T n1 sp_rat_Cmp) : sp_rat_Max.Body T V_rat_Max (L_rat_Max n1) R_rat_Max := by
  have F1 := k1.F; have G1 := k1.G
  rintro ⟨a, b, c, d⟩ -
  refine .inl ⟨rfl, ?_⟩
  unfold V_rat_Max L_rat_Max R_rat_Max
  simp only [↓vck_skip, ↓vck_ret, ↓vck_exit, ↓vck_region, ↓vck_nilq, ↓nilTo_to, nilG_d, nilG_r, ↓vck_seq, ↓vck_cond, ↓vck_block, ↓vck_loop, ↓vckTo_to, ↓thenK_n, ↓thenK_x, ↓thenK_r, ↓blockK_n, ↓blockK_x, ↓blockK_o, ↓blockK_r, ↓regK_to, ↓retK_r, ↓retK_n, ↓loopV_n, ↓loopV_x, ↓loopV_r, ↓famK_n, ↓famK_x, ↓famK_r, ↓boolK_true, ↓boolK_false, ↓boolK_not, ↓boolK_dec, ↓boolK_and, nf_mk, RGk_end_f, RGk_end_t, RGk_op, RGk_guard, opK_to, feet_f, feet_t, foot_mk, stepK_mk, stepK_v, stepK_no, guardG_t, guardG_f, guardG_no, condG_b, evT, Opd.ev, get_hit, get_next, app_to, app_no, app_up, app_skip, app_skipn, know_mk, knowO_t, knowO_c, envFrom, reserve, keeps, LOp.isNew, State.prune, cellsQ, cellsT, AV.leaf, Heap.at, evLoad_ptr, evLoad_dptr, loadO_vec, loadO_dvec1, stepK_load_map, idx_I, idx_U, idx_Rat, idx_Loc, idx_Act, idx_Step, idx_Stamp, stepK_idx_ref, evStore_ptr, storeO_vec, stepK_store_map1, loadDT_f, rowI, rowU, RatG.row, LocG.row, ActG.row, StepG.row, StampG.row, ActG.av, ActG.eta, RatG.eta, LocG.eta, beq_true, beq_false, loadDT_t, set_rowI, set_rowU, app_rowI, app_rowU, rep_rowI, rep_rowU, set_rowRat, app_rowRat, rep_rowRat, set_rowLoc, app_rowLoc, app_rowAct, app_rowStep, List.length_set, List.length_replicate, Int.toNat_natCast, Int.reduceToNat, evLen, evAppend, srcOf, Src.all, Src.len, Src.leaf, joinV, drows_rep1, drows_rep2, drows_rep3, drows_rep4, drows_rep5, drows_rep6, drows_rep7, drows_rep8, mkVec, drows, evMk, List.length_map, take_map_len, take_map_ge, loadQ, loadT, evBin, evUn, binT, binQ, chk, apartF, List.contains_cons, List.contains_nil, Bool.or_false, Bool.false_or, Bool.and_self, resQ, resV, resT, pickV, evCallT, evCall, fnOf, viewsT, viewT, evInt2, evEq, eqV, eqK, eqC1, buildQ, buildT, buildRQ, buildRT, lens_I, lensA_I, lens_U, lensA_U, lens_Rat, lensA_Rat, lens_Loc, lensA_Loc, lens_Act, lensA_Act, lens_Step, lensA_Step, lens_Stamp, lensA_Stamp, List.mem_cons, List.not_mem_nil, or_false, forall_eq, putRow, dcells, get_nil, RetS, RetF, RetD, AV.frz, AV.frzL, AV.freshP, AV.freshL, DV.less, scal_int, scal_bool, scal_nil, scal_rowI, scal_rowU, scal_rowRat, scal_rowStep, Option.some.injEq, AV.tup.injEq, AV.agg.injEq, List.cons.injEq, DV.list.injEq, List.isEmpty_nil, Nat.le_refl, AV.d.injEq, DV.int.injEq, DV.bool.injEq, ↓reduceIte, Nat.reduceEqDiff, Nat.reduceAdd, Nat.reduceBEq, List.length_cons, List.length_nil, List.replicate_succ, List.replicate_zero, List.nil_append, List.cons_append, List.append_nil, List.foldl_cons, List.foldl_nil, List.map_cons, List.map_nil, List.all_cons, List.all_nil, List.set_cons_zero, List.set_cons_succ, List.getD_cons_zero, List.getD_cons_succ, List.drop_zero, List.drop_succ_cons, List.take_succ_cons, List.take_zero, List.flatten_cons, List.flatten_nil, Bool.true_and, Bool.and_true, Bool.not_true, Bool.not_false, true_and, and_true, true_or, or_true, Option.bind_some, Option.map_some, decide_true, decide_false, beq_self_eq_true, true_implies, false_implies, implies_true, not_true_eq_false, not_false_eq_true, and_self, Bool.and_false, Bool.false_and, Nat.reduceLT, Nat.reduceLeDiff, List.reverse_cons, List.reverse_nil, Nat.zero_add, Nat.add_zero, Bool.false_eq_true, List.getElem?_cons_zero, sp_rat_Max, F1, G1, at_rat_Cmp]
  exact ⟨fun h => by simp [rat_max, h], fun h => by simp [rat_max, h]⟩

def sp_rat_Between : Sp := ⟨Int × Int × Int × Int, fun x => [.agg [.d (.int .i64 x.1), .d (.int .i64 x.2.1)], .agg [.d (.int .i64 x.2.2.1), .d (.int .i64 x.2.2.2)]], fun x => .data True (mo (rat_between x.1 x.2.1 x.2.2.1 x.2.2.2)) true⟩
theorem at_rat_Between (a b c d : Int) : sp_rat_Between.at [.agg [.d (.int .i64 a), .d (.int .i64 b)], .agg [.d (.int .i64 c), .d (.int .i64 d)]] = .data True (mo (rat_between a b c d)) true :=
  Sp.at_enc (s := sp_rat_Between) (fun x y h => by obtain ⟨a, b, c, d⟩ := x; obtain ⟨a', b', c', d'⟩ := y; simpa [sp_rat_Between, and_assoc] using h) (a, b, c, d)

theorem body_rat_Between {T : Tab} {n1 n2 n3 : Nat} (k1 : Knows T n1 sp_rat_Right) (k2 : Knows T n2 sp_rat_Cmp) (k3 : Knows T n3 sp_rat_Least) : sp_rat_Between.Body T V_rat_Between (L_rat_Between n1 n2 n3) R_rat_Between := by
  have F1 := k1.F; have G1 := k1.G; have F2 := k2.F; have G2 := k2.G; have F3 := k3.F; have G3 := k3.G
  rintro ⟨a, b, c, d⟩ -
  refine .inl ⟨by dsimp only; cases rat_between a b c d <;> rfl, ?_⟩
  unfold V_rat_Between L_rat_Between R_rat_Between
  simp only [↓vck_skip, ↓vck_ret, ↓vck_exit, ↓vck_region, ↓vck_nilq, ↓nilTo_to, nilG_d, nilG_r, ↓vck_seq, ↓vck_cond, ↓vck_block, ↓vck_loop, ↓vckTo_to, ↓thenK_n, ↓thenK_x, ↓thenK_r, ↓blockK_n, ↓blockK_x, ↓blockK_o, ↓blockK_r, ↓regK_to, ↓retK_r, ↓retK_n, ↓loopV_n, ↓loopV_x, ↓loopV_r, ↓famK_n, ↓famK_x, ↓famK_r, ↓boolK_true, ↓boolK_false, ↓boolK_not, ↓boolK_dec, ↓boolK_and, nf_mk, RGk_end_f, RGk_end_t, RGk_op, RGk_guard, opK_to, feet_f, feet_t, foot_mk, stepK_mk, stepK_v, stepK_no, guardG_t, guardG_f, guardG_no, condG_b, evT, Opd.ev, get_hit, get_next, app_to, app_no, app_up, app_skip, app_skipn, know_mk, knowO_t, knowO_c, envFrom, reserve, keeps, LOp.isNew, State.prune, cellsQ, cellsT, AV.leaf, Heap.at, evLoad_ptr, evLoad_dptr, loadO_vec, loadO_dvec1, stepK_load_map, idx_I, idx_U, idx_Rat, idx_Loc, idx_Act, idx_Step, idx_Stamp, stepK_idx_ref, evStore_ptr, storeO_vec, stepK_store_map1, loadDT_f, rowI, rowU, RatG.row, LocG.row, ActG.row, StepG.row, StampG.row, ActG.av, ActG.eta, RatG.eta, LocG.eta, beq_true, beq_false, loadDT_t, set_rowI, set_rowU, app_rowI, app_rowU, rep_rowI, rep_rowU, set_rowRat, app_rowRat, rep_rowRat, set_rowLoc, app_rowLoc, app_rowAct, app_rowStep, List.length_set, List.length_replicate, Int.toNat_natCast, Int.reduceToNat, evLen, evAppend, srcOf, Src.all, Src.len, Src.leaf, joinV, drows_rep1, drows_rep2, drows_rep3, drows_rep4, drows_rep5, drows_rep6, drows_rep7, drows_rep8, mkVec, drows, evMk, List.length_map, take_map_len, take_map_ge, loadQ, loadT, evBin, evUn, binT, binQ, chk, apartF, List.contains_cons, List.contains_nil, Bool.or_false, Bool.false_or, Bool.and_self, resQ, resV, resT, pickV, evCallT, evCall, fnOf, viewsT, viewT, evInt2, evEq, eqV, eqK, eqC1, buildQ, buildT, buildRQ, buildRT, lens_I, lensA_I, lens_U, lensA_U, lens_Rat, lensA_Rat, lens_Loc, lensA_Loc, lens_Act, lensA_Act, lens_Step, lensA_Step, lens_Stamp, lensA_Stamp, List.mem_cons, List.not_mem_nil, or_false, forall_eq, putRow, dcells, get_nil, RetS, RetF, RetD, AV.frz, AV.frzL, AV.freshP, AV.freshL, DV.less, scal_int, scal_bool, scal_nil, scal_rowI, scal_rowU, scal_rowRat, scal_rowStep, Option.some.injEq, AV.tup.injEq, AV.agg.injEq, List.cons.injEq, DV.list.injEq, List.isEmpty_nil, Nat.le_refl, AV.d.injEq, DV.int.injEq, DV.bool.injEq, ↓reduceIte, Nat.reduceEqDiff, Nat.reduceAdd, Nat.reduceBEq, List.length_cons, List.length_nil, List.replicate_succ, List.replicate_zero, List.nil_append, List.cons_append, List.append_nil, List.foldl_cons, List.foldl_nil, List.map_cons, List.map_nil, List.all_cons, List.all_nil, List.set_cons_zero, List.set_cons_succ, List.getD_cons_zero, List.getD_cons_succ, List.drop_zero, List.drop_succ_cons, List.take_succ_cons, List.take_zero, List.flatten_cons, List.flatten_nil, Bool.true_and, Bool.and_true, Bool.not_true, Bool.not_false, true_and, and_true, true_or, or_true, Option.bind_some, Option.map_some, decide_true, decide_false, beq_self_eq_true, true_implies, false_implies, implies_true, not_true_eq_false, not_false_eq_true, and_self, Bool.and_false, Bool.false_and, Nat.reduceLT, Nat.reduceLeDiff, List.reverse_cons, List.reverse_nil, Nat.zero_add, Nat.add_zero, Bool.false_eq_true, List.getElem?_cons_zero, sp_rat_Between, F1, G1, at_rat_Right, F2, G2, at_rat_Cmp, F3, G3, at_rat_Least]
  refine ⟨fun h => by simp [rat_between, h, mo], fun h => ?_⟩
  obtain ⟨h1, h2⟩ := cmp_neg h
  obtain ⟨r1, r2, r3, r4⟩ := right_iff.1 h1
  obtain ⟨s1, s2, s3, s4⟩ := right_iff.1 h2
  obtain ⟨l1, l2, l3⟩ := least_bd h1
  obtain ⟨m1, m2, m3⟩ := least_bd h2
  rw [wrap_id (by omega) (by omega), wrap_id (by omega) (by omega)]
  exact ⟨fun h3 => by simp [rat_between, h, h3, mo], fun h3 => by simp [rat_between, h, h3, mo]⟩

def sp_rat_After : Sp := ⟨Int × Int, fun x => [.agg [.d (.int .i64 x.1), .d (.int .i64 x.2)]], fun x => .data True (mo (rat_after x.1 x.2)) true⟩
theorem at_rat_After (a b : Int) : sp_rat_After.at [.agg [.d (.int .i64 a), .d (.int .i64 b)]] = .data True (mo (rat_after a b)) true :=
  Sp.at_enc (s := sp_rat_After) (fun x y h => by obtain ⟨a, b⟩ := x; obtain ⟨c, d⟩ := y; simpa [sp_rat_After] using h) (a, b)

theorem body_rat_After {T : Tab} {n1 : Nat} (k1 : Knows T n1 sp_rat_Right) : sp_rat_After.Body T V_rat_After (L_rat_After n1) R_rat_After := by
  have F1 := k1.F; have G1 := k1.G
  rintro ⟨a, b⟩ -
  refine .inl ⟨by dsimp only; cases rat_after a b <;> rfl, ?_⟩
  unfold V_rat_After L_rat_After R_rat_After
  simp only [↓vck_skip, ↓vck_ret, ↓vck_exit, ↓vck_region, ↓vck_nilq, ↓nilTo_to, nilG_d, nilG_r, ↓vck_seq, ↓vck_cond, ↓vck_block, ↓vck_loop, ↓vckTo_to, ↓thenK_n, ↓thenK_x, ↓thenK_r, ↓blockK_n, ↓blockK_x, ↓blockK_o, ↓blockK_r, ↓regK_to, ↓retK_r, ↓retK_n, ↓loopV_n, ↓loopV_x, ↓loopV_r, ↓famK_n, ↓famK_x, ↓famK_r, ↓boolK_true, ↓boolK_false, ↓boolK_not, ↓boolK_dec, ↓boolK_and, nf_mk, RGk_end_f, RGk_end_t, RGk_op, RGk_guard, opK_to, feet_f, feet_t, foot_mk, stepK_mk, stepK_v, stepK_no, guardG_t, guardG_f, guardG_no, condG_b, evT, Opd.ev, get_hit, get_next, app_to, app_no, app_up, app_skip, app_skipn, know_mk, knowO_t, knowO_c, envFrom, reserve, keeps, LOp.isNew, State.prune, cellsQ, cellsT, AV.leaf, Heap.at, evLoad_ptr, evLoad_dptr, loadO_vec, loadO_dvec1, stepK_load_map, idx_I, idx_U, idx_Rat, idx_Loc, idx_Act, idx_Step, idx_Stamp, stepK_idx_ref, evStore_ptr, storeO_vec, stepK_store_map1, loadDT_f, rowI, rowU, RatG.row, LocG.row, ActG.row, StepG.row, StampG.row, ActG.av, ActG.eta, RatG.eta, LocG.eta, beq_true, beq_false, loadDT_t, set_rowI, set_rowU, app_rowI, app_rowU, rep_rowI, rep_rowU, set_rowRat, app_rowRat, rep_rowRat, set_rowLoc, app_rowLoc, app_rowAct, app_rowStep, List.length_set, List.length_replicate, Int.toNat_natCast, Int.reduceToNat, evLen, evAppend, srcOf, Src.all, Src.len, Src.leaf, joinV, drows_rep1, drows_rep2, drows_rep3, drows_rep4, drows_rep5, drows_rep6, drows_rep7, drows_rep8, mkVec, drows, evMk, List.length_map, take_map_len, take_map_ge, loadQ, loadT, evBin, evUn, binT, binQ, chk, apartF, List.contains_cons, List.contains_nil, Bool.or_false, Bool.false_or, Bool.and_self, resQ, resV, resT, pickV, evCallT, evCall, fnOf, viewsT, viewT, evInt2, evEq, eqV, eqK, eqC1, buildQ, buildT, buildRQ, buildRT, lens_I, lensA_I, lens_U, lensA_U, lens_Rat, lensA_Rat, lens_Loc, lensA_Loc, lens_Act, lensA_Act, lens_Step, lensA_Step, lens_Stamp, lensA_Stamp, List.mem_cons, List.not_mem_nil, or_false, forall_eq, putRow, dcells, get_nil, RetS, RetF, RetD, AV.frz, AV.frzL, AV.freshP, AV.freshL, DV.less, scal_int, scal_bool, scal_nil, scal_rowI, scal_rowU, scal_rowRat, scal_rowStep, Option.some.injEq, AV.tup.injEq, AV.agg.injEq, List.cons.injEq, DV.list.injEq, List.isEmpty_nil, Nat.le_refl, AV.d.injEq, DV.int.injEq, DV.bool.injEq, ↓reduceIte, Nat.reduceEqDiff, Nat.reduceAdd, Nat.reduceBEq, List.length_cons, List.length_nil, List.replicate_succ, List.replicate_zero, List.nil_append, List.cons_append, List.append_nil, List.foldl_cons, List.foldl_nil, List.map_cons, List.map_nil, List.all_cons, List.all_nil, List.set_cons_zero, List.set_cons_succ, List.getD_cons_zero, List.getD_cons_succ, List.drop_zero, List.drop_succ_cons, List.take_succ_cons, List.take_zero, List.flatten_cons, List.flatten_nil, Bool.true_and, Bool.and_true, Bool.not_true, Bool.not_false, true_and, and_true, true_or, or_true, Option.bind_some, Option.map_some, decide_true, decide_false, beq_self_eq_true, true_implies, false_implies, implies_true, not_true_eq_false, not_false_eq_true, and_self, Bool.and_false, Bool.false_and, Nat.reduceLT, Nat.reduceLeDiff, List.reverse_cons, List.reverse_nil, Nat.zero_add, Nat.add_zero, Bool.false_eq_true, List.getElem?_cons_zero, sp_rat_After, F1, G1, at_rat_Right]
  refine ⟨fun h => ?_, fun h => by simp [rat_after, h, mo]⟩
  obtain ⟨r1, r2, r3, r4⟩ := right_iff.1 h
  have q := tdiv_bd (g := b) (a := a) (by omega)
  have e := fdiv_eq (a := a) (b := b) (by omega)
  have fin : ∀ n, n = a.fdiv b + 1 → boolK (rat_right n 1) (AV.tup [AV.agg [AV.d (DV.int IntKind.i64 n), AV.d (DV.int IntKind.i64 1)], AV.d (DV.bool true)] = mo (rat_after a b))
      (AV.tup [AV.agg [AV.d (DV.int IntKind.i64 0), AV.d (DV.int IntKind.i64 0)], AV.d (DV.bool false)] = mo (rat_after a b)) := fun n hn => by
    subst hn
    exact ⟨fun h3 => by simp [rat_after, h, h3, mo], fun h3 => by simp [rat_after, h, h3, mo]⟩
  rw [wrap_id (n := a.tdiv b) (by omega) (by omega), wrap_id (n := a.tdiv b - 1) (by omega) (by omega), wrap_id (n := a.tdiv b + 1) (by omega) (by omega), wrap_id (n := a.tdiv b - 1 + 1) (by omega) (by omega)]
  refine ⟨by omega, fun h1 => ⟨by omega, fun h2 => fin _ ?_, fun h2 => fin _ ?_⟩, fun h1 => fin _ ?_⟩
  · rw [e, if_neg (fun h => h.2 h2)]
  · rw [e, if_pos ⟨h1, h2⟩]
  · rw [e, if_neg (fun h => h1 h.1)]
end Go.Ago
