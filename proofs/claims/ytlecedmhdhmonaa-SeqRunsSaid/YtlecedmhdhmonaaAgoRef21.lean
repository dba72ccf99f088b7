/- The contracts of the reference of layer 21. Conditions: none. -/
import Derived.Test.YtlecedmhdhmonaaAgoSeq
set_option maxRecDepth 100000
set_option linter.unusedSimpArgs false
set_option linter.unusedVariables false
namespace Go.Ago

/-- The number of a location behind acts. -/
def lateF (loc : Int) (v : Int) (a : ActG) : Int := if a.loc = loc ∧ a.isW = true then a.new else v
def latest (l : List LocG) (as : List ActG) (loc : Int) (n : Nat) : Int := (as.take n).foldl (lateF loc) (l.getD loc.toNat default).init

theorem latest_succ {l : List LocG} {as : List ActG} {loc : Int} {n : Nat} (h : n < as.length) : latest l as loc (n + 1) = lateF loc (latest l as loc n) (as.getD n default) := by
  unfold latest
  rw [List.take_add_one, List.getElem?_eq_getElem h, getD_lt h]
  simp only [Option.toList_some, List.foldl_append, List.foldl_cons, List.foldl_nil]

def sp_latest : Sp := ⟨List LocG × Bool × List ActG × Bool × Int × Int, fun x => [.d (.list (x.1.map LocG.row) x.2.1), .d (.list (x.2.2.1.map ActG.row) x.2.2.2.1), .d (.int .i64 x.2.2.2.2.1), .d (.int .i64 x.2.2.2.2.2)],
  fun x => .data (0 ≤ x.2.2.2.2.1 ∧ x.2.2.2.2.1 < x.1.length ∧ 0 ≤ x.2.2.2.2.2 ∧ x.2.2.2.2.2 ≤ x.2.2.1.length ∧ x.2.2.1.length ≤ maxLen) (.d (.int .i64 (latest x.1 x.2.2.1 x.2.2.2.2.1 x.2.2.2.2.2.toNat))) true⟩
theorem at_latest (l : List LocG) (f : Bool) (as : List ActG) (g : Bool) (p n : Int) : sp_latest.at [.d (.list (l.map LocG.row) f), .d (.list (as.map ActG.row) g), .d (.int .i64 p), .d (.int .i64 n)] =
    .data (0 ≤ p ∧ p < l.length ∧ 0 ≤ n ∧ n ≤ as.length ∧ as.length ≤ maxLen) (.d (.int .i64 (latest l as p n.toNat))) true :=
  Sp.at_enc (s := sp_latest) (fun x y h => by
    obtain ⟨a, b, c, d, e, z⟩ := x; obtain ⟨a', b', c', d', e', z'⟩ := y
    simp only [sp_latest, List.cons.injEq, AV.d.injEq, DV.list.injEq, DV.int.injEq, and_true, true_and] at h
    obtain ⟨⟨h1, h2⟩, ⟨h3, h4⟩, h5, h6⟩ := h
    rw [rows_inj LocG.row_inj h1, h2, rows_inj ActG.row_inj h3, h4, h5, h6]) (l, f, as, g, p, n)

theorem body_ref21_Latest {T : Tab} {n1 : Nat} (k1 : Knows T n1 (sp_act_b ActG.isW)) : sp_latest.Body T V_ref21_Latest (L_ref21_Latest n1) R_ref21_Latest := by
  have F1 := k1.F; have G1 := k1.G
  rintro ⟨l, f, as, g, p, n⟩ ⟨h1, h2, h3, h4, h5⟩
  have h1 : 0 ≤ p := h1
  have h2 : p < l.length := h2
  have h3 : 0 ≤ n := h3
  have h4 : n ≤ as.length := h4
  have h5 : as.length ≤ maxLen := h5
  have hm : maxLen = 9223372036854775807 := rfl
  refine .inl ⟨rfl, ?_⟩
  unfold V_ref21_Latest L_ref21_Latest R_ref21_Latest
  simp only [↓vck_skip, ↓vck_ret, ↓vck_exit, ↓vck_region, ↓vck_nilq, ↓nilTo_to, nilG_d, nilG_r, ↓vck_seq, ↓vck_cond, ↓vck_block, ↓vck_loop, ↓vckTo_to, ↓thenK_n, ↓thenK_x, ↓thenK_r, ↓blockK_n, ↓blockK_x, ↓blockK_o, ↓blockK_r, ↓regK_to, ↓retK_r, ↓retK_n, ↓loopV_n, ↓loopV_x, ↓loopV_r, ↓famK_n, ↓famK_x, ↓famK_r, ↓boolK_true, ↓boolK_false, ↓boolK_not, ↓boolK_dec, ↓boolK_and, nf_mk, RGk_end_f, RGk_end_t, RGk_op, RGk_guard, opK_to, feet_f, feet_t, foot_mk, stepK_mk, stepK_v, stepK_no, guardG_t, guardG_f, guardG_no, condG_b, evT, Opd.ev, get_hit, get_next, app_to, app_no, app_up, app_skip, app_skipn, know_mk, knowO_t, knowO_c, envFrom, reserve, keeps, LOp.isNew, State.prune, cellsQ, cellsT, AV.leaf, Heap.at, evLoad_ptr, evLoad_dptr, loadO_vec, loadO_dvec1, stepK_load_map, idx_I, idx_U, idx_Rat, idx_Loc, idx_Act, idx_Step, idx_Stamp, stepK_idx_ref, evStore_ptr, storeO_vec, stepK_store_map1, loadDT_f, rowI, rowU, RatG.row, LocG.row, ActG.row, StepG.row, StampG.row, ActG.av, ActG.eta, RatG.eta, LocG.eta, beq_true, beq_false, loadDT_t, set_rowI, set_rowU, app_rowI, app_rowU, rep_rowI, rep_rowU, set_rowRat, app_rowRat, rep_rowRat, set_rowLoc, app_rowLoc, app_rowAct, app_rowStep, List.length_set, List.length_replicate, Int.toNat_natCast, Int.reduceToNat, evLen, evAppend, srcOf, Src.all, Src.len, Src.leaf, joinV, drows_rep1, drows_rep2, drows_rep3, drows_rep4, drows_rep5, drows_rep6, drows_rep7, drows_rep8, mkVec, drows, evMk, List.length_map, take_map_len, take_map_ge, loadQ, loadT, evBin, evUn, binT, binQ, chk, apartF, List.contains_cons, List.contains_nil, Bool.or_false, Bool.false_or, Bool.and_self, resQ, resV, resT, pickV, evCallT, evCall, fnOf, viewsT, viewT, evInt2, evEq, eqV, eqK, eqC1, buildQ, buildT, buildRQ, buildRT, lens_I, lensA_I, lens_U, lensA_U, lens_Rat, lensA_Rat, lens_Loc, lensA_Loc, lens_Act, lensA_Act, lens_Step, lensA_Step, lens_Stamp, lensA_Stamp, List.mem_cons, List.not_mem_nil, or_false, forall_eq, putRow, dcells, get_nil, RetS, RetF, RetD, AV.frz, AV.frzL, AV.freshP, AV.freshL, DV.less, scal_int, scal_bool, scal_nil, scal_rowI, scal_rowU, scal_rowRat, scal_rowStep, Option.some.injEq, AV.tup.injEq, AV.agg.injEq, List.cons.injEq, DV.list.injEq, List.isEmpty_nil, Nat.le_refl, AV.d.injEq, DV.int.injEq, DV.bool.injEq, ↓reduceIte, Nat.reduceEqDiff, Nat.reduceAdd, Nat.reduceBEq, List.length_cons, List.length_nil, List.replicate_succ, List.replicate_zero, List.nil_append, List.cons_append, List.append_nil, List.foldl_cons, List.foldl_nil, List.map_cons, List.map_nil, List.all_cons, List.all_nil, List.set_cons_zero, List.set_cons_succ, List.getD_cons_zero, List.getD_cons_succ, List.drop_zero, List.drop_succ_cons, List.take_succ_cons, List.take_zero, List.flatten_cons, List.flatten_nil, Bool.true_and, Bool.and_true, Bool.not_true, Bool.not_false, true_and, and_true, true_or, or_true, Option.bind_some, Option.map_some, decide_true, decide_false, beq_self_eq_true, true_implies, false_implies, implies_true, not_true_eq_false, not_false_eq_true, and_self, Bool.and_false, Bool.false_and, Nat.reduceLT, Nat.reduceLeDiff, List.reverse_cons, List.reverse_nil, Nat.zero_add, Nat.add_zero, Bool.false_eq_true, List.getElem?_cons_zero, sp_latest, F1, G1, at_act_b]
  rw [wrap_id (by omega) (by omega)]
  refine Loop.fam [0, 1, 2, 3, 9] (fun i : Int => ⟨[(0, .d (.list (l.map LocG.row) f)), (1, .d (.list (as.map ActG.row) g)), (2, .d (.int .i64 p)), (3, .d (.int .i64 n)), (9, .d (.int .i64 i))], []⟩)
    (fun i => -1 ≤ i ∧ i < n ∧ latest l as p n.toNat = latest l as p (i + 1).toNat) (fun i => (i + 1).toNat) (n - 1) [] (by simp) (by simp) (by simp only [State.can, AV.can, AV.canL, HO.can, canRows, idx, get_hit, get_next, Heap.at, Nat.reduceBEq, ↓reduceIte, Nat.reduceEqDiff, Option.getD_some, Option.map_some, List.map_cons, List.map_nil, List.getD_cons_zero, List.getD_cons_succ]) ⟨by omega, by omega, by congr 1; omega⟩ ?_
  rintro i ⟨i1, i2, i3⟩
  simp only [↓vck_skip, ↓vck_ret, ↓vck_exit, ↓vck_region, ↓vck_nilq, ↓nilTo_to, nilG_d, nilG_r, ↓vck_seq, ↓vck_cond, ↓vck_block, ↓vck_loop, ↓vckTo_to, ↓thenK_n, ↓thenK_x, ↓thenK_r, ↓blockK_n, ↓blockK_x, ↓blockK_o, ↓blockK_r, ↓regK_to, ↓retK_r, ↓retK_n, ↓loopV_n, ↓loopV_x, ↓loopV_r, ↓famK_n, ↓famK_x, ↓famK_r, ↓boolK_true, ↓boolK_false, ↓boolK_not, ↓boolK_dec, ↓boolK_and, nf_mk, RGk_end_f, RGk_end_t, RGk_op, RGk_guard, opK_to, feet_f, feet_t, foot_mk, stepK_mk, stepK_v, stepK_no, guardG_t, guardG_f, guardG_no, condG_b, evT, Opd.ev, get_hit, get_next, app_to, app_no, app_up, app_skip, app_skipn, know_mk, knowO_t, knowO_c, envFrom, reserve, keeps, LOp.isNew, State.prune, cellsQ, cellsT, AV.leaf, Heap.at, evLoad_ptr, evLoad_dptr, loadO_vec, loadO_dvec1, stepK_load_map, idx_I, idx_U, idx_Rat, idx_Loc, idx_Act, idx_Step, idx_Stamp, stepK_idx_ref, evStore_ptr, storeO_vec, stepK_store_map1, loadDT_f, rowI, rowU, RatG.row, LocG.row, ActG.row, StepG.row, StampG.row, ActG.av, ActG.eta, RatG.eta, LocG.eta, beq_true, beq_false, loadDT_t, set_rowI, set_rowU, app_rowI, app_rowU, rep_rowI, rep_rowU, set_rowRat, app_rowRat, rep_rowRat, set_rowLoc, app_rowLoc, app_rowAct, app_rowStep, List.length_set, List.length_replicate, Int.toNat_natCast, Int.reduceToNat, evLen, evAppend, srcOf, Src.all, Src.len, Src.leaf, joinV, drows_rep1, drows_rep2, drows_rep3, drows_rep4, drows_rep5, drows_rep6, drows_rep7, drows_rep8, mkVec, drows, evMk, List.length_map, take_map_len, take_map_ge, loadQ, loadT, evBin, evUn, binT, binQ, chk, apartF, List.contains_cons, List.contains_nil, Bool.or_false, Bool.false_or, Bool.and_self, resQ, resV, resT, pickV, evCallT, evCall, fnOf, viewsT, viewT, evInt2, evEq, eqV, eqK, eqC1, buildQ, buildT, buildRQ, buildRT, lens_I, lensA_I, lens_U, lensA_U, lens_Rat, lensA_Rat, lens_Loc, lensA_Loc, lens_Act, lensA_Act, lens_Step, lensA_Step, lens_Stamp, lensA_Stamp, List.mem_cons, List.not_mem_nil, or_false, forall_eq, putRow, dcells, get_nil, RetS, RetF, RetD, AV.frz, AV.frzL, AV.freshP, AV.freshL, DV.less, scal_int, scal_bool, scal_nil, scal_rowI, scal_rowU, scal_rowRat, scal_rowStep, Option.some.injEq, AV.tup.injEq, AV.agg.injEq, List.cons.injEq, DV.list.injEq, List.isEmpty_nil, Nat.le_refl, AV.d.injEq, DV.int.injEq, DV.bool.injEq, ↓reduceIte, Nat.reduceEqDiff, Nat.reduceAdd, Nat.reduceBEq, List.length_cons, List.length_nil, List.replicate_succ, List.replicate_zero, List.nil_append, List.cons_append, List.append_nil, List.foldl_cons, List.foldl_nil, List.map_cons, List.map_nil, List.all_cons, List.all_nil, List.set_cons_zero, List.set_cons_succ, List.getD_cons_zero, List.getD_cons_succ, List.drop_zero, List.drop_succ_cons, List.take_succ_cons, List.take_zero, List.flatten_cons, List.flatten_nil, Bool.true_and, Bool.and_true, Bool.not_true, Bool.not_false, true_and, and_true, true_or, or_true, Option.bind_some, Option.map_some, decide_true, decide_false, beq_self_eq_true, true_implies, false_implies, implies_true, not_true_eq_false, not_false_eq_true, and_self, Bool.and_false, Bool.false_and, Nat.reduceLT, Nat.reduceLeDiff, List.reverse_cons, List.reverse_nil, Nat.zero_add, Nat.add_zero, Bool.false_eq_true, List.getElem?_cons_zero, F1, G1, at_act_b]
  rw [wrap_id (by omega) (by omega)]
  refine ⟨fun e => ?_, fun e => ?_⟩
  · have hi : i.toNat < as.length := by omega
    have hl := latest_succ (l := l) (loc := p) hi
    rw [show i.toNat + 1 = (i + 1).toNat by omega] at hl
    rw [hl] at i3
    generalize hae : as.getD i.toNat default = a at *
    refine ⟨⟨by omega, by omega⟩, fun e2 => ⟨⟨by omega, by omega⟩, ⟨fun e3 => ⟨⟨by omega, by omega⟩, ?_⟩, fun e3 => ?_⟩⟩, fun e2 => ?_⟩
    · rw [i3]; simp [lateF, e2, e3]
    · exact FamNext.mk [] (i - 1) (by simp) (by simp) (by simp only [State.can, AV.can, AV.canL, HO.can, canRows, idx, get_hit, get_next, Heap.at, Nat.reduceBEq, ↓reduceIte, Nat.reduceEqDiff, Option.getD_some, Option.map_some, List.map_cons, List.map_nil, List.getD_cons_zero, List.getD_cons_succ]) ⟨by omega, by omega, by rw [i3]; simp only [lateF, e3, Bool.false_eq_true, and_false, if_false]; congr 1; omega⟩ (by omega)
    · exact FamNext.mk [] (i - 1) (by simp) (by simp) (by simp only [State.can, AV.can, AV.canL, HO.can, canRows, idx, get_hit, get_next, Heap.at, Nat.reduceBEq, ↓reduceIte, Nat.reduceEqDiff, Option.getD_some, Option.map_some, List.map_cons, List.map_nil, List.getD_cons_zero, List.getD_cons_succ]) ⟨by omega, by omega, by rw [i3]; simp only [lateF, e2, false_and, if_false]; congr 1; omega⟩ (by omega)
  · have : (i + 1).toNat = 0 := by omega
    rw [i3, this]
    refine ⟨⟨by omega, by omega⟩, by simp [latest]⟩

theorem seqErr_vals (l : List LocG) (v : List Int) (a : ActG) : seqErr l v a = 0 ∨ seqErr l v a = 1 ∨ seqErr l v a = 3 := by
  unfold seqErr; split <;> (try split) <;> (try split) <;> simp

theorem right_loc {l : List LocG} {a : ActG} (h : a.right l = true) (hk : a.kind ≠ 6) : 0 ≤ a.loc ∧ a.loc < l.length := by
  unfold ActG.right at h
  rw [if_neg hk] at h
  simp only [Bool.and_eq_true, decide_eq_true_eq] at h
  exact ⟨h.1.1.1.1.2, h.1.1.1.2⟩

/-- The numbers are the latest, step by step. -/
theorem late_step {l : List LocG} {v : List Int} {as : List ActG} {i : Nat} (hv : v.length = l.length) (hi : i < as.length) (h : ∀ p, p < l.length → v.getD p 0 = latest l as p i) (he : seqErr l v (as.getD i default) = 0) :
    ∀ p, p < l.length → (seqDo v (as.getD i default)).getD p 0 = latest l as p (i + 1) := by
  intro p hp
  rw [latest_succ hi, ← h p hp]
  generalize as.getD i default = a at *
  have hr : a.right l = true := by
    unfold seqErr at he
    rw [if_pos hv] at he
    split at he
    · assumption
    · cases he
  unfold lateF seqDo
  by_cases hw : a.isW = true
  · have hk : a.kind ≠ 6 := fun hk => by simp [ActG.isW, hk] at hw
    obtain ⟨b1, b2⟩ := right_loc hr hk
    simp only [hw, if_true, and_true]
    rw [List.getD_eq_getElem?_getD, List.getElem?_set]
    by_cases e : a.loc = p
    · rw [if_pos e, if_pos (by omega), if_pos (by omega)]; rfl
    · rw [if_neg e, if_neg (by omega), List.getD_eq_getElem?_getD]
  · simp [hw]

def sp_refRun : Sp := ⟨List LocG × Bool × List ActG × Bool, fun x => [.d (.list (x.1.map LocG.row) x.2.1), .d (.list (x.2.2.1.map ActG.row) x.2.2.2)],
  fun x => .data (x.1.length ≤ 1048576 ∧ x.2.2.1.length ≤ 1048576) (.tup [.d (.int .i64 (seqRun x.1 x.2.2.1).2.1), .d (.int .i64 (seqRun x.1 x.2.2.1).2.2)]) true⟩
theorem at_refRun (l : List LocG) (f : Bool) (as : List ActG) (g : Bool) : sp_refRun.at [.d (.list (l.map LocG.row) f), .d (.list (as.map ActG.row) g)] =
    .data (l.length ≤ 1048576 ∧ as.length ≤ 1048576) (.tup [.d (.int .i64 (seqRun l as).2.1), .d (.int .i64 (seqRun l as).2.2)]) true :=
  Sp.at_enc (s := sp_refRun) (fun x y h => by
    obtain ⟨a, b, c, d⟩ := x; obtain ⟨a', b', c', d'⟩ := y
    simp only [sp_refRun, List.cons.injEq, AV.d.injEq, DV.list.injEq, and_true] at h
    obtain ⟨⟨h1, h2⟩, h3, h4⟩ := h
    rw [rows_inj LocG.row_inj h1, h2, rows_inj ActG.row_inj h3, h4]) (l, f, as, g)

theorem body_ref21_Run {T : Tab} {n1 n2 n3 : Nat} (k1 : Knows T n1 sp_latest) (k2 : Knows T n2 sp_act_Right) (k3 : Knows T n3 (sp_act_b ActG.isR)) : sp_refRun.Body T V_ref21_Run (L_ref21_Run n1 n2 n3) R_ref21_Run := by
  have F1 := k1.F; have G1 := k1.G; have F2 := k2.F; have G2 := k2.G; have F3 := k3.F; have G3 := k3.G
  rintro ⟨l, f, as, g⟩ ⟨hlen, hlen2⟩
  have hlen : l.length ≤ 1048576 := hlen
  have hlen2 : as.length ≤ 1048576 := hlen2
  have hm : maxLen = 9223372036854775807 := rfl
  refine .inl ⟨rfl, ?_⟩
  unfold V_ref21_Run L_ref21_Run R_ref21_Run
  simp only [↓vck_skip, ↓vck_ret, ↓vck_exit, ↓vck_region, ↓vck_nilq, ↓nilTo_to, nilG_d, nilG_r, ↓vck_seq, ↓vck_cond, ↓vck_block, ↓vck_loop, ↓vckTo_to, ↓thenK_n, ↓thenK_x, ↓thenK_r, ↓blockK_n, ↓blockK_x, ↓blockK_o, ↓blockK_r, ↓regK_to, ↓retK_r, ↓retK_n, ↓loopV_n, ↓loopV_x, ↓loopV_r, ↓famK_n, ↓famK_x, ↓famK_r, ↓boolK_true, ↓boolK_false, ↓boolK_not, ↓boolK_dec, ↓boolK_and, nf_mk, RGk_end_f, RGk_end_t, RGk_op, RGk_guard, opK_to, feet_f, feet_t, foot_mk, stepK_mk, stepK_v, stepK_no, guardG_t, guardG_f, guardG_no, condG_b, evT, Opd.ev, get_hit, get_next, app_to, app_no, app_up, app_skip, app_skipn, know_mk, knowO_t, knowO_c, envFrom, reserve, keeps, LOp.isNew, State.prune, cellsQ, cellsT, AV.leaf, Heap.at, evLoad_ptr, evLoad_dptr, loadO_vec, loadO_dvec1, stepK_load_map, idx_I, idx_U, idx_Rat, idx_Loc, idx_Act, idx_Step, idx_Stamp, stepK_idx_ref, evStore_ptr, storeO_vec, stepK_store_map1, loadDT_f, rowI, rowU, RatG.row, LocG.row, ActG.row, StepG.row, StampG.row, ActG.av, ActG.eta, RatG.eta, LocG.eta, beq_true, beq_false, loadDT_t, set_rowI, set_rowU, app_rowI, app_rowU, rep_rowI, rep_rowU, set_rowRat, app_rowRat, rep_rowRat, set_rowLoc, app_rowLoc, app_rowAct, app_rowStep, List.length_set, List.length_replicate, Int.toNat_natCast, Int.reduceToNat, evLen, evAppend, srcOf, Src.all, Src.len, Src.leaf, joinV, drows_rep1, drows_rep2, drows_rep3, drows_rep4, drows_rep5, drows_rep6, drows_rep7, drows_rep8, mkVec, drows, evMk, List.length_map, take_map_len, take_map_ge, loadQ, loadT, evBin, evUn, binT, binQ, chk, apartF, List.contains_cons, List.contains_nil, Bool.or_false, Bool.false_or, Bool.and_self, resQ, resV, resT, pickV, evCallT, evCall, fnOf, viewsT, viewT, evInt2, evEq, eqV, eqK, eqC1, buildQ, buildT, buildRQ, buildRT, lens_I, lensA_I, lens_U, lensA_U, lens_Rat, lensA_Rat, lens_Loc, lensA_Loc, lens_Act, lensA_Act, lens_Step, lensA_Step, lens_Stamp, lensA_Stamp, List.mem_cons, List.not_mem_nil, or_false, forall_eq, putRow, dcells, get_nil, RetS, RetF, RetD, AV.frz, AV.frzL, AV.freshP, AV.freshL, DV.less, scal_int, scal_bool, scal_nil, scal_rowI, scal_rowU, scal_rowRat, scal_rowStep, Option.some.injEq, AV.tup.injEq, AV.agg.injEq, List.cons.injEq, DV.list.injEq, List.isEmpty_nil, Nat.le_refl, AV.d.injEq, DV.int.injEq, DV.bool.injEq, ↓reduceIte, Nat.reduceEqDiff, Nat.reduceAdd, Nat.reduceBEq, List.length_cons, List.length_nil, List.replicate_succ, List.replicate_zero, List.nil_append, List.cons_append, List.append_nil, List.foldl_cons, List.foldl_nil, List.map_cons, List.map_nil, List.all_cons, List.all_nil, List.set_cons_zero, List.set_cons_succ, List.getD_cons_zero, List.getD_cons_succ, List.drop_zero, List.drop_succ_cons, List.take_succ_cons, List.take_zero, List.flatten_cons, List.flatten_nil, Bool.true_and, Bool.and_true, Bool.not_true, Bool.not_false, true_and, and_true, true_or, or_true, Option.bind_some, Option.map_some, decide_true, decide_false, beq_self_eq_true, true_implies, false_implies, implies_true, not_true_eq_false, not_false_eq_true, and_self, Bool.and_false, Bool.false_and, Nat.reduceLT, Nat.reduceLeDiff, List.reverse_cons, List.reverse_nil, Nat.zero_add, Nat.add_zero, Bool.false_eq_true, List.getElem?_cons_zero, sp_refRun, F1, G1, F2, G2, F3, G3, at_latest, at_act_Right, at_act_b]
  refine Loop.fam [0, 1, 6] (fun x : Nat × List Int => ⟨[(0, .d (.list (l.map LocG.row) f)), (1, .d (.list (as.map ActG.row) g)), (6, .d (.int .i64 (x.1 : Nat)))], []⟩)
    (fun x => x.1 ≤ as.length ∧ x.2.length = l.length ∧ seqRun l as = ((seqGo l x.2 (as.drop x.1)).1, x.1 + (seqGo l x.2 (as.drop x.1)).2.1, (seqGo l x.2 (as.drop x.1)).2.2) ∧ ∀ p, p < l.length → x.2.getD p 0 = latest l as p x.1)
    (fun x => as.length - x.1) (0, l.map LocG.init) [] (by simp) (by simp) (by simp only [State.can, AV.can, AV.canL, HO.can, canRows, idx, get_hit, get_next, Heap.at, Nat.reduceBEq, ↓reduceIte, Nat.reduceEqDiff, Option.getD_some, Option.map_some, List.map_cons, List.map_nil, List.getD_cons_zero, List.getD_cons_succ]; rfl) ⟨by omega, by simp, by simp [seqRun], fun p hp => by
      simp only [latest, List.take_zero, List.foldl_nil, Int.toNat_natCast]
      rw [getD_lt (by simpa using hp), getD_lt hp]; simp⟩ ?_
  rintro ⟨i, v⟩ ⟨i1, i2, i3, i4⟩
  have i1 : i ≤ as.length := i1
  have i2 : v.length = l.length := i2
  have i3 : seqRun l as = ((seqGo l v (as.drop i)).1, i + (seqGo l v (as.drop i)).2.1, (seqGo l v (as.drop i)).2.2) := i3
  have i4 : ∀ p, p < l.length → v.getD p 0 = latest l as p i := i4
  simp only [↓vck_skip, ↓vck_ret, ↓vck_exit, ↓vck_region, ↓vck_nilq, ↓nilTo_to, nilG_d, nilG_r, ↓vck_seq, ↓vck_cond, ↓vck_block, ↓vck_loop, ↓vckTo_to, ↓thenK_n, ↓thenK_x, ↓thenK_r, ↓blockK_n, ↓blockK_x, ↓blockK_o, ↓blockK_r, ↓regK_to, ↓retK_r, ↓retK_n, ↓loopV_n, ↓loopV_x, ↓loopV_r, ↓famK_n, ↓famK_x, ↓famK_r, ↓boolK_true, ↓boolK_false, ↓boolK_not, ↓boolK_dec, ↓boolK_and, nf_mk, RGk_end_f, RGk_end_t, RGk_op, RGk_guard, opK_to, feet_f, feet_t, foot_mk, stepK_mk, stepK_v, stepK_no, guardG_t, guardG_f, guardG_no, condG_b, evT, Opd.ev, get_hit, get_next, app_to, app_no, app_up, app_skip, app_skipn, know_mk, knowO_t, knowO_c, envFrom, reserve, keeps, LOp.isNew, State.prune, cellsQ, cellsT, AV.leaf, Heap.at, evLoad_ptr, evLoad_dptr, loadO_vec, loadO_dvec1, stepK_load_map, idx_I, idx_U, idx_Rat, idx_Loc, idx_Act, idx_Step, idx_Stamp, stepK_idx_ref, evStore_ptr, storeO_vec, stepK_store_map1, loadDT_f, rowI, rowU, RatG.row, LocG.row, ActG.row, StepG.row, StampG.row, ActG.av, ActG.eta, RatG.eta, LocG.eta, beq_true, beq_false, loadDT_t, set_rowI, set_rowU, app_rowI, app_rowU, rep_rowI, rep_rowU, set_rowRat, app_rowRat, rep_rowRat, set_rowLoc, app_rowLoc, app_rowAct, app_rowStep, List.length_set, List.length_replicate, Int.toNat_natCast, Int.reduceToNat, evLen, evAppend, srcOf, Src.all, Src.len, Src.leaf, joinV, drows_rep1, drows_rep2, drows_rep3, drows_rep4, drows_rep5, drows_rep6, drows_rep7, drows_rep8, mkVec, drows, evMk, List.length_map, take_map_len, take_map_ge, loadQ, loadT, evBin, evUn, binT, binQ, chk, apartF, List.contains_cons, List.contains_nil, Bool.or_false, Bool.false_or, Bool.and_self, resQ, resV, resT, pickV, evCallT, evCall, fnOf, viewsT, viewT, evInt2, evEq, eqV, eqK, eqC1, buildQ, buildT, buildRQ, buildRT, lens_I, lensA_I, lens_U, lensA_U, lens_Rat, lensA_Rat, lens_Loc, lensA_Loc, lens_Act, lensA_Act, lens_Step, lensA_Step, lens_Stamp, lensA_Stamp, List.mem_cons, List.not_mem_nil, or_false, forall_eq, putRow, dcells, get_nil, RetS, RetF, RetD, AV.frz, AV.frzL, AV.freshP, AV.freshL, DV.less, scal_int, scal_bool, scal_nil, scal_rowI, scal_rowU, scal_rowRat, scal_rowStep, Option.some.injEq, AV.tup.injEq, AV.agg.injEq, List.cons.injEq, DV.list.injEq, List.isEmpty_nil, Nat.le_refl, AV.d.injEq, DV.int.injEq, DV.bool.injEq, ↓reduceIte, Nat.reduceEqDiff, Nat.reduceAdd, Nat.reduceBEq, List.length_cons, List.length_nil, List.replicate_succ, List.replicate_zero, List.nil_append, List.cons_append, List.append_nil, List.foldl_cons, List.foldl_nil, List.map_cons, List.map_nil, List.all_cons, List.all_nil, List.set_cons_zero, List.set_cons_succ, List.getD_cons_zero, List.getD_cons_succ, List.drop_zero, List.drop_succ_cons, List.take_succ_cons, List.take_zero, List.flatten_cons, List.flatten_nil, Bool.true_and, Bool.and_true, Bool.not_true, Bool.not_false, true_and, and_true, true_or, or_true, Option.bind_some, Option.map_some, decide_true, decide_false, beq_self_eq_true, true_implies, false_implies, implies_true, not_true_eq_false, not_false_eq_true, and_self, Bool.and_false, Bool.false_and, Nat.reduceLT, Nat.reduceLeDiff, List.reverse_cons, List.reverse_nil, Nat.zero_add, Nat.add_zero, Bool.false_eq_true, List.getElem?_cons_zero, F1, G1, F2, G2, F3, G3, at_latest, at_act_Right, at_act_b]
  refine ⟨fun h => ?_, fun h => ?_⟩
  · have h' : i < as.length := by omega
    obtain ⟨n1, n2⟩ := seqRun_next h' i3
    have n3 := late_step i2 h' i4
    rw [wrap_succ h' (by omega)]
    have hl := i4 (as.getD i default).loc.toNat
    generalize as.getD i default = a at *
    have hbd := fun h => right_loc (l := l) (a := a) h
    refine ⟨⟨by omega, by omega⟩, fun e1 => ?_, fun e1 => ?_⟩
    · have hE : seqErr l v a = if a.isR && !decide (v.getD a.loc.toNat 0 = a.old) then 3 else 0 := by simp only [seqErr, i2, e1, if_true]
      refine ⟨⟨by omega, by omega⟩, fun e2 => ?_, fun e2 => ?_⟩
      · have hk : a.kind ≠ 6 := fun hk => by simp [ActG.isR, hk] at e2
        obtain ⟨b1, b2⟩ := hbd e1 hk
        have hl := hl (by omega)
        rw [show ((a.loc.toNat : Nat) : Int) = a.loc by omega] at hl
        refine ⟨⟨by omega, by omega⟩, ⟨b1, b2, by omega, by omega, by omega⟩, ⟨by omega, by omega⟩, fun e3 => ?_, fun e3 => ?_⟩
        · have he : seqErr l v a = 0 := by rw [hE, e2, hl, e3]; simp
          exact FamNext.mk [] (i + 1, seqDo v a) (by simp) (by simp) (by simp only [State.can, AV.can, AV.canL, HO.can, canRows, idx, get_hit, get_next, Heap.at, Nat.reduceBEq, ↓reduceIte, Nat.reduceEqDiff, Option.getD_some, Option.map_some, List.map_cons, List.map_nil, List.getD_cons_zero, List.getD_cons_succ]) ⟨show i + 1 ≤ as.length by omega, show (seqDo v a).length = _ by rw [seqDo_len, i2], n1 he, n3 he⟩ (show as.length - (i + 1) < as.length - i by omega)
        · have he : seqErr l v a = 3 := by rw [hE, e2, hl]; simp [e3]
          rw [n2 (by omega), he]; simp
      · have he : seqErr l v a = 0 := by rw [hE, e2]; simp
        exact FamNext.mk [] (i + 1, seqDo v a) (by simp) (by simp) (by simp only [State.can, AV.can, AV.canL, HO.can, canRows, idx, get_hit, get_next, Heap.at, Nat.reduceBEq, ↓reduceIte, Nat.reduceEqDiff, Option.getD_some, Option.map_some, List.map_cons, List.map_nil, List.getD_cons_zero, List.getD_cons_succ]) ⟨show i + 1 ≤ as.length by omega, show (seqDo v a).length = _ by rw [seqDo_len, i2], n1 he, n3 he⟩ (show as.length - (i + 1) < as.length - i by omega)
    · have he : seqErr l v a = 1 := by simp [seqErr, i2, e1]
      rw [n2 (by omega), he]; simp
  · have : i = as.length := by omega
    subst this
    rw [i3, List.drop_length]; simp [seqGo]
end Go.Ago
