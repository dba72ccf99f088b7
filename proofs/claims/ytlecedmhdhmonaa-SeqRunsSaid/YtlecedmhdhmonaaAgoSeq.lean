/- The contracts of package seq and of its reference. Conditions: none. -/
import Derived.Test.YtlecedmhdhmonaaAgoAct
import Derived.Test.YtlecedmhdhmonaaAgoLowSeq
import Derived.Test.YtlecedmhdhmonaaAgoLowRef21
set_option maxRecDepth 100000
set_option linter.unusedSimpArgs false
set_option linter.unusedVariables false
namespace Go.Ago

/-- One act on numbers, where it is right and reads what is there. -/
def seqDo (vals : List Int) (a : ActG) : List Int := if a.isW then vals.set a.loc.toNat a.new else vals
def seqErr (l : List LocG) (vals : List Int) (a : ActG) : Int :=
  if vals.length = l.length then (if a.right l then (if a.isR && !decide (vals.getD a.loc.toNat 0 = a.old) then 3 else 0) else 1) else 1

def seqRes (l : List LocG) (vals : List Int) (a : ActG) : List Int := if seqErr l vals a = 0 then seqDo vals a else []

def sp_seq_Do : Sp := ⟨List LocG × Bool × List Int × Bool × ActG, fun x => [.d (.list (x.1.map LocG.row) x.2.1), .d (.list (x.2.2.1.map rowI) x.2.2.2.1), x.2.2.2.2.av],
  fun x => .data (x.2.2.1.length ≤ 1048576) (.tup [.d (.list ((seqRes x.1 x.2.2.1 x.2.2.2.2).map rowI) false), .d (.int .i64 (seqErr x.1 x.2.2.1 x.2.2.2.2))]) true⟩
theorem at_seq_Do (l : List LocG) (f : Bool) (vals : List Int) (g : Bool) (k o m n : Int) : sp_seq_Do.at [.d (.list (l.map LocG.row) f), .d (.list (vals.map rowI) g), .agg [.d (.int .i64 k), .d (.int .i64 o), .d (.int .i64 m), .d (.int .i64 n)]] =
    .data (vals.length ≤ 1048576) (.tup [.d (.list ((seqRes l vals ⟨k, o, m, n⟩).map rowI) false), .d (.int .i64 (seqErr l vals ⟨k, o, m, n⟩))]) true :=
  Sp.at_enc (s := sp_seq_Do) (fun x y h => by
    obtain ⟨a, b, c, d, e⟩ := x; obtain ⟨a', b', c', d', e'⟩ := y
    simp only [sp_seq_Do, List.cons.injEq, AV.d.injEq, DV.list.injEq, and_true] at h
    obtain ⟨⟨h1, h2⟩, ⟨h3, h4⟩, h5⟩ := h
    rw [rows_inj LocG.row_inj h1, h2, rows_inj rowI_inj h3, h4, ActG.av_inj _ _ h5]) (l, f, vals, g, ⟨k, o, m, n⟩)

theorem body_seq_Do {T : Tab} {n1 n2 : Nat} (k1 : Knows T n1 sp_act_Right) (k2 : Knows T n2 (cloneS 1 8)) : sp_seq_Do.Body T V_seq_Do (L_seq_Do n1 n2) R_seq_Do := by
  have F1 := k1.F; have G1 := k1.G; have F2 := k2.F; have G2 := k2.G
  rintro ⟨l, f, vals, g, a⟩ hlen
  have hlen : vals.length ≤ 1048576 := hlen
  refine .inr ⟨rfl, ?_⟩
  unfold V_seq_Do L_seq_Do R_seq_Do
  simp only [↓vck_skip, ↓vck_ret, ↓vck_exit, ↓vck_region, ↓vck_nilq, ↓nilTo_to, nilG_d, nilG_r, ↓vck_seq, ↓vck_cond, ↓vck_block, ↓vck_loop, ↓vckTo_to, ↓thenK_n, ↓thenK_x, ↓thenK_r, ↓blockK_n, ↓blockK_x, ↓blockK_o, ↓blockK_r, ↓regK_to, ↓retK_r, ↓retK_n, ↓loopV_n, ↓loopV_x, ↓loopV_r, ↓famK_n, ↓famK_x, ↓famK_r, ↓boolK_true, ↓boolK_false, ↓boolK_not, ↓boolK_dec, ↓boolK_and, nf_mk, RGk_end_f, RGk_end_t, RGk_op, RGk_guard, opK_to, feet_f, feet_t, foot_mk, stepK_mk, stepK_v, stepK_no, guardG_t, guardG_f, guardG_no, condG_b, evT, Opd.ev, get_hit, get_next, app_to, app_no, app_up, app_skip, app_skipn, know_mk, knowO_t, knowO_c, envFrom, reserve, keeps, LOp.isNew, State.prune, cellsQ, cellsT, AV.leaf, Heap.at, evLoad_ptr, evLoad_dptr, loadO_vec, loadO_dvec1, stepK_load_map, idx_I, idx_U, idx_Rat, idx_Loc, idx_Act, idx_Step, idx_Stamp, stepK_idx_ref, evStore_ptr, storeO_vec, stepK_store_map1, loadDT_f, rowI, rowU, RatG.row, LocG.row, ActG.row, StepG.row, StampG.row, ActG.av, ActG.eta, RatG.eta, LocG.eta, beq_true, beq_false, loadDT_t, set_rowI, set_rowU, app_rowI, app_rowU, rep_rowI, rep_rowU, set_rowRat, app_rowRat, rep_rowRat, set_rowLoc, app_rowLoc, app_rowAct, app_rowStep, List.length_set, List.length_replicate, Int.toNat_natCast, Int.reduceToNat, evLen, evAppend, srcOf, Src.all, Src.len, Src.leaf, joinV, drows_rep1, drows_rep2, drows_rep3, drows_rep4, drows_rep5, drows_rep6, drows_rep7, drows_rep8, mkVec, drows, evMk, List.length_map, take_map_len, take_map_ge, loadQ, loadT, evBin, evUn, binT, binQ, chk, apartF, List.contains_cons, List.contains_nil, Bool.or_false, Bool.false_or, Bool.and_self, resQ, resV, resT, pickV, evCallT, evCall, fnOf, viewsT, viewT, evInt2, evEq, eqV, eqK, eqC1, buildQ, buildT, buildRQ, buildRT, lens_I, lensA_I, lens_U, lensA_U, lens_Rat, lensA_Rat, lens_Loc, lensA_Loc, lens_Act, lensA_Act, lens_Step, lensA_Step, lens_Stamp, lensA_Stamp, List.mem_cons, List.not_mem_nil, or_false, forall_eq, putRow, dcells, get_nil, RetS, RetF, RetD, AV.frz, AV.frzL, AV.freshP, AV.freshL, DV.less, scal_int, scal_bool, scal_nil, scal_rowI, scal_rowU, scal_rowRat, scal_rowStep, Option.some.injEq, AV.tup.injEq, AV.agg.injEq, List.cons.injEq, DV.list.injEq, List.isEmpty_nil, Nat.le_refl, AV.d.injEq, DV.int.injEq, DV.bool.injEq, ↓reduceIte, Nat.reduceEqDiff, Nat.reduceAdd, Nat.reduceBEq, List.length_cons, List.length_nil, List.replicate_succ, List.replicate_zero, List.nil_append, List.cons_append, List.append_nil, List.foldl_cons, List.foldl_nil, List.map_cons, List.map_nil, List.all_cons, List.all_nil, List.set_cons_zero, List.set_cons_succ, List.getD_cons_zero, List.getD_cons_succ, List.drop_zero, List.drop_succ_cons, List.take_succ_cons, List.take_zero, List.flatten_cons, List.flatten_nil, Bool.true_and, Bool.and_true, Bool.not_true, Bool.not_false, true_and, and_true, true_or, or_true, Option.bind_some, Option.map_some, decide_true, decide_false, beq_self_eq_true, true_implies, false_implies, implies_true, not_true_eq_false, not_false_eq_true, and_self, Bool.and_false, Bool.false_and, Nat.reduceLT, Nat.reduceLeDiff, List.reverse_cons, List.reverse_nil, Nat.zero_add, Nat.add_zero, Bool.false_eq_true, List.getElem?_cons_zero, sp_seq_Do, F1, G1, at_act_Right, F2, G2, at_clone]
  simp only [boolK]
  have r1 : roomy vals.length 8 := roomy_of hlen (by omega)
  have r2 : ∀ r ∈ vals.map rowI, r.length = 1 := rows_len (f := rowI) (fun _ => rfl) _
  have key : a.right l = true → vals.length = l.length → a.kind = 6 ∨ (1 ≤ a.kind ∧ a.kind ≤ 5 ∧ 0 ≤ a.loc ∧ a.loc < vals.length) := fun h h' => by
    unfold ActG.right at h
    split at h
    · exact .inl (by assumption)
    · simp only [Bool.and_eq_true, decide_eq_true_eq] at h
      exact .inr ⟨h.1.1.1.1.1.1, h.1.1.1.1.1.2, h.1.1.1.1.2, by have := h.1.1.1.2; omega⟩
  have hd : default = (0 : Int) := rfl
  rw [hd]
  refine ⟨fun h1 => ⟨fun h2 => ⟨r1, ?_⟩, fun h2 => ?_⟩, fun h1 => ?_⟩
  · have h1' : vals.length = l.length := by omega
    have hE : seqErr l vals a = if a.isR && !decide (vals.getD a.loc.toNat 0 = a.old) then 3 else 0 := by simp only [seqErr, h1', h2, if_true]
    have k := key h2 h1'
    simp only [hE, seqRes, seqDo, ActG.isR, ActG.isW]
    generalize vals.getD a.loc.toNat 0 = v at *
    clear hE key
    (repeat' (first | intro _ | apply And.intro))
    all_goals first | omega | (simp [*]; done) | (simp only [*]; simp; done)
  · have hE : seqErr l vals a = 1 := by simp only [seqErr, h2, Bool.false_eq_true, if_false]; split <;> rfl
    simp [hE, seqRes]
  · have hE : seqErr l vals a = 1 := by rw [seqErr, if_neg (by omega)]
    simp [hE, seqRes]
/-- Acts one behind the other: the numbers then, how many were right, the error of the next one. -/
def seqGo (l : List LocG) : List Int → List ActG → List Int × Nat × Int
  | vals, [] => (vals, 0, 0)
  | vals, a :: as => if seqErr l vals a = 0 then ((seqGo l (seqDo vals a) as).1, (seqGo l (seqDo vals a) as).2.1 + 1, (seqGo l (seqDo vals a) as).2.2) else ([], 0, seqErr l vals a)
def seqRun (l : List LocG) (as : List ActG) : List Int × Nat × Int := seqGo l (l.map LocG.init) as

theorem seqDo_len {v : List Int} {a : ActG} : (seqDo v a).length = v.length := by unfold seqDo; split <;> simp

def seqSt (l : List LocG) (f : Bool) (as : List ActG) (g : Bool) : Nat × Bool × List Int → State
  | (i, true, v) => ⟨[(0, .d (.list (l.map LocG.row) f)), (1, .d (.list (as.map ActG.row) g)), (7, .ref 0 1 0 v.length true), (30, .d (.list (as.map ActG.row) g)), (31, .d (.int .i64 as.length)), (32, .d (.int .i64 i))], [.dvec 1 (v.map rowI)]⟩
  | (i, false, v) => ⟨[(0, .d (.list (l.map LocG.row) f)), (1, .d (.list (as.map ActG.row) g)), (7, .d (.list (v.map rowI) false)), (30, .d (.list (as.map ActG.row) g)), (31, .d (.int .i64 as.length)), (32, .d (.int .i64 i))], []⟩

theorem seqRun_next {l : List LocG} {as : List ActG} {v : List Int} {i : Nat} (h : i < as.length) (hr : seqRun l as = ((seqGo l v (as.drop i)).1, i + (seqGo l v (as.drop i)).2.1, (seqGo l v (as.drop i)).2.2)) :
    (seqErr l v (as.getD i default) = 0 → seqRun l as = ((seqGo l (seqDo v (as.getD i default)) (as.drop (i + 1))).1, (i + 1) + (seqGo l (seqDo v (as.getD i default)) (as.drop (i + 1))).2.1, (seqGo l (seqDo v (as.getD i default)) (as.drop (i + 1))).2.2)) ∧
    (seqErr l v (as.getD i default) ≠ 0 → seqRun l as = ([], i, seqErr l v (as.getD i default))) := by
  rw [getD_lt h]
  rw [List.drop_eq_getElem_cons h] at hr
  refine ⟨fun e => ?_, fun e => ?_⟩
  · simp only [seqGo, e, if_true] at hr
    rw [hr]; congr 2; omega
  · simp only [seqGo, e, if_false] at hr
    exact hr

def sp_seq_Run : Sp := ⟨List LocG × Bool × List ActG × Bool, fun x => [.d (.list (x.1.map LocG.row) x.2.1), .d (.list (x.2.2.1.map ActG.row) x.2.2.2)],
  fun x => .data (x.1.length ≤ 1048576 ∧ x.2.2.1.length ≤ 1048576) (.tup [.d (.list ((seqRun x.1 x.2.2.1).1.map rowI) false), .d (.int .i64 (seqRun x.1 x.2.2.1).2.1), .d (.int .i64 (seqRun x.1 x.2.2.1).2.2)]) false⟩
theorem at_seq_Run (l : List LocG) (f : Bool) (as : List ActG) (g : Bool) : sp_seq_Run.at [.d (.list (l.map LocG.row) f), .d (.list (as.map ActG.row) g)] =
    .data (l.length ≤ 1048576 ∧ as.length ≤ 1048576) (.tup [.d (.list ((seqRun l as).1.map rowI) false), .d (.int .i64 (seqRun l as).2.1), .d (.int .i64 (seqRun l as).2.2)]) false :=
  Sp.at_enc (s := sp_seq_Run) (fun x y h => by
    obtain ⟨a, b, c, d⟩ := x; obtain ⟨a', b', c', d'⟩ := y
    simp only [sp_seq_Run, List.cons.injEq, AV.d.injEq, DV.list.injEq, and_true] at h
    obtain ⟨⟨h1, h2⟩, h3, h4⟩ := h
    rw [rows_inj LocG.row_inj h1, h2, rows_inj ActG.row_inj h3, h4]) (l, f, as, g)

theorem body_seq_Run {T : Tab} {n1 : Nat} (k1 : Knows T n1 sp_seq_Do) : sp_seq_Run.Body T V_seq_Run (L_seq_Run n1) R_seq_Run := by
  have F1 := k1.F; have G1 := k1.G
  rintro ⟨l, f, as, g⟩ ⟨hlen, hlen2⟩
  have hlen : l.length ≤ 1048576 := hlen
  have hlen2 : as.length ≤ 1048576 := hlen2
  refine ⟨rfl, ?_⟩
  unfold V_seq_Run L_seq_Run R_seq_Run
  simp only [↓vck_skip, ↓vck_ret, ↓vck_exit, ↓vck_region, ↓vck_nilq, ↓nilTo_to, nilG_d, nilG_r, ↓vck_seq, ↓vck_cond, ↓vck_block, ↓vck_loop, ↓vckTo_to, ↓thenK_n, ↓thenK_x, ↓thenK_r, ↓blockK_n, ↓blockK_x, ↓blockK_o, ↓blockK_r, ↓regK_to, ↓retK_r, ↓retK_n, ↓loopV_n, ↓loopV_x, ↓loopV_r, ↓famK_n, ↓famK_x, ↓famK_r, ↓boolK_true, ↓boolK_false, ↓boolK_not, ↓boolK_dec, ↓boolK_and, nf_mk, RGk_end_f, RGk_end_t, RGk_op, RGk_guard, opK_to, feet_f, feet_t, foot_mk, stepK_mk, stepK_v, stepK_no, guardG_t, guardG_f, guardG_no, condG_b, evT, Opd.ev, get_hit, get_next, app_to, app_no, app_up, app_skip, app_skipn, know_mk, knowO_t, knowO_c, envFrom, reserve, keeps, LOp.isNew, State.prune, cellsQ, cellsT, AV.leaf, Heap.at, evLoad_ptr, evLoad_dptr, loadO_vec, loadO_dvec1, stepK_load_map, idx_I, idx_U, idx_Rat, idx_Loc, idx_Act, idx_Step, idx_Stamp, stepK_idx_ref, evStore_ptr, storeO_vec, stepK_store_map1, loadDT_f, rowI, rowU, RatG.row, LocG.row, ActG.row, StepG.row, StampG.row, ActG.av, ActG.eta, RatG.eta, LocG.eta, beq_true, beq_false, loadDT_t, set_rowI, set_rowU, app_rowI, app_rowU, rep_rowI, rep_rowU, set_rowRat, app_rowRat, rep_rowRat, set_rowLoc, app_rowLoc, app_rowAct, app_rowStep, List.length_set, List.length_replicate, Int.toNat_natCast, Int.reduceToNat, evLen, evAppend, srcOf, Src.all, Src.len, Src.leaf, joinV, drows_rep1, drows_rep2, drows_rep3, drows_rep4, drows_rep5, drows_rep6, drows_rep7, drows_rep8, mkVec, drows, evMk, List.length_map, take_map_len, take_map_ge, loadQ, loadT, evBin, evUn, binT, binQ, chk, apartF, List.contains_cons, List.contains_nil, Bool.or_false, Bool.false_or, Bool.and_self, resQ, resV, resT, pickV, evCallT, evCall, fnOf, viewsT, viewT, evInt2, evEq, eqV, eqK, eqC1, buildQ, buildT, buildRQ, buildRT, lens_I, lensA_I, lens_U, lensA_U, lens_Rat, lensA_Rat, lens_Loc, lensA_Loc, lens_Act, lensA_Act, lens_Step, lensA_Step, lens_Stamp, lensA_Stamp, List.mem_cons, List.not_mem_nil, or_false, forall_eq, putRow, dcells, get_nil, RetS, RetF, RetD, AV.frz, AV.frzL, AV.freshP, AV.freshL, DV.less, scal_int, scal_bool, scal_nil, scal_rowI, scal_rowU, scal_rowRat, scal_rowStep, Option.some.injEq, AV.tup.injEq, AV.agg.injEq, List.cons.injEq, DV.list.injEq, List.isEmpty_nil, Nat.le_refl, AV.d.injEq, DV.int.injEq, DV.bool.injEq, ↓reduceIte, Nat.reduceEqDiff, Nat.reduceAdd, Nat.reduceBEq, List.length_cons, List.length_nil, List.replicate_succ, List.replicate_zero, List.nil_append, List.cons_append, List.append_nil, List.foldl_cons, List.foldl_nil, List.map_cons, List.map_nil, List.all_cons, List.all_nil, List.set_cons_zero, List.set_cons_succ, List.getD_cons_zero, List.getD_cons_succ, List.drop_zero, List.drop_succ_cons, List.take_succ_cons, List.take_zero, List.flatten_cons, List.flatten_nil, Bool.true_and, Bool.and_true, Bool.not_true, Bool.not_false, true_and, and_true, true_or, or_true, Option.bind_some, Option.map_some, decide_true, decide_false, beq_self_eq_true, true_implies, false_implies, implies_true, not_true_eq_false, not_false_eq_true, and_self, Bool.and_false, Bool.false_and, Nat.reduceLT, Nat.reduceLeDiff, List.reverse_cons, List.reverse_nil, Nat.zero_add, Nat.add_zero, Bool.false_eq_true, List.getElem?_cons_zero, sp_seq_Run, F1, G1, at_seq_Do]
  have r1 : roomy l.length 8 := roomy_of hlen (by omega)
  refine ⟨⟨by omega, by omega, r1⟩, ?_⟩
  refine Loop.fam [0, 1, 7, 17, 18, 19] (fun i : Nat => ⟨[(0, .d (.list (l.map LocG.row) f)), (1, .d (.list (as.map ActG.row) g)), (7, .ref 0 1 0 l.length true), (17, .d (.list (l.map LocG.row) f)), (18, .d (.int .i64 l.length)), (19, .d (.int .i64 i))],
      [.dvec 1 (((l.map LocG.init).take i ++ List.replicate (l.length - i) 0).map rowI)]⟩) (fun i => i ≤ l.length) (fun i => l.length - i) 0 [0] (by simp) (by simp)
    (by simp only [State.can, AV.can, AV.canL, HO.can, canRows, idx, get_hit, get_next, Heap.at, Nat.reduceBEq, ↓reduceIte, Nat.reduceEqDiff, Option.getD_some, Option.map_some, List.map_cons, List.map_nil, List.getD_cons_zero, List.getD_cons_succ]; simp) (by omega) ?_
  intro i hi
  simp only [↓vck_skip, ↓vck_ret, ↓vck_exit, ↓vck_region, ↓vck_nilq, ↓nilTo_to, nilG_d, nilG_r, ↓vck_seq, ↓vck_cond, ↓vck_block, ↓vck_loop, ↓vckTo_to, ↓thenK_n, ↓thenK_x, ↓thenK_r, ↓blockK_n, ↓blockK_x, ↓blockK_o, ↓blockK_r, ↓regK_to, ↓retK_r, ↓retK_n, ↓loopV_n, ↓loopV_x, ↓loopV_r, ↓famK_n, ↓famK_x, ↓famK_r, ↓boolK_true, ↓boolK_false, ↓boolK_not, ↓boolK_dec, ↓boolK_and, nf_mk, RGk_end_f, RGk_end_t, RGk_op, RGk_guard, opK_to, feet_f, feet_t, foot_mk, stepK_mk, stepK_v, stepK_no, guardG_t, guardG_f, guardG_no, condG_b, evT, Opd.ev, get_hit, get_next, app_to, app_no, app_up, app_skip, app_skipn, know_mk, knowO_t, knowO_c, envFrom, reserve, keeps, LOp.isNew, State.prune, cellsQ, cellsT, AV.leaf, Heap.at, evLoad_ptr, evLoad_dptr, loadO_vec, loadO_dvec1, stepK_load_map, idx_I, idx_U, idx_Rat, idx_Loc, idx_Act, idx_Step, idx_Stamp, stepK_idx_ref, evStore_ptr, storeO_vec, stepK_store_map1, loadDT_f, rowI, rowU, RatG.row, LocG.row, ActG.row, StepG.row, StampG.row, ActG.av, ActG.eta, RatG.eta, LocG.eta, beq_true, beq_false, loadDT_t, set_rowI, set_rowU, app_rowI, app_rowU, rep_rowI, rep_rowU, set_rowRat, app_rowRat, rep_rowRat, set_rowLoc, app_rowLoc, app_rowAct, app_rowStep, List.length_set, List.length_replicate, Int.toNat_natCast, Int.reduceToNat, evLen, evAppend, srcOf, Src.all, Src.len, Src.leaf, joinV, drows_rep1, drows_rep2, drows_rep3, drows_rep4, drows_rep5, drows_rep6, drows_rep7, drows_rep8, mkVec, drows, evMk, List.length_map, take_map_len, take_map_ge, loadQ, loadT, evBin, evUn, binT, binQ, chk, apartF, List.contains_cons, List.contains_nil, Bool.or_false, Bool.false_or, Bool.and_self, resQ, resV, resT, pickV, evCallT, evCall, fnOf, viewsT, viewT, evInt2, evEq, eqV, eqK, eqC1, buildQ, buildT, buildRQ, buildRT, lens_I, lensA_I, lens_U, lensA_U, lens_Rat, lensA_Rat, lens_Loc, lensA_Loc, lens_Act, lensA_Act, lens_Step, lensA_Step, lens_Stamp, lensA_Stamp, List.mem_cons, List.not_mem_nil, or_false, forall_eq, putRow, dcells, get_nil, RetS, RetF, RetD, AV.frz, AV.frzL, AV.freshP, AV.freshL, DV.less, scal_int, scal_bool, scal_nil, scal_rowI, scal_rowU, scal_rowRat, scal_rowStep, Option.some.injEq, AV.tup.injEq, AV.agg.injEq, List.cons.injEq, DV.list.injEq, List.isEmpty_nil, Nat.le_refl, AV.d.injEq, DV.int.injEq, DV.bool.injEq, ↓reduceIte, Nat.reduceEqDiff, Nat.reduceAdd, Nat.reduceBEq, List.length_cons, List.length_nil, List.replicate_succ, List.replicate_zero, List.nil_append, List.cons_append, List.append_nil, List.foldl_cons, List.foldl_nil, List.map_cons, List.map_nil, List.all_cons, List.all_nil, List.set_cons_zero, List.set_cons_succ, List.getD_cons_zero, List.getD_cons_succ, List.drop_zero, List.drop_succ_cons, List.take_succ_cons, List.take_zero, List.flatten_cons, List.flatten_nil, Bool.true_and, Bool.and_true, Bool.not_true, Bool.not_false, true_and, and_true, true_or, or_true, Option.bind_some, Option.map_some, decide_true, decide_false, beq_self_eq_true, true_implies, false_implies, implies_true, not_true_eq_false, not_false_eq_true, and_self, Bool.and_false, Bool.false_and, Nat.reduceLT, Nat.reduceLeDiff, List.reverse_cons, List.reverse_nil, Nat.zero_add, Nat.add_zero, Bool.false_eq_true, List.getElem?_cons_zero, F1, G1, at_seq_Do]
  have hv : ((l.map LocG.init).take i ++ List.replicate (l.length - i) 0).length = l.length := by simp; omega
  refine ⟨fun h => ?_, fun h => ?_⟩
  · have h' : i < l.length := by omega
    rw [wrap_succ h' (by unfold maxLen; omega)]
    refine ⟨⟨by omega, by omega⟩, ⟨by omega, by omega⟩, by omega, FamNext.mk [0] (i + 1) (by simp) (by simp) ?_ (by omega) (by omega)⟩
    simp only [State.can, AV.can, AV.canL, HO.can, canRows, idx, get_hit, get_next, Heap.at, Nat.reduceBEq, ↓reduceIte, Nat.reduceEqDiff, Option.getD_some, Option.map_some, List.map_cons, List.map_nil, List.getD_cons_zero, List.getD_cons_succ]
    have e : ((l.map LocG.init).take i ++ List.replicate (l.length - i) 0).set i (l.getD i default).init = (l.map LocG.init).take (i + 1) ++ List.replicate (l.length - (i + 1)) 0 := by
      rw [List.set_append_right _ _ (by simp; omega), List.take_add_one, List.getElem?_eq_getElem (by simpa using h'), getD_lt h']
      have : l.length - i = (l.length - (i + 1)) + 1 := by omega
      rw [this, List.replicate_succ]
      have : i - (List.take i (List.map LocG.init l)).length = 0 := by simp; omega
      rw [this]
      simp
    rw [e]
  · have : i = l.length := by omega
    subst this
    have e1 : List.take l.length (List.map LocG.init l) ++ List.replicate (l.length - l.length) 0 = l.map LocG.init := by
      rw [List.take_of_length_le (by simp)]; simp
    rw [e1]
    refine Loop.fam [0, 1, 7, 30, 31, 32] (seqSt l f as g) (fun x => x.1 ≤ as.length ∧ x.2.2.length = l.length ∧ seqRun l as = ((seqGo l x.2.2 (as.drop x.1)).1, x.1 + (seqGo l x.2.2 (as.drop x.1)).2.1, (seqGo l x.2.2 (as.drop x.1)).2.2))
      (fun x => as.length - x.1) (0, true, l.map LocG.init) [0] (by simp) (by simp) (by simp only [State.can, AV.can, AV.canL, HO.can, canRows, idx, get_hit, get_next, Heap.at, Nat.reduceBEq, ↓reduceIte, Nat.reduceEqDiff, Option.getD_some, Option.map_some, List.map_cons, List.map_nil, List.getD_cons_zero, List.getD_cons_succ, seqSt]; simp) ⟨by omega, by simp, by simp [seqRun]⟩ ?_
    rintro ⟨i, b, v⟩ ⟨i1, i2, i3⟩
    have i1 : i ≤ as.length := i1
    have i2 : v.length = l.length := i2
    have i3 : seqRun l as = ((seqGo l v (as.drop i)).1, i + (seqGo l v (as.drop i)).2.1, (seqGo l v (as.drop i)).2.2) := i3
    have stop : ¬ (i : Int) < as.length → (seqRun l as).1 = v ∧ (seqRun l as).2.1 = as.length ∧ (seqRun l as).2.2 = 0 := fun h => by
      have : i = as.length := by omega
      subst this
      rw [i3, List.drop_length]; simp [seqGo]
    cases b with
    | true =>
      simp only [↓vck_skip, ↓vck_ret, ↓vck_exit, ↓vck_region, ↓vck_nilq, ↓nilTo_to, nilG_d, nilG_r, ↓vck_seq, ↓vck_cond, ↓vck_block, ↓vck_loop, ↓vckTo_to, ↓thenK_n, ↓thenK_x, ↓thenK_r, ↓blockK_n, ↓blockK_x, ↓blockK_o, ↓blockK_r, ↓regK_to, ↓retK_r, ↓retK_n, ↓loopV_n, ↓loopV_x, ↓loopV_r, ↓famK_n, ↓famK_x, ↓famK_r, ↓boolK_true, ↓boolK_false, ↓boolK_not, ↓boolK_dec, ↓boolK_and, nf_mk, RGk_end_f, RGk_end_t, RGk_op, RGk_guard, opK_to, feet_f, feet_t, foot_mk, stepK_mk, stepK_v, stepK_no, guardG_t, guardG_f, guardG_no, condG_b, evT, Opd.ev, get_hit, get_next, app_to, app_no, app_up, app_skip, app_skipn, know_mk, knowO_t, knowO_c, envFrom, reserve, keeps, LOp.isNew, State.prune, cellsQ, cellsT, AV.leaf, Heap.at, evLoad_ptr, evLoad_dptr, loadO_vec, loadO_dvec1, stepK_load_map, idx_I, idx_U, idx_Rat, idx_Loc, idx_Act, idx_Step, idx_Stamp, stepK_idx_ref, evStore_ptr, storeO_vec, stepK_store_map1, loadDT_f, rowI, rowU, RatG.row, LocG.row, ActG.row, StepG.row, StampG.row, ActG.av, ActG.eta, RatG.eta, LocG.eta, beq_true, beq_false, loadDT_t, set_rowI, set_rowU, app_rowI, app_rowU, rep_rowI, rep_rowU, set_rowRat, app_rowRat, rep_rowRat, set_rowLoc, app_rowLoc, app_rowAct, app_rowStep, List.length_set, List.length_replicate, Int.toNat_natCast, Int.reduceToNat, evLen, evAppend, srcOf, Src.all, Src.len, Src.leaf, joinV, drows_rep1, drows_rep2, drows_rep3, drows_rep4, drows_rep5, drows_rep6, drows_rep7, drows_rep8, mkVec, drows, evMk, List.length_map, take_map_len, take_map_ge, loadQ, loadT, evBin, evUn, binT, binQ, chk, apartF, List.contains_cons, List.contains_nil, Bool.or_false, Bool.false_or, Bool.and_self, resQ, resV, resT, pickV, evCallT, evCall, fnOf, viewsT, viewT, evInt2, evEq, eqV, eqK, eqC1, buildQ, buildT, buildRQ, buildRT, lens_I, lensA_I, lens_U, lensA_U, lens_Rat, lensA_Rat, lens_Loc, lensA_Loc, lens_Act, lensA_Act, lens_Step, lensA_Step, lens_Stamp, lensA_Stamp, List.mem_cons, List.not_mem_nil, or_false, forall_eq, putRow, dcells, get_nil, RetS, RetF, RetD, AV.frz, AV.frzL, AV.freshP, AV.freshL, DV.less, scal_int, scal_bool, scal_nil, scal_rowI, scal_rowU, scal_rowRat, scal_rowStep, Option.some.injEq, AV.tup.injEq, AV.agg.injEq, List.cons.injEq, DV.list.injEq, List.isEmpty_nil, Nat.le_refl, AV.d.injEq, DV.int.injEq, DV.bool.injEq, ↓reduceIte, Nat.reduceEqDiff, Nat.reduceAdd, Nat.reduceBEq, List.length_cons, List.length_nil, List.replicate_succ, List.replicate_zero, List.nil_append, List.cons_append, List.append_nil, List.foldl_cons, List.foldl_nil, List.map_cons, List.map_nil, List.all_cons, List.all_nil, List.set_cons_zero, List.set_cons_succ, List.getD_cons_zero, List.getD_cons_succ, List.drop_zero, List.drop_succ_cons, List.take_succ_cons, List.take_zero, List.flatten_cons, List.flatten_nil, Bool.true_and, Bool.and_true, Bool.not_true, Bool.not_false, true_and, and_true, true_or, or_true, Option.bind_some, Option.map_some, decide_true, decide_false, beq_self_eq_true, true_implies, false_implies, implies_true, not_true_eq_false, not_false_eq_true, and_self, Bool.and_false, Bool.false_and, Nat.reduceLT, Nat.reduceLeDiff, List.reverse_cons, List.reverse_nil, Nat.zero_add, Nat.add_zero, Bool.false_eq_true, List.getElem?_cons_zero, F1, G1, at_seq_Do, seqSt]
      refine ⟨fun h => ?_, fun h => ?_⟩
      · have h' : i < as.length := by omega
        obtain ⟨n1, n2⟩ := seqRun_next h' i3
        refine ⟨⟨by omega, by omega⟩, by omega, ?_⟩
        rw [wrap_succ h' (by unfold maxLen; omega)]
        generalize as.getD i default = a at *
        refine ⟨fun e => ?_, fun e => ?_⟩
        · rw [show seqRes l v a = seqDo v a by rw [seqRes, if_pos e]]
          exact FamNext.mk [] (i + 1, false, seqDo v a) (by simp) (by simp) (by simp only [State.can, AV.can, AV.canL, HO.can, canRows, idx, get_hit, get_next, Heap.at, Nat.reduceBEq, ↓reduceIte, Nat.reduceEqDiff, Option.getD_some, Option.map_some, List.map_cons, List.map_nil, List.getD_cons_zero, List.getD_cons_succ, seqSt]) ⟨by show i + 1 ≤ as.length; omega, by show (seqDo v a).length = _; rw [seqDo_len, i2], n1 e⟩ (by show as.length - (i + 1) < as.length - i; omega)
        · rw [n2 e]; simp
      · obtain ⟨s1, s2, s3⟩ := stop h
        rw [s1, s2, s3]; simp
    | false =>
      simp only [↓vck_skip, ↓vck_ret, ↓vck_exit, ↓vck_region, ↓vck_nilq, ↓nilTo_to, nilG_d, nilG_r, ↓vck_seq, ↓vck_cond, ↓vck_block, ↓vck_loop, ↓vckTo_to, ↓thenK_n, ↓thenK_x, ↓thenK_r, ↓blockK_n, ↓blockK_x, ↓blockK_o, ↓blockK_r, ↓regK_to, ↓retK_r, ↓retK_n, ↓loopV_n, ↓loopV_x, ↓loopV_r, ↓famK_n, ↓famK_x, ↓famK_r, ↓boolK_true, ↓boolK_false, ↓boolK_not, ↓boolK_dec, ↓boolK_and, nf_mk, RGk_end_f, RGk_end_t, RGk_op, RGk_guard, opK_to, feet_f, feet_t, foot_mk, stepK_mk, stepK_v, stepK_no, guardG_t, guardG_f, guardG_no, condG_b, evT, Opd.ev, get_hit, get_next, app_to, app_no, app_up, app_skip, app_skipn, know_mk, knowO_t, knowO_c, envFrom, reserve, keeps, LOp.isNew, State.prune, cellsQ, cellsT, AV.leaf, Heap.at, evLoad_ptr, evLoad_dptr, loadO_vec, loadO_dvec1, stepK_load_map, idx_I, idx_U, idx_Rat, idx_Loc, idx_Act, idx_Step, idx_Stamp, stepK_idx_ref, evStore_ptr, storeO_vec, stepK_store_map1, loadDT_f, rowI, rowU, RatG.row, LocG.row, ActG.row, StepG.row, StampG.row, ActG.av, ActG.eta, RatG.eta, LocG.eta, beq_true, beq_false, loadDT_t, set_rowI, set_rowU, app_rowI, app_rowU, rep_rowI, rep_rowU, set_rowRat, app_rowRat, rep_rowRat, set_rowLoc, app_rowLoc, app_rowAct, app_rowStep, List.length_set, List.length_replicate, Int.toNat_natCast, Int.reduceToNat, evLen, evAppend, srcOf, Src.all, Src.len, Src.leaf, joinV, drows_rep1, drows_rep2, drows_rep3, drows_rep4, drows_rep5, drows_rep6, drows_rep7, drows_rep8, mkVec, drows, evMk, List.length_map, take_map_len, take_map_ge, loadQ, loadT, evBin, evUn, binT, binQ, chk, apartF, List.contains_cons, List.contains_nil, Bool.or_false, Bool.false_or, Bool.and_self, resQ, resV, resT, pickV, evCallT, evCall, fnOf, viewsT, viewT, evInt2, evEq, eqV, eqK, eqC1, buildQ, buildT, buildRQ, buildRT, lens_I, lensA_I, lens_U, lensA_U, lens_Rat, lensA_Rat, lens_Loc, lensA_Loc, lens_Act, lensA_Act, lens_Step, lensA_Step, lens_Stamp, lensA_Stamp, List.mem_cons, List.not_mem_nil, or_false, forall_eq, putRow, dcells, get_nil, RetS, RetF, RetD, AV.frz, AV.frzL, AV.freshP, AV.freshL, DV.less, scal_int, scal_bool, scal_nil, scal_rowI, scal_rowU, scal_rowRat, scal_rowStep, Option.some.injEq, AV.tup.injEq, AV.agg.injEq, List.cons.injEq, DV.list.injEq, List.isEmpty_nil, Nat.le_refl, AV.d.injEq, DV.int.injEq, DV.bool.injEq, ↓reduceIte, Nat.reduceEqDiff, Nat.reduceAdd, Nat.reduceBEq, List.length_cons, List.length_nil, List.replicate_succ, List.replicate_zero, List.nil_append, List.cons_append, List.append_nil, List.foldl_cons, List.foldl_nil, List.map_cons, List.map_nil, List.all_cons, List.all_nil, List.set_cons_zero, List.set_cons_succ, List.getD_cons_zero, List.getD_cons_succ, List.drop_zero, List.drop_succ_cons, List.take_succ_cons, List.take_zero, List.flatten_cons, List.flatten_nil, Bool.true_and, Bool.and_true, Bool.not_true, Bool.not_false, true_and, and_true, true_or, or_true, Option.bind_some, Option.map_some, decide_true, decide_false, beq_self_eq_true, true_implies, false_implies, implies_true, not_true_eq_false, not_false_eq_true, and_self, Bool.and_false, Bool.false_and, Nat.reduceLT, Nat.reduceLeDiff, List.reverse_cons, List.reverse_nil, Nat.zero_add, Nat.add_zero, Bool.false_eq_true, List.getElem?_cons_zero, F1, G1, at_seq_Do, seqSt]
      refine ⟨fun h => ?_, fun h => ?_⟩
      · have h' : i < as.length := by omega
        obtain ⟨n1, n2⟩ := seqRun_next h' i3
        refine ⟨⟨by omega, by omega⟩, by omega, ?_⟩
        rw [wrap_succ h' (by unfold maxLen; omega)]
        generalize as.getD i default = a at *
        refine ⟨fun e => ?_, fun e => ?_⟩
        · rw [show seqRes l v a = seqDo v a by rw [seqRes, if_pos e]]
          exact FamNext.mk [] (i + 1, false, seqDo v a) (by simp) (by simp) (by simp only [State.can, AV.can, AV.canL, HO.can, canRows, idx, get_hit, get_next, Heap.at, Nat.reduceBEq, ↓reduceIte, Nat.reduceEqDiff, Option.getD_some, Option.map_some, List.map_cons, List.map_nil, List.getD_cons_zero, List.getD_cons_succ, seqSt]) ⟨by show i + 1 ≤ as.length; omega, by show (seqDo v a).length = _; rw [seqDo_len, i2], n1 e⟩ (by show as.length - (i + 1) < as.length - i; omega)
        · rw [n2 e]; simp
      · obtain ⟨s1, s2, s3⟩ := stop h
        rw [s1, s2, s3]; simp

end Go.Ago
