/- The laws of layer 19: PowerNone. Conditions: none. -/
import Derived.Test.YtkcdbaagjhgmcaaDoorAgoP5
import Derived.Test.YtkcdbaagjhgmcaaDoorAgoP3
import Derived.Test.YtkcdbaagjhgmcaaDoorAgoP4
set_option maxRecDepth 100000
set_option linter.unusedSimpArgs false
set_option linter.unusedVariables false
namespace Go.Ago

/-- Nothing stands to anything. -/
def Zr (r : List W) : Prop := ∀ i k, hasN r i k = false
theorem Zr.lay2 {q : Bool → Bool → Bool} (hq : q false false = false) {a b : List W} (ha : Zr a) (hb : Zr b) : Zr (lay2 q a b) := fun i k => by
  rw [hasN_lay2 hq, ha, hb, hq]
theorem Zr.and {a b : List W} (hb : Zr b) : Zr (Go.Ago.lay2 qAnd a b) := fun i k => by
  rw [hasN_lay2 rfl, hb]; simp [qAnd]
theorem Zr.orL {l : List (List W)} (h : ∀ r ∈ l, Zr r) : Zr (Go.Ago.orL l) := fun i k => by
  rw [hasN_orL, List.any_eq_false]
  intro r hr; rw [h r hr]; simp
theorem Zr.keep {r : List W} {a b : W} (h : Zr r) : Zr (keepG r a b) := fun i k => by
  have := h i k
  unfold hasN at this ⊢
  have hl : szR (keepG r a b) = szR r := by unfold szR; rw [keepG_len]
  rw [hl]
  by_cases hi : i < szR r
  · have hr := szR_len r
    have e : (keepG r a b).getD i 0#64 = if a.getLsbD i then r.getD i 0#64 &&& b else 0#64 := by unfold keepG; rw [mapW_get (by omega)]
    rw [e]
    by_cases hk : k < szR r
    · simp only [hi, hk, decide_true, Bool.true_and] at this ⊢
      split
      · rw [BitVec.getLsbD_and, this]; rfl
      · simp
    · simp [hk]
  · simp [hi]
theorem Zr.whereG {l : List NodeG} {q : NodeG → NodeG → Bool} {r : List W} (hl : r.length ≤ 64) (h : Zr r) : Zr (Go.Ago.whereG l q r) := fun i k => by
  unfold Go.Ago.whereG
  rw [hasN_mk hl, h]; simp
attribute [local irreducible] orL thenG lay2 whereG keepG mkR cntR starG
/-! ### awake -/
def nodesA : List NodeG := [⟨0, 1, 0, 0⟩, ⟨0, 2, 1, 0⟩, ⟨1, 1, 1, 0⟩, ⟨1, 2, 0, 0⟩]
def nilX : List W × Bool := ([], true)
def poA : List W × Bool := ([2, 0, 8, 0], false)
def rfA : List W × Bool := ([0, 4, 0, 1], false)
def xA : XG := ⟨nodesA, false, poA, rfA, nilX, nilX, nilX, nilX, nilX, nilX, nilX, nilX, nilX⟩
def yA : XG := ⟨nodesA, false, poA, rfA, nilX, nilX, nilX, nilX, poA, nilX, nilX, nilX, nilX⟩
theorem ok_xA : xA.Ok := by constructor <;> exact Nat.le_of_ble_eq_true rfl
theorem ok_yA : yA.Ok := by constructor <;> exact Nat.le_of_ble_eq_true rfl
theorem check_xA : (ofXG xA).check = 0 := by decide +kernel
theorem check_yA : (ofXG yA).check = 2 := by decide +kernel
theorem ppo_yA : hasI (ofXG yA).ppo 0 1 = true := by decide +kernel
theorem at_checkA : sp_Check.at [.agg [.d (.list [[.int .i64 0, .int .i64 1, .int .i64 0, .int .i64 0], [.int .i64 0, .int .i64 2, .int .i64 1, .int .i64 0], [.int .i64 1, .int .i64 1, .int .i64 1, .int .i64 0], [.int .i64 1, .int .i64 2, .int .i64 0, .int .i64 0]] false), .d (.list [[.int .u64 2], [.int .u64 0], [.int .u64 8], [.int .u64 0]] false), .d (.list [[.int .u64 0], [.int .u64 4], [.int .u64 0], [.int .u64 1]] false), .d (.list [] true), .d (.list [] true), .d (.list [] true), .d (.list [] true), .d (.list [] true), .d (.list [] true), .d (.list [] true), .d (.list [] true), .d (.list [] true)]] = .data (xA.Ok ∧ (ofXG xA).Ok) (.d (.int .i64 (ofXG xA).check)) true := at_CheckX xA
theorem at_checkB : sp_Check.at [.agg [.d (.list [[.int .i64 0, .int .i64 1, .int .i64 0, .int .i64 0], [.int .i64 0, .int .i64 2, .int .i64 1, .int .i64 0], [.int .i64 1, .int .i64 1, .int .i64 1, .int .i64 0], [.int .i64 1, .int .i64 2, .int .i64 0, .int .i64 0]] false), .d (.list [[.int .u64 2], [.int .u64 0], [.int .u64 8], [.int .u64 0]] false), .d (.list [[.int .u64 0], [.int .u64 4], [.int .u64 0], [.int .u64 1]] false), .d (.list [] true), .d (.list [] true), .d (.list [] true), .d (.list [] true), .d (.list [[.int .u64 2], [.int .u64 0], [.int .u64 8], [.int .u64 0]] false), .d (.list [] true), .d (.list [] true), .d (.list [] true), .d (.list [] true)]] = .data (yA.Ok ∧ (ofXG yA).Ok) (.d (.int .i64 (ofXG yA).check)) true := at_CheckX yA
theorem at_ppoB : sp_Ppo.at [.agg [.d (.list [[.int .i64 0, .int .i64 1, .int .i64 0, .int .i64 0], [.int .i64 0, .int .i64 2, .int .i64 1, .int .i64 0], [.int .i64 1, .int .i64 1, .int .i64 1, .int .i64 0], [.int .i64 1, .int .i64 2, .int .i64 0, .int .i64 0]] false), .d (.list [[.int .u64 2], [.int .u64 0], [.int .u64 8], [.int .u64 0]] false), .d (.list [[.int .u64 0], [.int .u64 4], [.int .u64 0], [.int .u64 1]] false), .d (.list [] true), .d (.list [] true), .d (.list [] true), .d (.list [] true), .d (.list [[.int .u64 2], [.int .u64 0], [.int .u64 8], [.int .u64 0]] false), .d (.list [] true), .d (.list [] true), .d (.list [] true), .d (.list [] true)]] = .data (yA.Ok ∧ (ofXG yA).Ok) (.d (.list ((ofXG yA).ppo.map rowW) false)) false := at_PpoX yA
theorem body_law19_awake {T : Tab} {n1 n2 n3 : Nat} (k1 : Knows T n1 sp_Check) (k2 : Knows T n2 sp_Ppo) (k3 : Knows T n3 sp_Has) : sp_true.Body T V_law19_awake (L_law19_awake n1 n2 n3) R_law19_awake := by
  have F1 := k1.F; have G1 := k1.G; have F2 := k2.F; have G2 := k2.G; have F3 := k3.F; have G3 := k3.G
  rintro ⟨⟩ -
  refine .inl ⟨rfl, ?_⟩
  unfold V_law19_awake L_law19_awake R_law19_awake
  simp only [↓vck_skip, ↓vck_ret, ↓vck_exit, ↓vck_region, ↓vck_nilq, ↓nilTo_to, nilG_d, nilG_r, ↓vck_seq, ↓vck_cond, ↓vck_block, ↓vck_loop, ↓vckTo_to, ↓thenK_n, ↓thenK_x, ↓thenK_r, ↓blockK_n, ↓blockK_x, ↓blockK_o, ↓blockK_r, ↓regK_to, ↓retK_r, ↓retK_n, ↓loopV_n, ↓loopV_x, ↓loopV_r, ↓famK_n, ↓famK_x, ↓famK_r, ↓boolK_true, ↓boolK_false, ↓boolK_not, ↓boolK_dec, ↓boolK_and, nf_mk, RGk_end_f, RGk_end_t, RGk_op, RGk_guard, opK_to, evN, evCallN, grow_mk, feet_f, feet_t, foot_mk, stepK_mk, stepK_v, stepK_no, guardG_t, guardG_f, guardG_no, condG_b, evT, Opd.ev, get_hit, get_next, app_to, app_no, app_up, app_skip, app_skipn, know_mk, knowO_t, knowO_c, envFrom, reserve, keeps, LOp.isNew, State.prune, cellsQ, cellsT, AV.leaf, Heap.at, evLoad_ptr, evLoad_dptr, loadO_vec, loadO_dvec1, stepK_load_map, idx_I, idx_W, rowW, set_rowW, app_rowW, app_rowW0, rep_rowW0, rowB, set_rowB, rep_rowB, rowN, lens_W, lensA_W, scal_rowW, default_W, w_or, w_and, w_andNot, w_and1, w_shl, w_shl1, w_shr, w_sub1, w_neg, w_add, w_bit, w_eq0, w_eq1, w_eq, Bool.decide_eq_true, idx_Rat, idx_Loc, idx_Act, idx_Step, idx_Stamp, stepK_idx_ref, evStore_ptr, storeO_vec, stepK_store_map1, loadDT_f, rowI, RatG.row, LocG.row, ActG.row, StepG.row, StampG.row, ActG.av, ActG.eta, RatG.eta, LocG.eta, beq_true, beq_false, loadDT_t, set_rowI, app_rowI, rep_rowI, set_rowRat, app_rowRat, rep_rowRat, set_rowLoc, app_rowLoc, app_rowAct, app_rowStep, List.length_set, List.length_replicate, toNat_cast, Int.reduceToNat, evLen, evAppend, srcOf, Src.all, Src.len, Src.leaf, joinV, drows_rep1, drows_rep2, drows_rep3, drows_rep4, drows_rep5, drows_rep6, drows_rep7, drows_rep8, mkVec, drows, evMk, List.length_map, take_mapF, drop_mapF, List.take_length, List.take_left, List.length_append, Nat.le_add_right, ite_self, List.take_of_length_le, evSlice, intOr, intOpd, Option.isSome_none, Option.isSome_some, Nat.sub_zero, loadQ, loadT, evBin, evUn, evIdxArr_d, evIdxArr_p, binT, binQ, chk, apartF, List.contains_cons, List.contains_nil, Bool.or_false, Bool.false_or, Bool.and_self, resQ, resV, resT, pickV, evCallT, evCall, fnOf, viewsT, isD, HO.drow, viewT, evInt2, evEq, eqV, eqK, eqC1, buildQ, buildT, buildRQ, buildRT, lens_I, lensA_I, lens_Rat, lensA_Rat, lens_Loc, lensA_Loc, lens_Act, lensA_Act, lens_Step, lensA_Step, lens_Stamp, lensA_Stamp, List.mem_cons, List.not_mem_nil, or_false, forall_eq, putRow, dcells, get_nil, RetS, RetF, RetD, AV.frz, AV.frzL, AV.freshP, AV.freshL, DV.less, scal_int, scal_bool, scal_nil, scal_rowI, scal_rowRat, scal_rowStep, Option.some.injEq, AV.tup.injEq, AV.agg.injEq, List.cons.injEq, DV.list.injEq, List.isEmpty_nil, Nat.le_refl, AV.d.injEq, DV.int.injEq, DV.bool.injEq, ↓reduceIte, Nat.reduceEqDiff, Nat.reduceAdd, Nat.reduceBEq, List.length_cons, List.length_nil, List.replicate_succ, List.replicate_zero, List.nil_append, List.cons_append, List.append_nil, List.foldl_cons, List.foldl_nil, List.map_cons, List.map_nil, List.all_cons, List.all_nil, List.set_cons_zero, List.set_cons_succ, List.getD_cons_zero, List.getD_cons_succ, List.drop_zero, List.drop_succ_cons, List.take_succ_cons, List.take_zero, List.flatten_cons, List.flatten_nil, Bool.true_and, Bool.and_true, Bool.not_true, Bool.not_false, true_and, and_true, true_or, or_true, Option.bind_some, Option.map_some, decide_true, decide_false, beq_self_eq_true, true_implies, false_implies, implies_true, not_true_eq_false, not_false_eq_true, and_self, Bool.and_false, Bool.false_and, Nat.reduceLT, Nat.reduceLeDiff, List.reverse_cons, List.reverse_nil, Nat.zero_add, Nat.add_zero, Bool.false_eq_true, List.getElem?_cons_zero, Nat.reduceMul, Nat.mul_one, sp_true, F1, G1, F2, G2, F3, G3, at_checkA, at_checkB, at_ppoB, at_Has, check_xA, check_yA, ppo_yA]
  exact ⟨⟨ok_xA, ofXG_ok _⟩, ⟨ok_yA, ofXG_ok _⟩, ⟨ok_yA, ofXG_ok _⟩, le_M (by rw [ppo_64]; trivial)⟩
end Go.Ago

/- Contracts of the reference of layer 2: its small functions, Put, Of, Lay, Then, Back. Conditions: none. -/
set_option maxRecDepth 100000
set_option linter.unusedSimpArgs false
set_option linter.unusedVariables false
namespace Go.Ago

/-! ### Put -/
end Go.Ago

/- Contracts of the reference of layer 2: most, Copy, Same, Of, Lay, Then, Back. Conditions: none. -/
set_option maxRecDepth 100000
set_option linter.unusedSimpArgs false
set_option linter.unusedVariables false
namespace Go.Ago

def sp_sameW : Sp := sp_same rowW
theorem at_sameW (a b : List W) (f g : Bool) : sp_sameW.at [.d (.list (a.map rowW) f), .d (.list (b.map rowW) g)] = .data (a.length ≤ maxLen) (.d (.bool (decide (a = b)))) true := at_same rowW_inj a b f g
theorem body_ref02_Same {T : Tab} : sp_sameW.Body T V_ref02_Same L_ref02_Same R_ref02_Same := by
  rintro ⟨a, f, b, g⟩ hlen
  refine .inl ⟨rfl, ?_⟩
  unfold V_ref02_Same L_ref02_Same R_ref02_Same
  simp only [↓vck_skip, ↓vck_ret, ↓vck_exit, ↓vck_region, ↓vck_nilq, ↓nilTo_to, nilG_d, nilG_r, ↓vck_seq, ↓vck_cond, ↓vck_block, ↓vck_loop, ↓vckTo_to, ↓thenK_n, ↓thenK_x, ↓thenK_r, ↓blockK_n, ↓blockK_x, ↓blockK_o, ↓blockK_r, ↓regK_to, ↓retK_r, ↓retK_n, ↓loopV_n, ↓loopV_x, ↓loopV_r, ↓famK_n, ↓famK_x, ↓famK_r, ↓boolK_true, ↓boolK_false, ↓boolK_not, ↓boolK_dec, ↓boolK_and, nf_mk, RGk_end_f, RGk_end_t, RGk_op, RGk_guard, opK_to, evN, evCallN, grow_mk, feet_f, feet_t, foot_mk, stepK_mk, stepK_v, stepK_no, guardG_t, guardG_f, guardG_no, condG_b, evT, Opd.ev, get_hit, get_next, app_to, app_no, app_up, app_skip, app_skipn, know_mk, knowO_t, knowO_c, envFrom, reserve, keeps, LOp.isNew, State.prune, cellsQ, cellsT, AV.leaf, Heap.at, evLoad_ptr, evLoad_dptr, loadO_vec, loadO_dvec1, stepK_load_map, idx_I, idx_W, rowW, set_rowW, app_rowW, app_rowW0, rep_rowW0, rowB, set_rowB, rep_rowB, rowN, lens_W, lensA_W, scal_rowW, default_W, w_or, w_and, w_andNot, w_and1, w_shl, w_shl1, w_shr, w_sub1, w_neg, w_add, w_bit, w_eq0, w_eq1, w_eq, Bool.decide_eq_true, idx_Rat, idx_Loc, idx_Act, idx_Step, idx_Stamp, stepK_idx_ref, evStore_ptr, storeO_vec, stepK_store_map1, loadDT_f, rowI, RatG.row, LocG.row, ActG.row, StepG.row, StampG.row, ActG.av, ActG.eta, RatG.eta, LocG.eta, beq_true, beq_false, loadDT_t, set_rowI, app_rowI, rep_rowI, set_rowRat, app_rowRat, rep_rowRat, set_rowLoc, app_rowLoc, app_rowAct, app_rowStep, List.length_set, List.length_replicate, toNat_cast, Int.reduceToNat, evLen, evAppend, srcOf, Src.all, Src.len, Src.leaf, joinV, drows_rep1, drows_rep2, drows_rep3, drows_rep4, drows_rep5, drows_rep6, drows_rep7, drows_rep8, mkVec, drows, evMk, List.length_map, take_mapF, drop_mapF, List.take_length, List.take_left, List.length_append, Nat.le_add_right, ite_self, List.take_of_length_le, evSlice, intOr, intOpd, Option.isSome_none, Option.isSome_some, Nat.sub_zero, loadQ, loadT, evBin, evUn, evIdxArr_d, evIdxArr_p, binT, binQ, chk, apartF, List.contains_cons, List.contains_nil, Bool.or_false, Bool.false_or, Bool.and_self, resQ, resV, resT, pickV, evCallT, evCall, fnOf, viewsT, isD, HO.drow, viewT, evInt2, evEq, eqV, eqK, eqC1, buildQ, buildT, buildRQ, buildRT, lens_I, lensA_I, lens_Rat, lensA_Rat, lens_Loc, lensA_Loc, lens_Act, lensA_Act, lens_Step, lensA_Step, lens_Stamp, lensA_Stamp, List.mem_cons, List.not_mem_nil, or_false, forall_eq, putRow, dcells, get_nil, RetS, RetF, RetD, AV.frz, AV.frzL, AV.freshP, AV.freshL, DV.less, scal_int, scal_bool, scal_nil, scal_rowI, scal_rowRat, scal_rowStep, Option.some.injEq, AV.tup.injEq, AV.agg.injEq, List.cons.injEq, DV.list.injEq, List.isEmpty_nil, Nat.le_refl, AV.d.injEq, DV.int.injEq, DV.bool.injEq, ↓reduceIte, Nat.reduceEqDiff, Nat.reduceAdd, Nat.reduceBEq, List.length_cons, List.length_nil, List.replicate_succ, List.replicate_zero, List.nil_append, List.cons_append, List.append_nil, List.foldl_cons, List.foldl_nil, List.map_cons, List.map_nil, List.all_cons, List.all_nil, List.set_cons_zero, List.set_cons_succ, List.getD_cons_zero, List.getD_cons_succ, List.drop_zero, List.drop_succ_cons, List.take_succ_cons, List.take_zero, List.flatten_cons, List.flatten_nil, Bool.true_and, Bool.and_true, Bool.not_true, Bool.not_false, true_and, and_true, true_or, or_true, Option.bind_some, Option.map_some, decide_true, decide_false, beq_self_eq_true, true_implies, false_implies, implies_true, not_true_eq_false, not_false_eq_true, and_self, Bool.and_false, Bool.false_and, Nat.reduceLT, Nat.reduceLeDiff, List.reverse_cons, List.reverse_nil, Nat.zero_add, Nat.add_zero, Bool.false_eq_true, List.getElem?_cons_zero, Nat.reduceMul, Nat.mul_one, sp_sameW, sp_same]
  have hm : maxLen = 9223372036854775807 := rfl
  have hlen : a.length ≤ maxLen := hlen
  refine ⟨fun h => ?_, fun h => ?_⟩
  · have hab : a.length = b.length := by omega
    refine Loop.fam [0, 1, 5] (fun i : Nat => ⟨[(0, .d (.list (a.map rowW) f)), (1, .d (.list (b.map rowW) g)), (5, .d (.int .i64 (i : Nat)))], []⟩) (fun i => i ≤ a.length ∧ a.take i = b.take i) (fun i => a.length - i) 0 [] (by simp) (by simp)
      (by simp only [State.can, AV.can, AV.canL, HO.can, canRows, idx, get_hit, get_next, Heap.at, Nat.reduceBEq, ↓reduceIte, Nat.reduceEqDiff, Option.getD_some, Option.map_some, List.map_cons, List.map_nil, List.getD_cons_zero, List.getD_cons_succ]; rfl) ⟨by omega, by simp⟩ ?_
    rintro i ⟨h1, h2⟩
    simp only [↓vck_skip, ↓vck_ret, ↓vck_exit, ↓vck_region, ↓vck_nilq, ↓nilTo_to, nilG_d, nilG_r, ↓vck_seq, ↓vck_cond, ↓vck_block, ↓vck_loop, ↓vckTo_to, ↓thenK_n, ↓thenK_x, ↓thenK_r, ↓blockK_n, ↓blockK_x, ↓blockK_o, ↓blockK_r, ↓regK_to, ↓retK_r, ↓retK_n, ↓loopV_n, ↓loopV_x, ↓loopV_r, ↓famK_n, ↓famK_x, ↓famK_r, ↓boolK_true, ↓boolK_false, ↓boolK_not, ↓boolK_dec, ↓boolK_and, nf_mk, RGk_end_f, RGk_end_t, RGk_op, RGk_guard, opK_to, evN, evCallN, grow_mk, feet_f, feet_t, foot_mk, stepK_mk, stepK_v, stepK_no, guardG_t, guardG_f, guardG_no, condG_b, evT, Opd.ev, get_hit, get_next, app_to, app_no, app_up, app_skip, app_skipn, know_mk, knowO_t, knowO_c, envFrom, reserve, keeps, LOp.isNew, State.prune, cellsQ, cellsT, AV.leaf, Heap.at, evLoad_ptr, evLoad_dptr, loadO_vec, loadO_dvec1, stepK_load_map, idx_I, idx_W, rowW, set_rowW, app_rowW, app_rowW0, rep_rowW0, rowB, set_rowB, rep_rowB, rowN, lens_W, lensA_W, scal_rowW, default_W, w_or, w_and, w_andNot, w_and1, w_shl, w_shl1, w_shr, w_sub1, w_neg, w_add, w_bit, w_eq0, w_eq1, w_eq, Bool.decide_eq_true, idx_Rat, idx_Loc, idx_Act, idx_Step, idx_Stamp, stepK_idx_ref, evStore_ptr, storeO_vec, stepK_store_map1, loadDT_f, rowI, RatG.row, LocG.row, ActG.row, StepG.row, StampG.row, ActG.av, ActG.eta, RatG.eta, LocG.eta, beq_true, beq_false, loadDT_t, set_rowI, app_rowI, rep_rowI, set_rowRat, app_rowRat, rep_rowRat, set_rowLoc, app_rowLoc, app_rowAct, app_rowStep, List.length_set, List.length_replicate, toNat_cast, Int.reduceToNat, evLen, evAppend, srcOf, Src.all, Src.len, Src.leaf, joinV, drows_rep1, drows_rep2, drows_rep3, drows_rep4, drows_rep5, drows_rep6, drows_rep7, drows_rep8, mkVec, drows, evMk, List.length_map, take_mapF, drop_mapF, List.take_length, List.take_left, List.length_append, Nat.le_add_right, ite_self, List.take_of_length_le, evSlice, intOr, intOpd, Option.isSome_none, Option.isSome_some, Nat.sub_zero, loadQ, loadT, evBin, evUn, evIdxArr_d, evIdxArr_p, binT, binQ, chk, apartF, List.contains_cons, List.contains_nil, Bool.or_false, Bool.false_or, Bool.and_self, resQ, resV, resT, pickV, evCallT, evCall, fnOf, viewsT, isD, HO.drow, viewT, evInt2, evEq, eqV, eqK, eqC1, buildQ, buildT, buildRQ, buildRT, lens_I, lensA_I, lens_Rat, lensA_Rat, lens_Loc, lensA_Loc, lens_Act, lensA_Act, lens_Step, lensA_Step, lens_Stamp, lensA_Stamp, List.mem_cons, List.not_mem_nil, or_false, forall_eq, putRow, dcells, get_nil, RetS, RetF, RetD, AV.frz, AV.frzL, AV.freshP, AV.freshL, DV.less, scal_int, scal_bool, scal_nil, scal_rowI, scal_rowRat, scal_rowStep, Option.some.injEq, AV.tup.injEq, AV.agg.injEq, List.cons.injEq, DV.list.injEq, List.isEmpty_nil, Nat.le_refl, AV.d.injEq, DV.int.injEq, DV.bool.injEq, ↓reduceIte, Nat.reduceEqDiff, Nat.reduceAdd, Nat.reduceBEq, List.length_cons, List.length_nil, List.replicate_succ, List.replicate_zero, List.nil_append, List.cons_append, List.append_nil, List.foldl_cons, List.foldl_nil, List.map_cons, List.map_nil, List.all_cons, List.all_nil, List.set_cons_zero, List.set_cons_succ, List.getD_cons_zero, List.getD_cons_succ, List.drop_zero, List.drop_succ_cons, List.take_succ_cons, List.take_zero, List.flatten_cons, List.flatten_nil, Bool.true_and, Bool.and_true, Bool.not_true, Bool.not_false, true_and, and_true, true_or, or_true, Option.bind_some, Option.map_some, decide_true, decide_false, beq_self_eq_true, true_implies, false_implies, implies_true, not_true_eq_false, not_false_eq_true, and_self, Bool.and_false, Bool.false_and, Nat.reduceLT, Nat.reduceLeDiff, List.reverse_cons, List.reverse_nil, Nat.zero_add, Nat.add_zero, Bool.false_eq_true, List.getElem?_cons_zero, Nat.reduceMul, Nat.mul_one]
    refine ⟨fun h3 => ?_, fun h3 => ?_⟩
    · have h3 : i < a.length := by omega
      rw [wrap_succ h3 hlen]
      refine ⟨by omega, by omega, fun h4 => ?_, fun h4 => ?_⟩
      · exact FamNext.mk [] (i + 1) (by simp) (by simp) (by simp only [State.can, AV.can, AV.canL, HO.can, canRows, idx, get_hit, get_next, Heap.at, Nat.reduceBEq, ↓reduceIte, Nat.reduceEqDiff, Option.getD_some, Option.map_some, List.map_cons, List.map_nil, List.getD_cons_zero, List.getD_cons_succ]) ⟨by omega, take_next (d := 0#64) h2 h3 (by omega) h4⟩ (by omega)
      · simp only [Bool.false_eq, decide_eq_false_iff_not]
        intro e; subst e; exact h4 rfl
    · have : i = a.length := by omega
      subst this
      exact (decide_eq_true (take_all h2 hab)).symm
  · simp only [Bool.false_eq, decide_eq_false_iff_not]
    intro e; subst e; exact h rfl
end Go.Ago

/- The laws of layer 19: PowerRenamed. Conditions: none. -/
set_option maxRecDepth 100000
set_option linter.unusedSimpArgs false
set_option linter.unusedVariables false
namespace Go.Ago
def sp_few : Sp := ⟨XG, fun x => [x.av], fun x => .data True (.d (.bool (decide (x.nodes.length ≤ 14)))) true⟩
theorem at_fewX (x : XG) : sp_few.at [x.av] = .data True (.d (.bool (decide (x.nodes.length ≤ 14)))) true :=
  Sp.at_enc (s := sp_few) (fun (x y : XG) h => by
    simp only [sp_few, List.cons.injEq, and_true] at h
    exact XG.av_inj _ _ h) x
theorem body_law19_few {T : Tab} : sp_few.Body T V_law19_few L_law19_few R_law19_few := by
  rintro (x : XG) -
  refine .inl ⟨rfl, ?_⟩
  unfold V_law19_few L_law19_few R_law19_few
  simp only [↓vck_skip, ↓vck_ret, ↓vck_exit, ↓vck_region, ↓vck_nilq, ↓nilTo_to, nilG_d, nilG_r, ↓vck_seq, ↓vck_cond, ↓vck_block, ↓vck_loop, ↓vckTo_to, ↓thenK_n, ↓thenK_x, ↓thenK_r, ↓blockK_n, ↓blockK_x, ↓blockK_o, ↓blockK_r, ↓regK_to, ↓retK_r, ↓retK_n, ↓loopV_n, ↓loopV_x, ↓loopV_r, ↓famK_n, ↓famK_x, ↓famK_r, ↓boolK_true, ↓boolK_false, ↓boolK_not, ↓boolK_dec, ↓boolK_and, nf_mk, RGk_end_f, RGk_end_t, RGk_op, RGk_guard, opK_to, evN, evCallN, grow_mk, feet_f, feet_t, foot_mk, stepK_mk, stepK_v, stepK_no, guardG_t, guardG_f, guardG_no, condG_b, evT, Opd.ev, get_hit, get_next, app_to, app_no, app_up, app_skip, app_skipn, know_mk, knowO_t, knowO_c, envFrom, reserve, keeps, LOp.isNew, State.prune, cellsQ, cellsT, AV.leaf, Heap.at, evLoad_ptr, evLoad_dptr, loadO_vec, loadO_dvec1, stepK_load_map, idx_I, idx_W, rowW, set_rowW, app_rowW, app_rowW0, rep_rowW0, rowB, set_rowB, rep_rowB, rowN, lens_W, lensA_W, scal_rowW, default_W, w_or, w_and, w_andNot, w_and1, w_shl, w_shl1, w_shr, w_sub1, w_neg, w_add, w_bit, w_eq0, w_eq1, w_eq, Bool.decide_eq_true, idx_Rat, idx_Loc, idx_Act, idx_Step, idx_Stamp, stepK_idx_ref, evStore_ptr, storeO_vec, stepK_store_map1, loadDT_f, rowI, RatG.row, LocG.row, ActG.row, StepG.row, StampG.row, ActG.av, ActG.eta, RatG.eta, LocG.eta, beq_true, beq_false, loadDT_t, set_rowI, app_rowI, rep_rowI, set_rowRat, app_rowRat, rep_rowRat, set_rowLoc, app_rowLoc, app_rowAct, app_rowStep, List.length_set, List.length_replicate, toNat_cast, Int.reduceToNat, evLen, evAppend, srcOf, Src.all, Src.len, Src.leaf, joinV, drows_rep1, drows_rep2, drows_rep3, drows_rep4, drows_rep5, drows_rep6, drows_rep7, drows_rep8, mkVec, drows, evMk, List.length_map, take_mapF, drop_mapF, List.take_length, List.take_left, List.length_append, Nat.le_add_right, ite_self, List.take_of_length_le, evSlice, intOr, intOpd, Option.isSome_none, Option.isSome_some, Nat.sub_zero, loadQ, loadT, evBin, evUn, evIdxArr_d, evIdxArr_p, binT, binQ, chk, apartF, List.contains_cons, List.contains_nil, Bool.or_false, Bool.false_or, Bool.and_self, resQ, resV, resT, pickV, evCallT, evCall, fnOf, viewsT, isD, HO.drow, viewT, evInt2, evEq, eqV, eqK, eqC1, buildQ, buildT, buildRQ, buildRT, lens_I, lensA_I, lens_Rat, lensA_Rat, lens_Loc, lensA_Loc, lens_Act, lensA_Act, lens_Step, lensA_Step, lens_Stamp, lensA_Stamp, List.mem_cons, List.not_mem_nil, or_false, forall_eq, putRow, dcells, get_nil, RetS, RetF, RetD, AV.frz, AV.frzL, AV.freshP, AV.freshL, DV.less, scal_int, scal_bool, scal_nil, scal_rowI, scal_rowRat, scal_rowStep, Option.some.injEq, AV.tup.injEq, AV.agg.injEq, List.cons.injEq, DV.list.injEq, List.isEmpty_nil, Nat.le_refl, AV.d.injEq, DV.int.injEq, DV.bool.injEq, ↓reduceIte, Nat.reduceEqDiff, Nat.reduceAdd, Nat.reduceBEq, List.length_cons, List.length_nil, List.replicate_succ, List.replicate_zero, List.nil_append, List.cons_append, List.append_nil, List.foldl_cons, List.foldl_nil, List.map_cons, List.map_nil, List.all_cons, List.all_nil, List.set_cons_zero, List.set_cons_succ, List.getD_cons_zero, List.getD_cons_succ, List.drop_zero, List.drop_succ_cons, List.take_succ_cons, List.take_zero, List.flatten_cons, List.flatten_nil, Bool.true_and, Bool.and_true, Bool.not_true, Bool.not_false, true_and, and_true, true_or, or_true, Option.bind_some, Option.map_some, decide_true, decide_false, beq_self_eq_true, true_implies, false_implies, implies_true, not_true_eq_false, not_false_eq_true, and_self, Bool.and_false, Bool.false_and, Nat.reduceLT, Nat.reduceLeDiff, List.reverse_cons, List.reverse_nil, Nat.zero_add, Nat.add_zero, Bool.false_eq_true, List.getElem?_cons_zero, Nat.reduceMul, Nat.mul_one, sp_few, XG.av]
  congr 1; apply propext; omega
def renN (add : Int) (n : NodeG) : NodeG := if 0 ≤ n.th then ⟨3 * n.th + add, n.loc, n.old, n.new⟩ else n
def XG.with (x : XG) (l : List NodeG) (f : Bool) : XG := { x with nodes := l, nf := f }
theorem at_fewA (l : List NodeG) (f : Bool) (po rf co fr addr data ctrl fenced sync lwsync pairs : List W × Bool) : sp_few.at [.agg [.d (.list (l.map ActG.row) f), .d (lsX po), .d (lsX rf), .d (lsX co), .d (lsX fr), .d (lsX addr), .d (lsX data), .d (lsX ctrl), .d (lsX fenced), .d (lsX sync), .d (lsX lwsync), .d (lsX pairs)]] =
  .data True (.d (.bool (decide (l.length ≤ 14)))) true := at_fewX ⟨l, f, po, rf, co, fr, addr, data, ctrl, fenced, sync, lwsync, pairs⟩
theorem at_CheckA (l : List NodeG) (f : Bool) (po rf co fr addr data ctrl fenced sync lwsync pairs : List W × Bool) : sp_Check.at [.agg [.d (.list (l.map ActG.row) f), .d (lsX po), .d (lsX rf), .d (lsX co), .d (lsX fr), .d (lsX addr), .d (lsX data), .d (lsX ctrl), .d (lsX fenced), .d (lsX sync), .d (lsX lwsync), .d (lsX pairs)]] =
  .data ((⟨l, f, po, rf, co, fr, addr, data, ctrl, fenced, sync, lwsync, pairs⟩ : XG).Ok ∧ (ofXG ⟨l, f, po, rf, co, fr, addr, data, ctrl, fenced, sync, lwsync, pairs⟩).Ok) (.d (.int .i64 (ofXG ⟨l, f, po, rf, co, fr, addr, data, ctrl, fenced, sync, lwsync, pairs⟩).check)) true := at_CheckX ⟨l, f, po, rf, co, fr, addr, data, ctrl, fenced, sync, lwsync, pairs⟩
theorem at_PpoA (l : List NodeG) (f : Bool) (po rf co fr addr data ctrl fenced sync lwsync pairs : List W × Bool) : sp_Ppo.at [.agg [.d (.list (l.map ActG.row) f), .d (lsX po), .d (lsX rf), .d (lsX co), .d (lsX fr), .d (lsX addr), .d (lsX data), .d (lsX ctrl), .d (lsX fenced), .d (lsX sync), .d (lsX lwsync), .d (lsX pairs)]] =
  .data ((⟨l, f, po, rf, co, fr, addr, data, ctrl, fenced, sync, lwsync, pairs⟩ : XG).Ok ∧ (ofXG ⟨l, f, po, rf, co, fr, addr, data, ctrl, fenced, sync, lwsync, pairs⟩).Ok) (.d (.list ((ofXG ⟨l, f, po, rf, co, fr, addr, data, ctrl, fenced, sync, lwsync, pairs⟩).ppo.map rowW) false)) false := at_PpoX ⟨l, f, po, rf, co, fr, addr, data, ctrl, fenced, sync, lwsync, pairs⟩

theorem at_CheckN (po rf co fr addr data ctrl fenced sync lwsync pairs : List W × Bool) : sp_Check.at [.agg [.d (.list [] true), .d (lsX po), .d (lsX rf), .d (lsX co), .d (lsX fr), .d (lsX addr), .d (lsX data), .d (lsX ctrl), .d (lsX fenced), .d (lsX sync), .d (lsX lwsync), .d (lsX pairs)]] =
  .data ((⟨[], true, po, rf, co, fr, addr, data, ctrl, fenced, sync, lwsync, pairs⟩ : XG).Ok ∧ (ofXG ⟨[], true, po, rf, co, fr, addr, data, ctrl, fenced, sync, lwsync, pairs⟩).Ok) (.d (.int .i64 (ofXG ⟨[], true, po, rf, co, fr, addr, data, ctrl, fenced, sync, lwsync, pairs⟩).check)) true := at_CheckX ⟨[], true, po, rf, co, fr, addr, data, ctrl, fenced, sync, lwsync, pairs⟩
theorem at_PpoN (po rf co fr addr data ctrl fenced sync lwsync pairs : List W × Bool) : sp_Ppo.at [.agg [.d (.list [] true), .d (lsX po), .d (lsX rf), .d (lsX co), .d (lsX fr), .d (lsX addr), .d (lsX data), .d (lsX ctrl), .d (lsX fenced), .d (lsX sync), .d (lsX lwsync), .d (lsX pairs)]] =
  .data ((⟨[], true, po, rf, co, fr, addr, data, ctrl, fenced, sync, lwsync, pairs⟩ : XG).Ok ∧ (ofXG ⟨[], true, po, rf, co, fr, addr, data, ctrl, fenced, sync, lwsync, pairs⟩).Ok) (.d (.list ((ofXG ⟨[], true, po, rf, co, fr, addr, data, ctrl, fenced, sync, lwsync, pairs⟩).ppo.map rowW) false)) false := at_PpoX ⟨[], true, po, rf, co, fr, addr, data, ctrl, fenced, sync, lwsync, pairs⟩
theorem at_CheckC (a : NodeG) (l : List NodeG) (po rf co fr addr data ctrl fenced sync lwsync pairs : List W × Bool) : sp_Check.at [.agg [.d (.list ([.int .i64 a.kind, .int .i64 a.loc, .int .i64 a.old, .int .i64 a.new] :: l.map ActG.row) false), .d (lsX po), .d (lsX rf), .d (lsX co), .d (lsX fr), .d (lsX addr), .d (lsX data), .d (lsX ctrl), .d (lsX fenced), .d (lsX sync), .d (lsX lwsync), .d (lsX pairs)]] =
  .data ((⟨a :: l, false, po, rf, co, fr, addr, data, ctrl, fenced, sync, lwsync, pairs⟩ : XG).Ok ∧ (ofXG ⟨a :: l, false, po, rf, co, fr, addr, data, ctrl, fenced, sync, lwsync, pairs⟩).Ok) (.d (.int .i64 (ofXG ⟨a :: l, false, po, rf, co, fr, addr, data, ctrl, fenced, sync, lwsync, pairs⟩).check)) true := at_CheckX ⟨a :: l, false, po, rf, co, fr, addr, data, ctrl, fenced, sync, lwsync, pairs⟩
theorem at_PpoC (a : NodeG) (l : List NodeG) (po rf co fr addr data ctrl fenced sync lwsync pairs : List W × Bool) : sp_Ppo.at [.agg [.d (.list ([.int .i64 a.kind, .int .i64 a.loc, .int .i64 a.old, .int .i64 a.new] :: l.map ActG.row) false), .d (lsX po), .d (lsX rf), .d (lsX co), .d (lsX fr), .d (lsX addr), .d (lsX data), .d (lsX ctrl), .d (lsX fenced), .d (lsX sync), .d (lsX lwsync), .d (lsX pairs)]] =
  .data ((⟨a :: l, false, po, rf, co, fr, addr, data, ctrl, fenced, sync, lwsync, pairs⟩ : XG).Ok ∧ (ofXG ⟨a :: l, false, po, rf, co, fr, addr, data, ctrl, fenced, sync, lwsync, pairs⟩).Ok) (.d (.list ((ofXG ⟨a :: l, false, po, rf, co, fr, addr, data, ctrl, fenced, sync, lwsync, pairs⟩).ppo.map rowW) false)) false := at_PpoX ⟨a :: l, false, po, rf, co, fr, addr, data, ctrl, fenced, sync, lwsync, pairs⟩
/-! ### Models that tell nodes apart alike -/
structure Alike (m m' : MG) : Prop where
  len : m'.nodes.length = m.nodes.length
  ap : ∀ r : List W, r.length ≤ m.nodes.length → whereG m'.nodes apartQ r = whereG m.nodes apartQ r
  lc : ∀ r : List W, r.length ≤ m.nodes.length → whereG m'.nodes locQ r = whereG m.nodes locQ r
  po : m'.po = m.po
  rf : m'.rf = m.rf
  co : m'.co = m.co
  fr : m'.fr = m.fr
  addr : m'.addr = m.addr
  data : m'.data = m.data
  ctrl : m'.ctrl = m.ctrl
  fenced : m'.fenced = m.fenced
  sync : m'.sync = m.sync
  lwsync : m'.lwsync = m.lwsync
  pairs : m'.pairs = m.pairs
  read : m'.read = m.read
  write : m'.write = m.write
section
variable {m m' : MG} (h : Alike m m') (hm : m.Ok)
include h hm
theorem Alike.rfe : m'.ext m'.rf = m.ext m.rf := by unfold MG.ext; rw [h.rf, h.ap _ (Nat.le_of_eq hm.rf.len)]
theorem Alike.fre : m'.ext m'.fr = m.ext m.fr := by unfold MG.ext; rw [h.fr, h.ap _ (Nat.le_of_eq hm.fr.len)]
theorem Alike.coe : m'.ext m'.co = m.ext m.co := by unfold MG.ext; rw [h.co, h.ap _ (Nat.le_of_eq hm.co.len)]
theorem Alike.poloc : m'.poloc = m.poloc := by unfold MG.poloc; rw [h.po, h.lc _ (Nat.le_of_eq hm.po.len)]
theorem Alike.start : m'.start = m.start := by
  unfold MG.start MG.dd
  rw [h.rfe hm, h.fre hm, h.coe hm, h.poloc hm, h.po, h.rf, h.addr, h.data, h.ctrl, h.fenced, h.len]
theorem Alike.ppo : m'.ppo = m.ppo := by
  unfold MG.ppo
  rw [h.start hm, h.read, h.write]
omit hm in
theorem Alike.fence : m'.fence = m.fence := by
  unfold MG.fence
  rw [h.sync, h.lwsync, h.read, h.write]
theorem Alike.hb : m'.hb = m.hb := by
  unfold MG.hb
  rw [h.ppo hm, h.fence, h.rfe hm]
omit hm in
theorem Alike.com : m'.com = m.com := by
  unfold MG.com
  rw [h.rf, h.co, h.fr]
theorem Alike.base : m'.base = m.base := by
  unfold MG.base
  rw [h.fence, h.rfe hm, h.hb hm]
theorem Alike.strong : m'.strong = m.strong := by
  unfold MG.strong
  rw [h.com, h.base hm, h.sync, h.hb hm]
theorem Alike.prop : m'.prop = m.prop := by
  unfold MG.prop
  rw [h.base hm, h.strong hm, h.write]
theorem Alike.check : m'.check = m.check := by
  have e : m'.seen = m.seen := by unfold MG.seen; rw [h.fre hm, h.prop hm, h.hb hm]
  unfold MG.check
  rw [h.poloc hm, h.com, h.hb hm, e, h.coe hm, h.co, h.prop hm, h.pairs, h.fre hm]
end
theorem renN_apart {add : Int} (h0 : 0 ≤ add) (a b : NodeG) : apartQ (renN add a) (renN add b) = apartQ a b := by
  unfold apartQ renN NodeG.th
  split <;> split <;> simp only <;> rw [Bool.eq_iff_iff] <;> simp only [Bool.or_eq_true, Bool.not_eq_true', decide_eq_false_iff_not, decide_eq_true_eq] <;> omega
theorem renN_loc {add : Int} (a b : NodeG) : locQ (renN add a) (renN add b) = locQ a b := by
  unfold locQ renN NodeG.lc
  split <;> split <;> rfl
theorem renN_kd {add : Int} (a : NodeG) : (renN add a).kd = a.kd := by unfold renN NodeG.kd; split <;> rfl
theorem getD_ren {l : List NodeG} {add : Int} {i : Nat} (h : i < l.length) : (l.map (renN add)).getD i default = renN add (l.getD i default) := by
  rw [List.getD_eq_getElem?_getD, List.getElem?_map, List.getElem?_eq_getElem h, List.getD_eq_getElem?_getD, List.getElem?_eq_getElem h]; rfl
theorem where_ren {l : List NodeG} {add : Int} {q : NodeG → NodeG → Bool} (hq : ∀ a b, q (renN add a) (renN add b) = q a b) {r : List W} (hr : r.length ≤ l.length) : whereG (l.map (renN add)) q r = whereG l q r := by
  unfold whereG
  refine mkR_congr fun i k hi hk => ?_
  rw [getD_ren (by omega), getD_ren (by omega), hq]
theorem kindW_ren {l : List NodeG} {add q : Int} : ∀ {n : Nat}, n ≤ l.length → kindW (l.map (renN add)) q n = kindW l q n := by
  intro n
  induction n with
  | zero => intro _; rfl
  | succ n ih =>
    intro h
    have ih := ih (by omega)
    have e : decide (((l.map (renN add)).getD n default).kd = q) = decide ((l.getD n default).kd = q) := by rw [getD_ren (by omega), renN_kd]
    unfold kindW at ih ⊢
    simp only [ofB, e, ih]
theorem alike_ren {x : XG} {add : Int} {f : Bool} (h0 : 0 ≤ add) : Alike (ofXG x) (ofXG (x.with (x.nodes.map (renN add)) f)) := by
  have hn : (x.with (x.nodes.map (renN add)) f).n = x.n := by unfold XG.n XG.with; simp
  have hl : x.n ≤ x.nodes.length := Nat.min_le_left _ _
  have en : (ofXG (x.with (x.nodes.map (renN add)) f)).nodes = (ofXG x).nodes.map (renN add) := by
    show (x.nodes.map (renN add)).take _ = (x.nodes.take x.n).map (renN add)
    rw [hn, List.map_take]
  constructor
  · rw [en, List.length_map]
  · intro r hr; rw [en]; exact where_ren (renN_apart h0) hr
  · intro r hr; rw [en]; exact where_ren renN_loc hr
  all_goals first
    | (show fitX _ _ = fitX _ _; rw [hn]; rfl)
    | (show kindW _ _ _ = kindW _ _ _; rw [hn]; exact kindW_ren hl)

def renSt (x : XG) (add : Int) : List NodeG → State
  | [] => ⟨[(1, .d (.int .i64 add)), (2, .ptr 0 12 0 0), (5, .ptr 1 12 0 0), (6, .d (.int .i64 0))],
      [.vec 12 [[.d (.list (x.nodes.map ActG.row) x.nf), .d (lsX x.po), .d (lsX x.rf), .d (lsX x.co), .d (lsX x.fr), .d (lsX x.addr), .d (lsX x.data), .d (lsX x.ctrl), .d (lsX x.fenced), .d (lsX x.sync), .d (lsX x.lwsync), .d (lsX x.pairs)]],
       .vec 12 [[.d (.list [] true), .d (lsX x.po), .d (lsX x.rf), .d (lsX x.co), .d (lsX x.fr), .d (lsX x.addr), .d (lsX x.data), .d (lsX x.ctrl), .d (lsX x.fenced), .d (lsX x.sync), .d (lsX x.lwsync), .d (lsX x.pairs)]]]⟩
  | a :: l => ⟨[(1, .d (.int .i64 add)), (2, .ptr 0 12 0 0), (5, .ptr 1 12 0 0), (6, .d (.int .i64 ((l.length + 1 : Nat) : Int)))],
      [.vec 12 [[.d (.list (x.nodes.map ActG.row) x.nf), .d (lsX x.po), .d (lsX x.rf), .d (lsX x.co), .d (lsX x.fr), .d (lsX x.addr), .d (lsX x.data), .d (lsX x.ctrl), .d (lsX x.fenced), .d (lsX x.sync), .d (lsX x.lwsync), .d (lsX x.pairs)]],
       .vec 12 [[.ref 2 4 0 (l.length + 1) true, .d (lsX x.po), .d (lsX x.rf), .d (lsX x.co), .d (lsX x.fr), .d (lsX x.addr), .d (lsX x.data), .d (lsX x.ctrl), .d (lsX x.fenced), .d (lsX x.sync), .d (lsX x.lwsync), .d (lsX x.pairs)]],
       .dvec 4 ((a :: l).map ActG.row)]⟩
theorem law_PowerRenamed {T : Tab} {n1 n2 n3 n4 n5 : Nat} (k1 : Knows T n1 sp_true) (k2 : Knows T n2 sp_Check) (k3 : Knows T n3 sp_few) (k4 : Knows T n4 sp_sameW) (k5 : Knows T n5 sp_Ppo) (x : XG) (hx : x.Ok) (add : Int) :
    Holds T V_law19_PowerRenamed (L_law19_PowerRenamed n1 n2 n3 n4 n5) R_law19_PowerRenamed [x.av, .d (.int .i64 add)] := by
  have F1 := k1.F; have G1 := k1.G; have F2 := k2.F; have G2 := k2.G; have F3 := k3.F; have G3 := k3.G; have F4 := k4.F; have G4 := k4.G; have F5 := k5.F; have G5 := k5.G
  unfold Holds V_law19_PowerRenamed L_law19_PowerRenamed R_law19_PowerRenamed
  simp only [↓vck_skip, ↓vck_ret, ↓vck_exit, ↓vck_region, ↓vck_nilq, ↓nilTo_to, nilG_d, nilG_r, ↓vck_seq, ↓vck_cond, ↓vck_block, ↓vck_loop, ↓vckTo_to, ↓thenK_n, ↓thenK_x, ↓thenK_r, ↓blockK_n, ↓blockK_x, ↓blockK_o, ↓blockK_r, ↓regK_to, ↓retK_r, ↓retK_n, ↓loopV_n, ↓loopV_x, ↓loopV_r, ↓famK_n, ↓famK_x, ↓famK_r, ↓boolK_true, ↓boolK_false, ↓boolK_not, ↓boolK_dec, ↓boolK_and, nf_mk, RGk_end_f, RGk_end_t, RGk_op, RGk_guard, opK_to, evN, evCallN, grow_mk, feet_f, feet_t, foot_mk, stepK_mk, stepK_v, stepK_no, guardG_t, guardG_f, guardG_no, condG_b, evT, Opd.ev, get_hit, get_next, app_to, app_no, app_up, app_skip, app_skipn, know_mk, knowO_t, knowO_c, envFrom, reserve, keeps, LOp.isNew, State.prune, cellsQ, cellsT, AV.leaf, Heap.at, evLoad_ptr, evLoad_dptr, loadO_vec, loadO_dvec1, stepK_load_map, idx_I, idx_W, rowW, set_rowW, app_rowW, app_rowW0, rep_rowW0, rowB, set_rowB, rep_rowB, rowN, lens_W, lensA_W, scal_rowW, default_W, w_or, w_and, w_andNot, w_and1, w_shl, w_shl1, w_shr, w_sub1, w_neg, w_add, w_bit, w_eq0, w_eq1, w_eq, Bool.decide_eq_true, idx_Rat, idx_Loc, idx_Act, idx_Step, idx_Stamp, stepK_idx_ref, evStore_ptr, storeO_vec, stepK_store_map1, loadDT_f, rowI, RatG.row, LocG.row, ActG.row, StepG.row, StampG.row, ActG.av, ActG.eta, RatG.eta, LocG.eta, beq_true, beq_false, loadDT_t, set_rowI, app_rowI, rep_rowI, set_rowRat, app_rowRat, rep_rowRat, set_rowLoc, app_rowLoc, app_rowAct, app_rowStep, List.length_set, List.length_replicate, toNat_cast, Int.reduceToNat, evLen, evAppend, srcOf, Src.all, Src.len, Src.leaf, joinV, drows_rep1, drows_rep2, drows_rep3, drows_rep4, drows_rep5, drows_rep6, drows_rep7, drows_rep8, mkVec, drows, evMk, List.length_map, take_mapF, drop_mapF, List.take_length, List.take_left, List.length_append, Nat.le_add_right, ite_self, List.take_of_length_le, evSlice, intOr, intOpd, Option.isSome_none, Option.isSome_some, Nat.sub_zero, loadQ, loadT, evBin, evUn, evIdxArr_d, evIdxArr_p, binT, binQ, chk, apartF, List.contains_cons, List.contains_nil, Bool.or_false, Bool.false_or, Bool.and_self, resQ, resV, resT, pickV, evCallT, evCall, fnOf, viewsT, isD, HO.drow, viewT, evInt2, evEq, eqV, eqK, eqC1, buildQ, buildT, buildRQ, buildRT, lens_I, lensA_I, lens_Rat, lensA_Rat, lens_Loc, lensA_Loc, lens_Act, lensA_Act, lens_Step, lensA_Step, lens_Stamp, lensA_Stamp, List.mem_cons, List.not_mem_nil, or_false, forall_eq, putRow, dcells, get_nil, RetS, RetF, RetD, AV.frz, AV.frzL, AV.freshP, AV.freshL, DV.less, scal_int, scal_bool, scal_nil, scal_rowI, scal_rowRat, scal_rowStep, Option.some.injEq, AV.tup.injEq, AV.agg.injEq, List.cons.injEq, DV.list.injEq, List.isEmpty_nil, Nat.le_refl, AV.d.injEq, DV.int.injEq, DV.bool.injEq, ↓reduceIte, Nat.reduceEqDiff, Nat.reduceAdd, Nat.reduceBEq, List.length_cons, List.length_nil, List.replicate_succ, List.replicate_zero, List.nil_append, List.cons_append, List.append_nil, List.foldl_cons, List.foldl_nil, List.map_cons, List.map_nil, List.all_cons, List.all_nil, List.set_cons_zero, List.set_cons_succ, List.getD_cons_zero, List.getD_cons_succ, List.drop_zero, List.drop_succ_cons, List.take_succ_cons, List.take_zero, List.flatten_cons, List.flatten_nil, Bool.true_and, Bool.and_true, Bool.not_true, Bool.not_false, true_and, and_true, true_or, or_true, Option.bind_some, Option.map_some, decide_true, decide_false, beq_self_eq_true, true_implies, false_implies, implies_true, not_true_eq_false, not_false_eq_true, and_self, Bool.and_false, Bool.false_and, Nat.reduceLT, Nat.reduceLeDiff, List.reverse_cons, List.reverse_nil, Nat.zero_add, Nat.add_zero, Bool.false_eq_true, List.getElem?_cons_zero, Nat.reduceMul, Nat.mul_one, F1, G1, F2, G2, F3, G3, F4, G4, F5, G5, at_true, at_fewA, XG.av]
  intro hlen h0 h1
  have h0 : 0 ≤ add := by omega
  have h1 : add ≤ 1000 := by omega
  refine Loop.fam [1, 2, 5, 6] (renSt x add) (fun L => L = (x.nodes.take L.length).map (renN add) ∧ L.length ≤ x.nodes.length) (fun L => x.nodes.length - L.length) [] [0, 1] (by simp) (by simp) (by simp only [State.can, AV.can, AV.canL, HO.can, canRows, idx, get_hit, get_next, Heap.at, Nat.reduceBEq, ↓reduceIte, Nat.reduceEqDiff, Option.getD_some, Option.map_some, List.map_cons, List.map_nil, List.getD_cons_zero, List.getD_cons_succ, renSt]) ⟨rfl, Nat.zero_le _⟩ ?_
  rintro L ⟨hL, hl⟩
  have tk : ∀ (k : Nat), k < x.nodes.length → x.nodes.take (k + 1) = x.nodes.take k ++ [x.nodes.getD k default] := fun k hk => by
    rw [List.take_add_one, List.getElem?_eq_getElem hk, List.getD_eq_getElem?_getD, List.getElem?_eq_getElem hk]; rfl
  have yes : ∀ (k : Nat), ¬ 1000000 < (x.nodes.getD k default).kind → 0 ≤ (x.nodes.getD k default).kind → IntKind.i64.wrap (IntKind.i64.wrap (3 * (x.nodes.getD k default).kind) + add) = 3 * (x.nodes.getD k default).th + add := fun k c1 c2 => by
    rw [wrap_id (n := 3 * (x.nodes.getD k default).kind) (by omega) (by omega), wrap_id (by omega) (by omega)]; rfl
  have ry : ∀ (k : Nat), 0 ≤ (x.nodes.getD k default).kind → renN add (x.nodes.getD k default) = ⟨3 * (x.nodes.getD k default).th + add, (x.nodes.getD k default).loc, (x.nodes.getD k default).old, (x.nodes.getD k default).new⟩ := fun k c => by
    unfold renN; rw [if_pos (show 0 ≤ (x.nodes.getD k default).th from c)]
  have rn : ∀ (k : Nat), ¬ 0 ≤ (x.nodes.getD k default).kind → renN add (x.nodes.getD k default) = x.nodes.getD k default := fun k c => by
    unfold renN; rw [if_neg (show ¬ 0 ≤ (x.nodes.getD k default).th from c)]
  have fin : ∀ (y : XG) (f : Bool), y = x.with (x.nodes.map (renN add)) f → y.Ok ∧ (ofXG y).Ok ∧ (ofXG y).check = (ofXG x).check ∧ (ofXG y).ppo = (ofXG x).ppo := fun y f e => by
    subst e
    have hA := alike_ren (x := x) (f := f) h0
    refine ⟨?_, ofXG_ok _, hA.check (ofXG_ok x), hA.ppo (ofXG_ok x)⟩
    obtain ⟨a1, a2, a3, a4, a5, a6, a7, a8, a9, a10, a11, a12⟩ := hx
    exact ⟨by show (x.nodes.map (renN add)).length ≤ _; rw [List.length_map]; exact a1, a2, a3, a4, a5, a6, a7, a8, a9, a10, a11, a12⟩
  have done : ∀ (y : XG) (f : Bool), y = x.with (x.nodes.map (renN add)) f → (x.Ok ∧ (ofXG x).Ok) ∧ (y.Ok ∧ (ofXG y).Ok) ∧ ((ofXG x).check = (ofXG y).check → (x.Ok ∧ (ofXG x).Ok) ∧ (y.Ok ∧ (ofXG y).Ok) ∧ (ofXG x).ppo.length ≤ maxLen ∧ decide ((ofXG x).ppo = (ofXG y).ppo) = true) ∧ (¬ (ofXG x).check = (ofXG y).check → False) := fun y f e => by
    obtain ⟨h1, h2, h3, h4⟩ := fin y f e
    exact ⟨⟨hx, ofXG_ok _⟩, ⟨h1, h2⟩, fun _ => ⟨⟨hx, ofXG_ok _⟩, ⟨h1, h2⟩, le_M (by rw [ppo_64]; trivial), decide_eq_true h4.symm⟩, fun h => h h3.symm⟩
  cases L with
  | nil =>
    simp only [↓vck_skip, ↓vck_ret, ↓vck_exit, ↓vck_region, ↓vck_nilq, ↓nilTo_to, nilG_d, nilG_r, ↓vck_seq, ↓vck_cond, ↓vck_block, ↓vck_loop, ↓vckTo_to, ↓thenK_n, ↓thenK_x, ↓thenK_r, ↓blockK_n, ↓blockK_x, ↓blockK_o, ↓blockK_r, ↓regK_to, ↓retK_r, ↓retK_n, ↓loopV_n, ↓loopV_x, ↓loopV_r, ↓famK_n, ↓famK_x, ↓famK_r, ↓boolK_true, ↓boolK_false, ↓boolK_not, ↓boolK_dec, ↓boolK_and, nf_mk, RGk_end_f, RGk_end_t, RGk_op, RGk_guard, opK_to, evN, evCallN, grow_mk, feet_f, feet_t, foot_mk, stepK_mk, stepK_v, stepK_no, guardG_t, guardG_f, guardG_no, condG_b, evT, Opd.ev, get_hit, get_next, app_to, app_no, app_up, app_skip, app_skipn, know_mk, knowO_t, knowO_c, envFrom, reserve, keeps, LOp.isNew, State.prune, cellsQ, cellsT, AV.leaf, Heap.at, evLoad_ptr, evLoad_dptr, loadO_vec, loadO_dvec1, stepK_load_map, idx_I, idx_W, rowW, set_rowW, app_rowW, app_rowW0, rep_rowW0, rowB, set_rowB, rep_rowB, rowN, lens_W, lensA_W, scal_rowW, default_W, w_or, w_and, w_andNot, w_and1, w_shl, w_shl1, w_shr, w_sub1, w_neg, w_add, w_bit, w_eq0, w_eq1, w_eq, Bool.decide_eq_true, idx_Rat, idx_Loc, idx_Act, idx_Step, idx_Stamp, stepK_idx_ref, evStore_ptr, storeO_vec, stepK_store_map1, loadDT_f, rowI, RatG.row, LocG.row, ActG.row, StepG.row, StampG.row, ActG.av, ActG.eta, RatG.eta, LocG.eta, beq_true, beq_false, loadDT_t, set_rowI, app_rowI, rep_rowI, set_rowRat, app_rowRat, rep_rowRat, set_rowLoc, app_rowLoc, app_rowAct, app_rowStep, List.length_set, List.length_replicate, toNat_cast, Int.reduceToNat, evLen, evAppend, srcOf, Src.all, Src.len, Src.leaf, joinV, drows_rep1, drows_rep2, drows_rep3, drows_rep4, drows_rep5, drows_rep6, drows_rep7, drows_rep8, mkVec, drows, evMk, List.length_map, take_mapF, drop_mapF, List.take_length, List.take_left, List.length_append, Nat.le_add_right, ite_self, List.take_of_length_le, evSlice, intOr, intOpd, Option.isSome_none, Option.isSome_some, Nat.sub_zero, loadQ, loadT, evBin, evUn, evIdxArr_d, evIdxArr_p, binT, binQ, chk, apartF, List.contains_cons, List.contains_nil, Bool.or_false, Bool.false_or, Bool.and_self, resQ, resV, resT, pickV, evCallT, evCall, fnOf, viewsT, isD, HO.drow, viewT, evInt2, evEq, eqV, eqK, eqC1, buildQ, buildT, buildRQ, buildRT, lens_I, lensA_I, lens_Rat, lensA_Rat, lens_Loc, lensA_Loc, lens_Act, lensA_Act, lens_Step, lensA_Step, lens_Stamp, lensA_Stamp, List.mem_cons, List.not_mem_nil, or_false, forall_eq, putRow, dcells, get_nil, RetS, RetF, RetD, AV.frz, AV.frzL, AV.freshP, AV.freshL, DV.less, scal_int, scal_bool, scal_nil, scal_rowI, scal_rowRat, scal_rowStep, Option.some.injEq, AV.tup.injEq, AV.agg.injEq, List.cons.injEq, DV.list.injEq, List.isEmpty_nil, Nat.le_refl, AV.d.injEq, DV.int.injEq, DV.bool.injEq, ↓reduceIte, Nat.reduceEqDiff, Nat.reduceAdd, Nat.reduceBEq, List.length_cons, List.length_nil, List.replicate_succ, List.replicate_zero, List.nil_append, List.cons_append, List.append_nil, List.foldl_cons, List.foldl_nil, List.map_cons, List.map_nil, List.all_cons, List.all_nil, List.set_cons_zero, List.set_cons_succ, List.getD_cons_zero, List.getD_cons_succ, List.drop_zero, List.drop_succ_cons, List.take_succ_cons, List.take_zero, List.flatten_cons, List.flatten_nil, Bool.true_and, Bool.and_true, Bool.not_true, Bool.not_false, true_and, and_true, true_or, or_true, Option.bind_some, Option.map_some, decide_true, decide_false, beq_self_eq_true, true_implies, false_implies, implies_true, not_true_eq_false, not_false_eq_true, and_self, Bool.and_false, Bool.false_and, Nat.reduceLT, Nat.reduceLeDiff, List.reverse_cons, List.reverse_nil, Nat.zero_add, Nat.add_zero, Bool.false_eq_true, List.getElem?_cons_zero, Nat.reduceMul, Nat.mul_one, renSt, F1, G1, F2, G2, F3, G3, F4, G4, F5, G5, at_true, at_fewA, at_CheckA, at_PpoA, at_CheckN, at_PpoN, at_CheckC, at_PpoC, at_sameW]
    have w1 : IntKind.i64.wrap (0 + 1) = ((0 + 1 : Nat) : Int) := by decide
    refine ⟨fun c => ⟨⟨by omega, c⟩, fun c1 => ⟨fun c2 => ⟨roomy_of (by omega) (by omega), ?_⟩, fun c2 => ⟨roomy_of (by omega) (by omega), ?_⟩⟩⟩, fun c => ?_⟩
    · refine FamNext.mk [0, 1, 4] [renN add (x.nodes.getD 0 default)] (by simp) (by simp) ?_ ⟨?_, by show 1 ≤ _; omega⟩ (by show x.nodes.length - 1 < x.nodes.length; omega)
      · rw [yes 0 c1 c2, ry 0 c2]
        simp only [State.can, AV.can, AV.canL, HO.can, canRows, idx, get_hit, get_next, Heap.at, Nat.reduceBEq, ↓reduceIte, Nat.reduceEqDiff, Option.getD_some, Option.map_some, List.map_cons, List.map_nil, List.getD_cons_zero, List.getD_cons_succ, renSt]
        rfl
      · show _ = (x.nodes.take (0 + 1)).map (renN add)
        rw [tk 0 (by omega)]; rfl
    · refine FamNext.mk [0, 1, 4] [renN add (x.nodes.getD 0 default)] (by simp) (by simp) ?_ ⟨?_, by show 1 ≤ _; omega⟩ (by show x.nodes.length - 1 < x.nodes.length; omega)
      · rw [rn 0 c2]
        simp only [State.can, AV.can, AV.canL, HO.can, canRows, idx, get_hit, get_next, Heap.at, Nat.reduceBEq, ↓reduceIte, Nat.reduceEqDiff, Option.getD_some, Option.map_some, List.map_cons, List.map_nil, List.getD_cons_zero, List.getD_cons_succ, renSt]
        rfl
      · show _ = (x.nodes.take (0 + 1)).map (renN add)
        rw [tk 0 (by omega)]; rfl
    · have hn : x.nodes = [] := List.length_eq_zero_iff.1 (by omega)
      exact done ⟨[], true, x.po, x.rf, x.co, x.fr, x.addr, x.data, x.ctrl, x.fenced, x.sync, x.lwsync, x.pairs⟩ true (by unfold XG.with; rw [hn]; rfl)
  | cons a l =>
    simp only [↓vck_skip, ↓vck_ret, ↓vck_exit, ↓vck_region, ↓vck_nilq, ↓nilTo_to, nilG_d, nilG_r, ↓vck_seq, ↓vck_cond, ↓vck_block, ↓vck_loop, ↓vckTo_to, ↓thenK_n, ↓thenK_x, ↓thenK_r, ↓blockK_n, ↓blockK_x, ↓blockK_o, ↓blockK_r, ↓regK_to, ↓retK_r, ↓retK_n, ↓loopV_n, ↓loopV_x, ↓loopV_r, ↓famK_n, ↓famK_x, ↓famK_r, ↓boolK_true, ↓boolK_false, ↓boolK_not, ↓boolK_dec, ↓boolK_and, nf_mk, RGk_end_f, RGk_end_t, RGk_op, RGk_guard, opK_to, evN, evCallN, grow_mk, feet_f, feet_t, foot_mk, stepK_mk, stepK_v, stepK_no, guardG_t, guardG_f, guardG_no, condG_b, evT, Opd.ev, get_hit, get_next, app_to, app_no, app_up, app_skip, app_skipn, know_mk, knowO_t, knowO_c, envFrom, reserve, keeps, LOp.isNew, State.prune, cellsQ, cellsT, AV.leaf, Heap.at, evLoad_ptr, evLoad_dptr, loadO_vec, loadO_dvec1, stepK_load_map, idx_I, idx_W, rowW, set_rowW, app_rowW, app_rowW0, rep_rowW0, rowB, set_rowB, rep_rowB, rowN, lens_W, lensA_W, scal_rowW, default_W, w_or, w_and, w_andNot, w_and1, w_shl, w_shl1, w_shr, w_sub1, w_neg, w_add, w_bit, w_eq0, w_eq1, w_eq, Bool.decide_eq_true, idx_Rat, idx_Loc, idx_Act, idx_Step, idx_Stamp, stepK_idx_ref, evStore_ptr, storeO_vec, stepK_store_map1, loadDT_f, rowI, RatG.row, LocG.row, ActG.row, StepG.row, StampG.row, ActG.av, ActG.eta, RatG.eta, LocG.eta, beq_true, beq_false, loadDT_t, set_rowI, app_rowI, rep_rowI, set_rowRat, app_rowRat, rep_rowRat, set_rowLoc, app_rowLoc, app_rowAct, app_rowStep, List.length_set, List.length_replicate, toNat_cast, Int.reduceToNat, evLen, evAppend, srcOf, Src.all, Src.len, Src.leaf, joinV, drows_rep1, drows_rep2, drows_rep3, drows_rep4, drows_rep5, drows_rep6, drows_rep7, drows_rep8, mkVec, drows, evMk, List.length_map, take_mapF, drop_mapF, List.take_length, List.take_left, List.length_append, Nat.le_add_right, ite_self, List.take_of_length_le, evSlice, intOr, intOpd, Option.isSome_none, Option.isSome_some, Nat.sub_zero, loadQ, loadT, evBin, evUn, evIdxArr_d, evIdxArr_p, binT, binQ, chk, apartF, List.contains_cons, List.contains_nil, Bool.or_false, Bool.false_or, Bool.and_self, resQ, resV, resT, pickV, evCallT, evCall, fnOf, viewsT, isD, HO.drow, viewT, evInt2, evEq, eqV, eqK, eqC1, buildQ, buildT, buildRQ, buildRT, lens_I, lensA_I, lens_Rat, lensA_Rat, lens_Loc, lensA_Loc, lens_Act, lensA_Act, lens_Step, lensA_Step, lens_Stamp, lensA_Stamp, List.mem_cons, List.not_mem_nil, or_false, forall_eq, putRow, dcells, get_nil, RetS, RetF, RetD, AV.frz, AV.frzL, AV.freshP, AV.freshL, DV.less, scal_int, scal_bool, scal_nil, scal_rowI, scal_rowRat, scal_rowStep, Option.some.injEq, AV.tup.injEq, AV.agg.injEq, List.cons.injEq, DV.list.injEq, List.isEmpty_nil, Nat.le_refl, AV.d.injEq, DV.int.injEq, DV.bool.injEq, ↓reduceIte, Nat.reduceEqDiff, Nat.reduceAdd, Nat.reduceBEq, List.length_cons, List.length_nil, List.replicate_succ, List.replicate_zero, List.nil_append, List.cons_append, List.append_nil, List.foldl_cons, List.foldl_nil, List.map_cons, List.map_nil, List.all_cons, List.all_nil, List.set_cons_zero, List.set_cons_succ, List.getD_cons_zero, List.getD_cons_succ, List.drop_zero, List.drop_succ_cons, List.take_succ_cons, List.take_zero, List.flatten_cons, List.flatten_nil, Bool.true_and, Bool.and_true, Bool.not_true, Bool.not_false, true_and, and_true, true_or, or_true, Option.bind_some, Option.map_some, decide_true, decide_false, beq_self_eq_true, true_implies, false_implies, implies_true, not_true_eq_false, not_false_eq_true, and_self, Bool.and_false, Bool.false_and, Nat.reduceLT, Nat.reduceLeDiff, List.reverse_cons, List.reverse_nil, Nat.zero_add, Nat.add_zero, Bool.false_eq_true, List.getElem?_cons_zero, Nat.reduceMul, Nat.mul_one, renSt, F1, G1, F2, G2, F3, G3, F4, G4, F5, G5, at_true, at_fewA, at_CheckA, at_PpoA, at_CheckN, at_PpoN, at_CheckC, at_PpoC, at_sameW]
    have hl : l.length + 1 ≤ x.nodes.length := hl
    have hL : a :: l = (x.nodes.take (l.length + 1)).map (renN add) := hL
    refine ⟨fun c => ⟨⟨by omega, c⟩, fun c1 => ⟨fun c2 => ⟨roomy_of (by omega) (by omega), ?_⟩, fun c2 => ⟨roomy_of (by omega) (by omega), ?_⟩⟩⟩, fun c => ?_⟩
    · have c' : l.length + 1 < x.nodes.length := by omega
      refine FamNext.mk [0, 1, 5] (a :: (l ++ [renN add (x.nodes.getD (l.length + 1) default)])) (by simp) (by simp) ?_ ⟨?_, ?_⟩ ?_
      · rw [yes _ c1 c2, ry _ c2, wrap_succ c' (by unfold maxLen; omega)]
        simp only [State.can, AV.can, AV.canL, HO.can, canRows, idx, get_hit, get_next, Heap.at, Nat.reduceBEq, ↓reduceIte, Nat.reduceEqDiff, Option.getD_some, Option.map_some, List.map_cons, List.map_nil, List.getD_cons_zero, List.getD_cons_succ, renSt]
        simp
        rfl
      · show _ = (x.nodes.take (l ++ [_]).length.succ).map (renN add)
        rw [List.length_append, List.length_singleton, Nat.succ_eq_add_one, tk _ c', List.map_append, ← hL]; rfl
      · show (l ++ [_]).length + 1 ≤ _; rw [List.length_append, List.length_singleton]; omega
      · show _ - ((l ++ [_]).length + 1) < _; rw [List.length_append, List.length_singleton]; omega
    · have c' : l.length + 1 < x.nodes.length := by omega
      refine FamNext.mk [0, 1, 5] (a :: (l ++ [renN add (x.nodes.getD (l.length + 1) default)])) (by simp) (by simp) ?_ ⟨?_, ?_⟩ ?_
      · rw [rn _ c2, wrap_succ c' (by unfold maxLen; omega)]
        simp only [State.can, AV.can, AV.canL, HO.can, canRows, idx, get_hit, get_next, Heap.at, Nat.reduceBEq, ↓reduceIte, Nat.reduceEqDiff, Option.getD_some, Option.map_some, List.map_cons, List.map_nil, List.getD_cons_zero, List.getD_cons_succ, renSt]
        simp
        rfl
      · show _ = (x.nodes.take (l ++ [_]).length.succ).map (renN add)
        rw [List.length_append, List.length_singleton, Nat.succ_eq_add_one, tk _ c', List.map_append, ← hL]; rfl
      · show (l ++ [_]).length + 1 ≤ _; rw [List.length_append, List.length_singleton]; omega
      · show _ - ((l ++ [_]).length + 1) < _; rw [List.length_append, List.length_singleton]; omega
    · have hn : x.nodes.length = l.length + 1 := by omega
      exact done ⟨a :: l, false, x.po, x.rf, x.co, x.fr, x.addr, x.data, x.ctrl, x.fenced, x.sync, x.lwsync, x.pairs⟩ false (by unfold XG.with; rw [hL, ← hn, List.take_length])
end Go.Ago

/- The laws of layer 19: an execution as an argument. Conditions: none. -/
set_option maxRecDepth 100000
set_option linter.unusedVariables false
namespace Go.Ago
abbrev shRelX : Sh := .sl (.int .u64)
abbrev shExec : Sh := .st [.sl shAct, shRelX, shRelX, shRelX, shRelX, shRelX, shRelX, shRelX, shRelX, shRelX, shRelX, shRelX]
theorem has_relX {r : List DV} (h : shRelX.has r) : ∃ x : List W × Bool, r = [lsX x] ∧ x.1.length ≤ maxLen := by
  obtain ⟨l, f, rfl, -, hl⟩ := has_list (f := rowW) (ok := fun _ => True) (fun _ h => has_rowW h) h
  exact ⟨(l, f), rfl, hl⟩
theorem has_exec {r : List DV} (h : shExec.has r) : ∃ x : XG, r = x.cells ∧ x.Ok := by
  obtain ⟨x0, y0, rfl, h0, g0⟩ := hasL_cons (has_st h)
  obtain ⟨x1, y1, rfl, h1, g1⟩ := hasL_cons g0
  obtain ⟨x2, y2, rfl, h2, g2⟩ := hasL_cons g1
  obtain ⟨x3, y3, rfl, h3, g3⟩ := hasL_cons g2
  obtain ⟨x4, y4, rfl, h4, g4⟩ := hasL_cons g3
  obtain ⟨x5, y5, rfl, h5, g5⟩ := hasL_cons g4
  obtain ⟨x6, y6, rfl, h6, g6⟩ := hasL_cons g5
  obtain ⟨x7, y7, rfl, h7, g7⟩ := hasL_cons g6
  obtain ⟨x8, y8, rfl, h8, g8⟩ := hasL_cons g7
  obtain ⟨x9, y9, rfl, h9, g9⟩ := hasL_cons g8
  obtain ⟨x10, y10, rfl, h10, g10⟩ := hasL_cons g9
  obtain ⟨x11, y11, rfl, h11, g11⟩ := hasL_cons g10
  obtain rfl := hasL_nil g11
  obtain ⟨l, f, rfl, -, hl⟩ := has_list (f := ActG.row) (ok := ActG.inn) (fun _ h => has_act h) h0
  obtain ⟨po, rfl, k1⟩ := has_relX h1
  obtain ⟨rf, rfl, k2⟩ := has_relX h2
  obtain ⟨co, rfl, k3⟩ := has_relX h3
  obtain ⟨fr, rfl, k4⟩ := has_relX h4
  obtain ⟨addr, rfl, k5⟩ := has_relX h5
  obtain ⟨data, rfl, k6⟩ := has_relX h6
  obtain ⟨ctrl, rfl, k7⟩ := has_relX h7
  obtain ⟨fenced, rfl, k8⟩ := has_relX h8
  obtain ⟨sync, rfl, k9⟩ := has_relX h9
  obtain ⟨lwsync, rfl, k10⟩ := has_relX h10
  obtain ⟨pairs, rfl, k11⟩ := has_relX h11
  exact ⟨⟨l, f, po, rf, co, fr, addr, data, ctrl, fenced, sync, lwsync, pairs⟩, rfl, hl, k1, k2, k3, k4, k5, k6, k7, k8, k9, k10, k11⟩
end Go.Ago
