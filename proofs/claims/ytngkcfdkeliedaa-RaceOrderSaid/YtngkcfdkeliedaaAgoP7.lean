/- Contracts of package rel: its small functions, and two relations laid together. Conditions: none. -/
import Derived.Test.YtngkcfdkeliedaaAgoP6
import Derived.Test.YtngkcfdkeliedaaAgoP5
import Derived.Test.YtngkcfdkeliedaaAgoP4
set_option maxRecDepth 100000
set_option linter.unusedSimpArgs false
set_option linter.unusedVariables false
namespace Go.Ago

/-! ### Relations -/
def szR (R : List W) : Nat := min R.length 64
def hasN (R : List W) (i k : Nat) : Bool := decide (i < szR R) && decide (k < szR R) && (R.getD i 0#64).getLsbD k
def hasI (R : List W) (i k : Int) : Bool := decide (0 ≤ i) && decide (0 ≤ k) && hasN R i.toNat k.toNat
def rowG (R : List W) (i : Nat) : W := ofB (hasN R i) 64
def mkR (n : Nat) (p : Nat → Nat → Bool) : List W := (List.range n).map fun i => ofB (p i) n
theorem szR_le (R : List W) : szR R ≤ 64 := Nat.min_le_right _ _
theorem szR_len (R : List W) : szR R ≤ R.length := Nat.min_le_left _ _
theorem hasN_lt {R : List W} {i k : Nat} (h : hasN R i k = true) : i < szR R ∧ k < szR R := by
  simp only [hasN, Bool.and_eq_true, decide_eq_true_eq] at h; exact h.1
theorem get_rowG {R : List W} {i k : Nat} : (rowG R i).getLsbD k = hasN R i k := by
  unfold rowG
  rw [get_ofB]
  by_cases h : hasN R i k = true
  · have := (hasN_lt h).2
    have := szR_le R
    rw [h]; simp; omega
  · simp [h]
theorem mkR_len {n : Nat} {p : Nat → Nat → Bool} : (mkR n p).length = n := by simp [mkR]
theorem mkR_get {n : Nat} {p : Nat → Nat → Bool} {i k : Nat} (hi : i < n) : ((mkR n p).getD i 0#64).getLsbD k = (decide (k < n) && decide (k < 64) && p i k) := by
  rw [List.getD_eq_getElem?_getD, mkR, List.getElem?_map, List.getElem?_range hi]
  exact get_ofB _ _ _
theorem mkR_ext {n : Nat} {p : Nat → Nat → Bool} {l : List W} (hl : l.length = n) (h : ∀ i k, i < n → k < 64 → (l.getD i 0#64).getLsbD k = (decide (k < n) && p i k)) : l = mkR n p := by
  apply List.ext_getElem (by rw [hl, mkR_len])
  intro i h1 h2
  apply W.ext
  intro k hk
  have e1 := h i k (by omega) hk
  have e2 := mkR_get (n := n) (p := p) (i := i) (k := k) (by omega)
  rw [List.getD_eq_getElem?_getD, List.getElem?_eq_getElem h1, Option.getD_some] at e1
  rw [List.getD_eq_getElem?_getD, List.getElem?_eq_getElem h2, Option.getD_some] at e2
  rw [e1, e2]
  simp [hk]
theorem szR_mk {n : Nat} {p : Nat → Nat → Bool} : szR (mkR n p) = min n 64 := by simp [szR, mkR_len]
theorem hasN_mk {n : Nat} {p : Nat → Nat → Bool} {i k : Nat} (hn : n ≤ 64) : hasN (mkR n p) i k = (decide (i < n) && decide (k < n) && p i k) := by
  unfold hasN
  rw [szR_mk, Nat.min_eq_left hn]
  by_cases hi : i < n
  · rw [mkR_get hi]
    by_cases hk : k < n
    · simp [hi, hk]; omega
    · simp [hk]
  · simp [hi]
theorem mkR_congr {n : Nat} {p q : Nat → Nat → Bool} (h : ∀ i k, i < n → k < n → p i k = q i k) : mkR n p = mkR n q := by
  apply mkR_ext mkR_len
  intro i k hi hk
  rw [mkR_get hi]
  by_cases hkn : k < n
  · rw [h i k hi hkn]; simp [hk]
  · simp [hkn]

/-! ### size, all, row, Has -/
def sp_size : Sp := ⟨List W × Bool, fun x => [.d (.list (x.1.map rowW) x.2)], fun x => .data (x.1.length ≤ maxLen) (.d (.int .i64 (szR x.1))) true⟩
theorem at_size (l : List W) (f : Bool) : sp_size.at [.d (.list (l.map rowW) f)] = .data (l.length ≤ maxLen) (.d (.int .i64 (szR l))) true :=
  Sp.at_enc (s := sp_size) (fun x y h => by
    obtain ⟨a, b⟩ := x; obtain ⟨a', b'⟩ := y
    simp only [sp_size, List.cons.injEq, AV.d.injEq, DV.list.injEq, and_true] at h
    rw [rows_inj rowW_inj h.1, h.2]) (l, f)
theorem body_rel_size {T : Tab} : sp_size.Body T V_rel_size L_rel_size R_rel_size := by
  rintro ⟨l, f⟩ h
  refine .inl ⟨rfl, ?_⟩
  unfold V_rel_size L_rel_size R_rel_size
  simp only [↓vck_skip, ↓vck_ret, ↓vck_exit, ↓vck_region, ↓vck_nilq, ↓nilTo_to, nilG_d, nilG_r, ↓vck_seq, ↓vck_cond, ↓vck_block, ↓vck_loop, ↓vckTo_to, ↓thenK_n, ↓thenK_x, ↓thenK_r, ↓blockK_n, ↓blockK_x, ↓blockK_o, ↓blockK_r, ↓regK_to, ↓retK_r, ↓retK_n, ↓loopV_n, ↓loopV_x, ↓loopV_r, ↓famK_n, ↓famK_x, ↓famK_r, ↓boolK_true, ↓boolK_false, ↓boolK_not, ↓boolK_dec, ↓boolK_and, nf_mk, RGk_end_f, RGk_end_t, RGk_op, RGk_guard, opK_to, evN, evCallN, grow_mk, feet_f, feet_t, foot_mk, stepK_mk, stepK_v, stepK_no, guardG_t, guardG_f, guardG_no, condG_b, evT, Opd.ev, get_hit, get_next, app_to, app_no, app_up, app_skip, app_skipn, know_mk, knowO_t, knowO_c, envFrom, reserve, keeps, LOp.isNew, State.prune, cellsQ, cellsT, AV.leaf, Heap.at, evLoad_ptr, evLoad_dptr, loadO_vec, loadO_dvec1, stepK_load_map, idx_I, idx_W, rowW, set_rowW, app_rowW, app_rowW0, rep_rowW0, rowB, set_rowB, rep_rowB, rowN, lens_W, lensA_W, scal_rowW, default_W, w_or, w_and, w_andNot, w_and1, w_shl, w_shl1, w_shr, w_sub1, w_neg, w_add, w_bit, w_eq0, w_eq1, w_eq, Bool.decide_eq_true, idx_Rat, idx_Loc, idx_Act, idx_Step, idx_Stamp, stepK_idx_ref, evStore_ptr, storeO_vec, stepK_store_map1, loadDT_f, rowI, RatG.row, LocG.row, ActG.row, StepG.row, StampG.row, ActG.av, ActG.eta, RatG.eta, LocG.eta, beq_true, beq_false, loadDT_t, set_rowI, app_rowI, rep_rowI, set_rowRat, app_rowRat, rep_rowRat, set_rowLoc, app_rowLoc, app_rowAct, app_rowStep, List.length_set, List.length_replicate, toNat_cast, Int.reduceToNat, evLen, evAppend, srcOf, Src.all, Src.len, Src.leaf, Src.leafN, evApart, aliveQ, joinV, drows_rep1, drows_rep2, drows_rep3, drows_rep4, drows_rep5, drows_rep6, drows_rep7, drows_rep8, mkVec, drows, evMk, List.length_map, take_mapF, drop_mapF, List.take_length, List.take_left, List.length_append, Nat.le_add_right, ite_self, List.take_of_length_le, evSlice, intOr, intOpd, Option.isSome_none, Option.isSome_some, Nat.sub_zero, loadQ, loadT, evBin, evUn, evIdxArr_d, evIdxArr_p, binT, binQ, chk, apartF, List.contains_cons, List.contains_nil, Bool.or_false, Bool.false_or, Bool.and_self, resQ, resV, resT, pickV, evCallT, evTake, evCall, fnOf, viewsT, isD, HO.drow, viewT, evInt2, evEq, eqV, eqK, eqC1, buildQ, buildT, buildRQ, buildRT, lens_I, lensA_I, lens_Rat, lensA_Rat, lens_Loc, lensA_Loc, lens_Act, lensA_Act, lens_Step, lensA_Step, lens_Stamp, lensA_Stamp, List.mem_cons, List.not_mem_nil, or_false, forall_eq, putRow, dcells, get_nil, RetS, RetF, RetD, AV.frz, AV.frzL, AV.freshP, AV.freshL, DV.less, scal_int, scal_bool, scal_nil, scal_rowI, scal_rowRat, scal_rowStep, Option.some.injEq, AV.tup.injEq, AV.agg.injEq, List.cons.injEq, DV.list.injEq, List.isEmpty_nil, Nat.le_refl, AV.d.injEq, DV.int.injEq, DV.bool.injEq, ↓reduceIte, Nat.reduceEqDiff, Nat.reduceAdd, Nat.reduceBEq, List.length_cons, List.length_nil, List.replicate_succ, List.replicate_zero, List.nil_append, List.cons_append, List.append_nil, List.foldl_cons, List.foldl_nil, List.map_cons, List.map_nil, List.all_cons, List.all_nil, List.set_cons_zero, List.set_cons_succ, List.getD_cons_zero, List.getD_cons_succ, List.drop_zero, List.drop_succ_cons, List.take_succ_cons, List.take_zero, List.flatten_cons, List.flatten_nil, Bool.true_and, Bool.and_true, Bool.not_true, Bool.not_false, true_and, and_true, true_or, or_true, Option.bind_some, Option.map_some, decide_true, decide_false, beq_self_eq_true, true_implies, false_implies, implies_true, not_true_eq_false, not_false_eq_true, and_self, Bool.and_false, Bool.false_and, Nat.reduceLT, Nat.reduceLeDiff, List.reverse_cons, List.reverse_nil, Nat.zero_add, Nat.add_zero, Bool.false_eq_true, List.getElem?_cons_zero, Nat.reduceMul, Nat.mul_one, sp_size]
  unfold szR
  split <;> omega

def allB (n : Nat) : W := ofB (fun _ => true) n
theorem get_allB {n k : Nat} : (allB n).getLsbD k = (decide (k < n) && decide (k < 64)) := by unfold allB; rw [get_ofB]; simp
theorem allB_sub {n : Nat} (h : n < 64) : (1#64 <<< n) - 1#64 = allB n := by
  apply W.ext
  intro k hk
  rw [get_allB, BitVec.getLsbD]
  have e : ((1#64 <<< n) - 1#64).toNat = 2 ^ n - 1 := by
    have h1 : (1#64 <<< n).toNat = 2 ^ n := by
      rw [BitVec.toNat_shiftLeft, Nat.shiftLeft_eq]
      have : 2 ^ n < 2 ^ 64 := Nat.pow_lt_pow_right (by omega) h
      have e1 : (1#64).toNat = 1 := rfl
      rw [e1, Nat.one_mul]; exact Nat.mod_eq_of_lt this
    have h2 : (1#64).toNat = 1 := rfl
    rw [BitVec.toNat_sub, h1, h2]
    have : 2 ^ n < 2 ^ 64 := Nat.pow_lt_pow_right (by omega) h
    have : 0 < 2 ^ n := Nat.pow_pos (by omega)
    omega
  rw [e, Nat.testBit_two_pow_sub_one]
  simp [hk]
def sp_all : Sp := ⟨Int, fun n => [.d (.int .i64 n)], fun n => .data (0 ≤ n ∧ n ≤ 64) (.d (.int .u64 ((allB n.toNat).toNat : Int))) true⟩
theorem at_all (n : Int) : sp_all.at [.d (.int .i64 n)] = .data (0 ≤ n ∧ n ≤ 64) (.d (.int .u64 ((allB n.toNat).toNat : Int))) true :=
  Sp.at_enc (s := sp_all) (fun (x y : Int) h => by simpa [sp_all] using h) n
theorem body_rel_all {T : Tab} : sp_all.Body T V_rel_all L_rel_all R_rel_all := by
  rintro (n : Int) ⟨h1, h2⟩
  have h1 : 0 ≤ n := h1
  have h2 : n ≤ 64 := h2
  obtain ⟨n, rfl⟩ := Int.eq_ofNat_of_zero_le h1
  refine .inl ⟨rfl, ?_⟩
  unfold V_rel_all L_rel_all R_rel_all
  simp only [↓vck_skip, ↓vck_ret, ↓vck_exit, ↓vck_region, ↓vck_nilq, ↓nilTo_to, nilG_d, nilG_r, ↓vck_seq, ↓vck_cond, ↓vck_block, ↓vck_loop, ↓vckTo_to, ↓thenK_n, ↓thenK_x, ↓thenK_r, ↓blockK_n, ↓blockK_x, ↓blockK_o, ↓blockK_r, ↓regK_to, ↓retK_r, ↓retK_n, ↓loopV_n, ↓loopV_x, ↓loopV_r, ↓famK_n, ↓famK_x, ↓famK_r, ↓boolK_true, ↓boolK_false, ↓boolK_not, ↓boolK_dec, ↓boolK_and, nf_mk, RGk_end_f, RGk_end_t, RGk_op, RGk_guard, opK_to, evN, evCallN, grow_mk, feet_f, feet_t, foot_mk, stepK_mk, stepK_v, stepK_no, guardG_t, guardG_f, guardG_no, condG_b, evT, Opd.ev, get_hit, get_next, app_to, app_no, app_up, app_skip, app_skipn, know_mk, knowO_t, knowO_c, envFrom, reserve, keeps, LOp.isNew, State.prune, cellsQ, cellsT, AV.leaf, Heap.at, evLoad_ptr, evLoad_dptr, loadO_vec, loadO_dvec1, stepK_load_map, idx_I, idx_W, rowW, set_rowW, app_rowW, app_rowW0, rep_rowW0, rowB, set_rowB, rep_rowB, rowN, lens_W, lensA_W, scal_rowW, default_W, w_or, w_and, w_andNot, w_and1, w_shl, w_shl1, w_shr, w_sub1, w_neg, w_add, w_bit, w_eq0, w_eq1, w_eq, Bool.decide_eq_true, idx_Rat, idx_Loc, idx_Act, idx_Step, idx_Stamp, stepK_idx_ref, evStore_ptr, storeO_vec, stepK_store_map1, loadDT_f, rowI, RatG.row, LocG.row, ActG.row, StepG.row, StampG.row, ActG.av, ActG.eta, RatG.eta, LocG.eta, beq_true, beq_false, loadDT_t, set_rowI, app_rowI, rep_rowI, set_rowRat, app_rowRat, rep_rowRat, set_rowLoc, app_rowLoc, app_rowAct, app_rowStep, List.length_set, List.length_replicate, toNat_cast, Int.reduceToNat, evLen, evAppend, srcOf, Src.all, Src.len, Src.leaf, Src.leafN, evApart, aliveQ, joinV, drows_rep1, drows_rep2, drows_rep3, drows_rep4, drows_rep5, drows_rep6, drows_rep7, drows_rep8, mkVec, drows, evMk, List.length_map, take_mapF, drop_mapF, List.take_length, List.take_left, List.length_append, Nat.le_add_right, ite_self, List.take_of_length_le, evSlice, intOr, intOpd, Option.isSome_none, Option.isSome_some, Nat.sub_zero, loadQ, loadT, evBin, evUn, evIdxArr_d, evIdxArr_p, binT, binQ, chk, apartF, List.contains_cons, List.contains_nil, Bool.or_false, Bool.false_or, Bool.and_self, resQ, resV, resT, pickV, evCallT, evTake, evCall, fnOf, viewsT, isD, HO.drow, viewT, evInt2, evEq, eqV, eqK, eqC1, buildQ, buildT, buildRQ, buildRT, lens_I, lensA_I, lens_Rat, lensA_Rat, lens_Loc, lensA_Loc, lens_Act, lensA_Act, lens_Step, lensA_Step, lens_Stamp, lensA_Stamp, List.mem_cons, List.not_mem_nil, or_false, forall_eq, putRow, dcells, get_nil, RetS, RetF, RetD, AV.frz, AV.frzL, AV.freshP, AV.freshL, DV.less, scal_int, scal_bool, scal_nil, scal_rowI, scal_rowRat, scal_rowStep, Option.some.injEq, AV.tup.injEq, AV.agg.injEq, List.cons.injEq, DV.list.injEq, List.isEmpty_nil, Nat.le_refl, AV.d.injEq, DV.int.injEq, DV.bool.injEq, ↓reduceIte, Nat.reduceEqDiff, Nat.reduceAdd, Nat.reduceBEq, List.length_cons, List.length_nil, List.replicate_succ, List.replicate_zero, List.nil_append, List.cons_append, List.append_nil, List.foldl_cons, List.foldl_nil, List.map_cons, List.map_nil, List.all_cons, List.all_nil, List.set_cons_zero, List.set_cons_succ, List.getD_cons_zero, List.getD_cons_succ, List.drop_zero, List.drop_succ_cons, List.take_succ_cons, List.take_zero, List.flatten_cons, List.flatten_nil, Bool.true_and, Bool.and_true, Bool.not_true, Bool.not_false, true_and, and_true, true_or, or_true, Option.bind_some, Option.map_some, decide_true, decide_false, beq_self_eq_true, true_implies, false_implies, implies_true, not_true_eq_false, not_false_eq_true, and_self, Bool.and_false, Bool.false_and, Nat.reduceLT, Nat.reduceLeDiff, List.reverse_cons, List.reverse_nil, Nat.zero_add, Nat.add_zero, Bool.false_eq_true, List.getElem?_cons_zero, Nat.reduceMul, Nat.mul_one, sp_all, wrapU (k := n) (by omega)]
  refine ⟨fun h => ?_, fun h => ⟨by omega, ?_⟩⟩
  · have : n = 64 := by omega
    subst this
    decide
  · rw [allB_sub (by omega)]

def sp_row : Sp := ⟨List W × Bool × Int, fun x => [.d (.list (x.1.map rowW) x.2.1), .d (.int .i64 x.2.2)], fun x => .data (0 ≤ x.2.2 ∧ x.1.length ≤ maxLen) (.d (.int .u64 ((rowG x.1 x.2.2.toNat).toNat : Int))) true⟩
theorem at_row (l : List W) (f : Bool) (i : Int) : sp_row.at [.d (.list (l.map rowW) f), .d (.int .i64 i)] = .data (0 ≤ i ∧ l.length ≤ maxLen) (.d (.int .u64 ((rowG l i.toNat).toNat : Int))) true :=
  Sp.at_enc (s := sp_row) (fun x y h => by
    obtain ⟨a, b, c⟩ := x; obtain ⟨a', b', c'⟩ := y
    simp only [sp_row, List.cons.injEq, AV.d.injEq, DV.list.injEq, DV.int.injEq, and_true, true_and] at h
    rw [rows_inj rowW_inj h.1.1, h.1.2, h.2]) (l, f, i)
theorem row_and {R : List W} {i : Nat} (h : i < szR R) : R.getD i 0#64 &&& allB (szR R) = rowG R i := by
  apply W.ext
  intro k hk
  rw [BitVec.getLsbD_and, get_allB, get_rowG]
  unfold hasN
  simp only [h, decide_true, Bool.true_and, hk, Bool.and_true]
  rw [Bool.and_comm]
theorem row_out {R : List W} {i : Nat} (h : ¬ i < szR R) : rowG R i = 0#64 := by
  apply W.ext
  intro k hk
  rw [get_rowG]
  unfold hasN
  simp [h]
theorem body_rel_row {T : Tab} {n1 n2 : Nat} (k1 : Knows T n1 sp_size) (k2 : Knows T n2 sp_all) : sp_row.Body T V_rel_row (L_rel_row n1 n2) R_rel_row := by
  have F1 := k1.F; have G1 := k1.G; have F2 := k2.F; have G2 := k2.G
  rintro ⟨l, f, i⟩ ⟨h1, h2⟩
  have h1 : 0 ≤ i := h1
  have h2 : l.length ≤ maxLen := h2
  have := szR_le l
  have := szR_len l
  obtain ⟨i, rfl⟩ := Int.eq_ofNat_of_zero_le h1
  refine .inl ⟨rfl, ?_⟩
  unfold V_rel_row L_rel_row R_rel_row
  simp only [↓vck_skip, ↓vck_ret, ↓vck_exit, ↓vck_region, ↓vck_nilq, ↓nilTo_to, nilG_d, nilG_r, ↓vck_seq, ↓vck_cond, ↓vck_block, ↓vck_loop, ↓vckTo_to, ↓thenK_n, ↓thenK_x, ↓thenK_r, ↓blockK_n, ↓blockK_x, ↓blockK_o, ↓blockK_r, ↓regK_to, ↓retK_r, ↓retK_n, ↓loopV_n, ↓loopV_x, ↓loopV_r, ↓famK_n, ↓famK_x, ↓famK_r, ↓boolK_true, ↓boolK_false, ↓boolK_not, ↓boolK_dec, ↓boolK_and, nf_mk, RGk_end_f, RGk_end_t, RGk_op, RGk_guard, opK_to, evN, evCallN, grow_mk, feet_f, feet_t, foot_mk, stepK_mk, stepK_v, stepK_no, guardG_t, guardG_f, guardG_no, condG_b, evT, Opd.ev, get_hit, get_next, app_to, app_no, app_up, app_skip, app_skipn, know_mk, knowO_t, knowO_c, envFrom, reserve, keeps, LOp.isNew, State.prune, cellsQ, cellsT, AV.leaf, Heap.at, evLoad_ptr, evLoad_dptr, loadO_vec, loadO_dvec1, stepK_load_map, idx_I, idx_W, rowW, set_rowW, app_rowW, app_rowW0, rep_rowW0, rowB, set_rowB, rep_rowB, rowN, lens_W, lensA_W, scal_rowW, default_W, w_or, w_and, w_andNot, w_and1, w_shl, w_shl1, w_shr, w_sub1, w_neg, w_add, w_bit, w_eq0, w_eq1, w_eq, Bool.decide_eq_true, idx_Rat, idx_Loc, idx_Act, idx_Step, idx_Stamp, stepK_idx_ref, evStore_ptr, storeO_vec, stepK_store_map1, loadDT_f, rowI, RatG.row, LocG.row, ActG.row, StepG.row, StampG.row, ActG.av, ActG.eta, RatG.eta, LocG.eta, beq_true, beq_false, loadDT_t, set_rowI, app_rowI, rep_rowI, set_rowRat, app_rowRat, rep_rowRat, set_rowLoc, app_rowLoc, app_rowAct, app_rowStep, List.length_set, List.length_replicate, toNat_cast, Int.reduceToNat, evLen, evAppend, srcOf, Src.all, Src.len, Src.leaf, Src.leafN, evApart, aliveQ, joinV, drows_rep1, drows_rep2, drows_rep3, drows_rep4, drows_rep5, drows_rep6, drows_rep7, drows_rep8, mkVec, drows, evMk, List.length_map, take_mapF, drop_mapF, List.take_length, List.take_left, List.length_append, Nat.le_add_right, ite_self, List.take_of_length_le, evSlice, intOr, intOpd, Option.isSome_none, Option.isSome_some, Nat.sub_zero, loadQ, loadT, evBin, evUn, evIdxArr_d, evIdxArr_p, binT, binQ, chk, apartF, List.contains_cons, List.contains_nil, Bool.or_false, Bool.false_or, Bool.and_self, resQ, resV, resT, pickV, evCallT, evTake, evCall, fnOf, viewsT, isD, HO.drow, viewT, evInt2, evEq, eqV, eqK, eqC1, buildQ, buildT, buildRQ, buildRT, lens_I, lensA_I, lens_Rat, lensA_Rat, lens_Loc, lensA_Loc, lens_Act, lensA_Act, lens_Step, lensA_Step, lens_Stamp, lensA_Stamp, List.mem_cons, List.not_mem_nil, or_false, forall_eq, putRow, dcells, get_nil, RetS, RetF, RetD, AV.frz, AV.frzL, AV.freshP, AV.freshL, DV.less, scal_int, scal_bool, scal_nil, scal_rowI, scal_rowRat, scal_rowStep, Option.some.injEq, AV.tup.injEq, AV.agg.injEq, List.cons.injEq, DV.list.injEq, List.isEmpty_nil, Nat.le_refl, AV.d.injEq, DV.int.injEq, DV.bool.injEq, ↓reduceIte, Nat.reduceEqDiff, Nat.reduceAdd, Nat.reduceBEq, List.length_cons, List.length_nil, List.replicate_succ, List.replicate_zero, List.nil_append, List.cons_append, List.append_nil, List.foldl_cons, List.foldl_nil, List.map_cons, List.map_nil, List.all_cons, List.all_nil, List.set_cons_zero, List.set_cons_succ, List.getD_cons_zero, List.getD_cons_succ, List.drop_zero, List.drop_succ_cons, List.take_succ_cons, List.take_zero, List.flatten_cons, List.flatten_nil, Bool.true_and, Bool.and_true, Bool.not_true, Bool.not_false, true_and, and_true, true_or, or_true, Option.bind_some, Option.map_some, decide_true, decide_false, beq_self_eq_true, true_implies, false_implies, implies_true, not_true_eq_false, not_false_eq_true, and_self, Bool.and_false, Bool.false_and, Nat.reduceLT, Nat.reduceLeDiff, List.reverse_cons, List.reverse_nil, Nat.zero_add, Nat.add_zero, Bool.false_eq_true, List.getElem?_cons_zero, Nat.reduceMul, Nat.mul_one, sp_row, F1, G1, F2, G2, at_size, at_all]
  refine ⟨h2, fun h => ⟨⟨by omega, by omega⟩, ⟨by omega, by omega⟩, ?_⟩, fun h => ?_⟩
  · rw [row_and (by omega)]
  · rw [row_out (by omega)]; rfl

def sp_Has : Sp := ⟨List W × Bool × Int × Int, fun x => [.d (.list (x.1.map rowW) x.2.1), .d (.int .i64 x.2.2.1), .d (.int .i64 x.2.2.2)], fun x => .data (x.1.length ≤ maxLen) (.d (.bool (hasI x.1 x.2.2.1 x.2.2.2))) true⟩
theorem at_Has (l : List W) (f : Bool) (i k : Int) : sp_Has.at [.d (.list (l.map rowW) f), .d (.int .i64 i), .d (.int .i64 k)] = .data (l.length ≤ maxLen) (.d (.bool (hasI l i k))) true :=
  Sp.at_enc (s := sp_Has) (fun x y h => by
    obtain ⟨a, b, c, d⟩ := x; obtain ⟨a', b', c', d'⟩ := y
    simp only [sp_Has, List.cons.injEq, AV.d.injEq, DV.list.injEq, DV.int.injEq, and_true, true_and] at h
    rw [rows_inj rowW_inj h.1.1, h.1.2, h.2.1, h.2.2]) (l, f, i, k)
theorem hasI_no {R : List W} {i k : Int} (h : ¬ (0 ≤ i ∧ i < szR R ∧ 0 ≤ k ∧ k < szR R)) : hasI R i k = false := by
  unfold hasI hasN
  by_cases h1 : 0 ≤ i <;> by_cases h2 : 0 ≤ k <;> simp [h1, h2]
  intro h3 h4
  exact absurd ⟨h1, by omega, h2, by omega⟩ h
theorem hasI_nat {R : List W} {i k : Nat} : hasI R i k = hasN R i k := by
  unfold hasI
  simp
theorem body_rel_Has {T : Tab} {n1 : Nat} (k1 : Knows T n1 sp_size) : sp_Has.Body T V_rel_Has (L_rel_Has n1) R_rel_Has := by
  have F1 := k1.F; have G1 := k1.G
  rintro ⟨l, f, i, k⟩ h2
  have h2 : l.length ≤ maxLen := h2
  have := szR_le l
  have := szR_len l
  refine .inl ⟨rfl, ?_⟩
  unfold V_rel_Has L_rel_Has R_rel_Has
  simp only [↓vck_skip, ↓vck_ret, ↓vck_exit, ↓vck_region, ↓vck_nilq, ↓nilTo_to, nilG_d, nilG_r, ↓vck_seq, ↓vck_cond, ↓vck_block, ↓vck_loop, ↓vckTo_to, ↓thenK_n, ↓thenK_x, ↓thenK_r, ↓blockK_n, ↓blockK_x, ↓blockK_o, ↓blockK_r, ↓regK_to, ↓retK_r, ↓retK_n, ↓loopV_n, ↓loopV_x, ↓loopV_r, ↓famK_n, ↓famK_x, ↓famK_r, ↓boolK_true, ↓boolK_false, ↓boolK_not, ↓boolK_dec, ↓boolK_and, nf_mk, RGk_end_f, RGk_end_t, RGk_op, RGk_guard, opK_to, evN, evCallN, grow_mk, feet_f, feet_t, foot_mk, stepK_mk, stepK_v, stepK_no, guardG_t, guardG_f, guardG_no, condG_b, evT, Opd.ev, get_hit, get_next, app_to, app_no, app_up, app_skip, app_skipn, know_mk, knowO_t, knowO_c, envFrom, reserve, keeps, LOp.isNew, State.prune, cellsQ, cellsT, AV.leaf, Heap.at, evLoad_ptr, evLoad_dptr, loadO_vec, loadO_dvec1, stepK_load_map, idx_I, idx_W, rowW, set_rowW, app_rowW, app_rowW0, rep_rowW0, rowB, set_rowB, rep_rowB, rowN, lens_W, lensA_W, scal_rowW, default_W, w_or, w_and, w_andNot, w_and1, w_shl, w_shl1, w_shr, w_sub1, w_neg, w_add, w_bit, w_eq0, w_eq1, w_eq, Bool.decide_eq_true, idx_Rat, idx_Loc, idx_Act, idx_Step, idx_Stamp, stepK_idx_ref, evStore_ptr, storeO_vec, stepK_store_map1, loadDT_f, rowI, RatG.row, LocG.row, ActG.row, StepG.row, StampG.row, ActG.av, ActG.eta, RatG.eta, LocG.eta, beq_true, beq_false, loadDT_t, set_rowI, app_rowI, rep_rowI, set_rowRat, app_rowRat, rep_rowRat, set_rowLoc, app_rowLoc, app_rowAct, app_rowStep, List.length_set, List.length_replicate, toNat_cast, Int.reduceToNat, evLen, evAppend, srcOf, Src.all, Src.len, Src.leaf, Src.leafN, evApart, aliveQ, joinV, drows_rep1, drows_rep2, drows_rep3, drows_rep4, drows_rep5, drows_rep6, drows_rep7, drows_rep8, mkVec, drows, evMk, List.length_map, take_mapF, drop_mapF, List.take_length, List.take_left, List.length_append, Nat.le_add_right, ite_self, List.take_of_length_le, evSlice, intOr, intOpd, Option.isSome_none, Option.isSome_some, Nat.sub_zero, loadQ, loadT, evBin, evUn, evIdxArr_d, evIdxArr_p, binT, binQ, chk, apartF, List.contains_cons, List.contains_nil, Bool.or_false, Bool.false_or, Bool.and_self, resQ, resV, resT, pickV, evCallT, evTake, evCall, fnOf, viewsT, isD, HO.drow, viewT, evInt2, evEq, eqV, eqK, eqC1, buildQ, buildT, buildRQ, buildRT, lens_I, lensA_I, lens_Rat, lensA_Rat, lens_Loc, lensA_Loc, lens_Act, lensA_Act, lens_Step, lensA_Step, lens_Stamp, lensA_Stamp, List.mem_cons, List.not_mem_nil, or_false, forall_eq, putRow, dcells, get_nil, RetS, RetF, RetD, AV.frz, AV.frzL, AV.freshP, AV.freshL, DV.less, scal_int, scal_bool, scal_nil, scal_rowI, scal_rowRat, scal_rowStep, Option.some.injEq, AV.tup.injEq, AV.agg.injEq, List.cons.injEq, DV.list.injEq, List.isEmpty_nil, Nat.le_refl, AV.d.injEq, DV.int.injEq, DV.bool.injEq, ↓reduceIte, Nat.reduceEqDiff, Nat.reduceAdd, Nat.reduceBEq, List.length_cons, List.length_nil, List.replicate_succ, List.replicate_zero, List.nil_append, List.cons_append, List.append_nil, List.foldl_cons, List.foldl_nil, List.map_cons, List.map_nil, List.all_cons, List.all_nil, List.set_cons_zero, List.set_cons_succ, List.getD_cons_zero, List.getD_cons_succ, List.drop_zero, List.drop_succ_cons, List.take_succ_cons, List.take_zero, List.flatten_cons, List.flatten_nil, Bool.true_and, Bool.and_true, Bool.not_true, Bool.not_false, true_and, and_true, true_or, or_true, Option.bind_some, Option.map_some, decide_true, decide_false, beq_self_eq_true, true_implies, false_implies, implies_true, not_true_eq_false, not_false_eq_true, and_self, Bool.and_false, Bool.false_and, Nat.reduceLT, Nat.reduceLeDiff, List.reverse_cons, List.reverse_nil, Nat.zero_add, Nat.add_zero, Bool.false_eq_true, List.getElem?_cons_zero, Nat.reduceMul, Nat.mul_one, sp_Has, F1, G1, at_size]
  refine ⟨h2, fun c1 => ⟨fun c2 => ⟨fun c3 => ⟨fun c4 => ?_, fun c4 => ?_⟩, fun c3 => ?_⟩, fun c2 => ?_⟩, fun c1 => ?_⟩
  · obtain ⟨i, rfl⟩ := Int.eq_ofNat_of_zero_le c1
    obtain ⟨k, rfl⟩ := Int.eq_ofNat_of_zero_le c3
    rw [wrapU (k := k) (by omega)]
    simp only [toNat_cast, w_shr, w_eq1, w_bit]
    refine ⟨⟨by omega, by omega⟩, by omega, ?_⟩
    rw [hasI_nat]
    unfold hasN
    rw [decide_eq_true (by omega : i < szR l), decide_eq_true (by omega : k < szR l)]
    simp
  · rw [hasI_no (by omega)]
  · rw [hasI_no (by omega)]
  · rw [hasI_no (by omega)]
  · rw [hasI_no (by omega)]

/-! ### TrailingZeros64 -/
/-! ### Laid together -/
def sp_h2 (h : W → W → W) : Sp := ⟨W × W, fun x => [.d (.int .u64 (x.1.toNat : Int)), .d (.int .u64 (x.2.toNat : Int))], fun x => .data True (.d (.int .u64 ((h x.1 x.2).toNat : Int))) true⟩
theorem at_h2 (h : W → W → W) (x y : W) : (sp_h2 h).at [.d (.int .u64 (x.toNat : Int)), .d (.int .u64 (y.toNat : Int))] = .data True (.d (.int .u64 ((h x y).toNat : Int))) true :=
  Sp.at_enc (s := sp_h2 h) (fun x y h => by
    obtain ⟨a, b⟩ := x; obtain ⟨c, d⟩ := y
    simp only [sp_h2, List.cons.injEq, AV.d.injEq, DV.int.injEq, and_true, true_and] at h
    rw [W.inj h.1, W.inj h.2]) (x, y)
def fstW (x _ : W) : W := x
theorem body_rel_Plus_1 {T : Tab} : (sp_h2 fstW).Body T V_rel_Plus_1 L_rel_Plus_1 R_rel_Plus_1 := by
  rintro ⟨x, y⟩ -
  refine .inl ⟨rfl, ?_⟩
  unfold V_rel_Plus_1 L_rel_Plus_1 R_rel_Plus_1
  simp only [↓vck_skip, ↓vck_ret, ↓vck_exit, ↓vck_region, ↓vck_nilq, ↓nilTo_to, nilG_d, nilG_r, ↓vck_seq, ↓vck_cond, ↓vck_block, ↓vck_loop, ↓vckTo_to, ↓thenK_n, ↓thenK_x, ↓thenK_r, ↓blockK_n, ↓blockK_x, ↓blockK_o, ↓blockK_r, ↓regK_to, ↓retK_r, ↓retK_n, ↓loopV_n, ↓loopV_x, ↓loopV_r, ↓famK_n, ↓famK_x, ↓famK_r, ↓boolK_true, ↓boolK_false, ↓boolK_not, ↓boolK_dec, ↓boolK_and, nf_mk, RGk_end_f, RGk_end_t, RGk_op, RGk_guard, opK_to, evN, evCallN, grow_mk, feet_f, feet_t, foot_mk, stepK_mk, stepK_v, stepK_no, guardG_t, guardG_f, guardG_no, condG_b, evT, Opd.ev, get_hit, get_next, app_to, app_no, app_up, app_skip, app_skipn, know_mk, knowO_t, knowO_c, envFrom, reserve, keeps, LOp.isNew, State.prune, cellsQ, cellsT, AV.leaf, Heap.at, evLoad_ptr, evLoad_dptr, loadO_vec, loadO_dvec1, stepK_load_map, idx_I, idx_W, rowW, set_rowW, app_rowW, app_rowW0, rep_rowW0, rowB, set_rowB, rep_rowB, rowN, lens_W, lensA_W, scal_rowW, default_W, w_or, w_and, w_andNot, w_and1, w_shl, w_shl1, w_shr, w_sub1, w_neg, w_add, w_bit, w_eq0, w_eq1, w_eq, Bool.decide_eq_true, idx_Rat, idx_Loc, idx_Act, idx_Step, idx_Stamp, stepK_idx_ref, evStore_ptr, storeO_vec, stepK_store_map1, loadDT_f, rowI, RatG.row, LocG.row, ActG.row, StepG.row, StampG.row, ActG.av, ActG.eta, RatG.eta, LocG.eta, beq_true, beq_false, loadDT_t, set_rowI, app_rowI, rep_rowI, set_rowRat, app_rowRat, rep_rowRat, set_rowLoc, app_rowLoc, app_rowAct, app_rowStep, List.length_set, List.length_replicate, toNat_cast, Int.reduceToNat, evLen, evAppend, srcOf, Src.all, Src.len, Src.leaf, Src.leafN, evApart, aliveQ, joinV, drows_rep1, drows_rep2, drows_rep3, drows_rep4, drows_rep5, drows_rep6, drows_rep7, drows_rep8, mkVec, drows, evMk, List.length_map, take_mapF, drop_mapF, List.take_length, List.take_left, List.length_append, Nat.le_add_right, ite_self, List.take_of_length_le, evSlice, intOr, intOpd, Option.isSome_none, Option.isSome_some, Nat.sub_zero, loadQ, loadT, evBin, evUn, evIdxArr_d, evIdxArr_p, binT, binQ, chk, apartF, List.contains_cons, List.contains_nil, Bool.or_false, Bool.false_or, Bool.and_self, resQ, resV, resT, pickV, evCallT, evTake, evCall, fnOf, viewsT, isD, HO.drow, viewT, evInt2, evEq, eqV, eqK, eqC1, buildQ, buildT, buildRQ, buildRT, lens_I, lensA_I, lens_Rat, lensA_Rat, lens_Loc, lensA_Loc, lens_Act, lensA_Act, lens_Step, lensA_Step, lens_Stamp, lensA_Stamp, List.mem_cons, List.not_mem_nil, or_false, forall_eq, putRow, dcells, get_nil, RetS, RetF, RetD, AV.frz, AV.frzL, AV.freshP, AV.freshL, DV.less, scal_int, scal_bool, scal_nil, scal_rowI, scal_rowRat, scal_rowStep, Option.some.injEq, AV.tup.injEq, AV.agg.injEq, List.cons.injEq, DV.list.injEq, List.isEmpty_nil, Nat.le_refl, AV.d.injEq, DV.int.injEq, DV.bool.injEq, ↓reduceIte, Nat.reduceEqDiff, Nat.reduceAdd, Nat.reduceBEq, List.length_cons, List.length_nil, List.replicate_succ, List.replicate_zero, List.nil_append, List.cons_append, List.append_nil, List.foldl_cons, List.foldl_nil, List.map_cons, List.map_nil, List.all_cons, List.all_nil, List.set_cons_zero, List.set_cons_succ, List.getD_cons_zero, List.getD_cons_succ, List.drop_zero, List.drop_succ_cons, List.take_succ_cons, List.take_zero, List.flatten_cons, List.flatten_nil, Bool.true_and, Bool.and_true, Bool.not_true, Bool.not_false, true_and, and_true, true_or, or_true, Option.bind_some, Option.map_some, decide_true, decide_false, beq_self_eq_true, true_implies, false_implies, implies_true, not_true_eq_false, not_false_eq_true, and_self, Bool.and_false, Bool.false_and, Nat.reduceLT, Nat.reduceLeDiff, List.reverse_cons, List.reverse_nil, Nat.zero_add, Nat.add_zero, Bool.false_eq_true, List.getElem?_cons_zero, Nat.reduceMul, Nat.mul_one, sp_h2, fstW]

def mxR (A B : List W) : Nat := max (szR A) (szR B)
theorem mxR_le (A B : List W) : mxR A B ≤ 64 := by have := szR_le A; have := szR_le B; unfold mxR; omega
def layG (h : W → W → W) (A B : List W) : List W := (List.range (mxR A B)).map fun i => h (rowG A i) (rowG B i)
theorem layG_len {h : W → W → W} {A B : List W} : (layG h A B).length = mxR A B := by simp [layG]
def layOut (h : W → W → W) (A B : List W) : SpecR := .rows (A.length ≤ maxLen ∧ B.length ≤ maxLen) 1 ((layG h A B).map rowW)
/-- Told by the number of the function that is handed over. -/
def sp_lay (hs : Nat → Option (W → W → W)) : Sp := ⟨List W × Bool × List W × Bool × Nat, fun x => [.d (.list (x.1.map rowW) x.2.1), .d (.list (x.2.2.1.map rowW) x.2.2.2.1), .d (.fn x.2.2.2.2)],
  fun x => match hs x.2.2.2.2 with | some h => layOut h x.1 x.2.2.1 | none => .none⟩
theorem at_lay {hs : Nat → Option (W → W → W)} {g : Nat} {h : W → W → W} (hg : hs g = some h) (A B : List W) (e f : Bool) : (sp_lay hs).at [.d (.list (A.map rowW) e), .d (.list (B.map rowW) f), .d (.fn g)] = layOut h A B := by
  rw [show [AV.d (.list (A.map rowW) e), AV.d (.list (B.map rowW) f), AV.d (.fn g)] = (sp_lay hs).enc (A, e, B, f, g) from rfl]
  rw [Sp.at_enc (s := sp_lay hs) (fun x y h => by
    obtain ⟨a, b, c, d, e⟩ := x; obtain ⟨a', b', c', d', e'⟩ := y
    simp only [sp_lay, List.cons.injEq, AV.d.injEq, DV.list.injEq, DV.fn.injEq, and_true, true_and] at h
    rw [rows_inj rowW_inj h.1.1, h.1.2, rows_inj rowW_inj h.2.1.1, h.2.1.2, h.2.2]) (A, e, B, f, g)]
  simp only [sp_lay, hg]

theorem set_map_range {n i : Nat} {f : Nat → W} (h : i < n) : ((List.range i).map f ++ List.replicate (n - i) 0#64).set i (f i) = (List.range (i + 1)).map f ++ List.replicate (n - (i + 1)) 0#64 := by
  have e : List.replicate (n - i) 0#64 = 0#64 :: List.replicate (n - (i + 1)) 0#64 := by rw [← List.replicate_succ]; congr 1; omega
  rw [e, List.range_succ, List.map_append, List.append_assoc]
  have hl : ((List.range i).map f).length = i := by simp
  have := List.set_append_right (s := (List.range i).map f) (t := 0#64 :: List.replicate (n - (i + 1)) 0#64) i (f i) (by omega)
  rw [this, hl, Nat.sub_self]; rfl

theorem lay_body {T : Tab} {n1 n2 g : Nat} {h : W → W → W} (k1 : Knows T n1 sp_size) (k2 : Knows T n2 sp_row) (k3 : Knows T g (sp_h2 h)) (A B : List W) (e f : Bool) :
    (layOut h A B).asks fun Post => vck T 0 V_rel_lay (L_rel_lay n1 n2) ⟨envFrom 0 [.d (.list (A.map rowW) e), .d (.list (B.map rowW) f), .d (.fn g)], []⟩ (retK R_rel_lay Post) := by
  have F1 := k1.F; have G1 := k1.G; have F2 := k2.F; have G2 := k2.G; have F3 := k3.F; have G3 := k3.G
  rintro ⟨h1, h2⟩
  refine ⟨rows_len (f := rowW) (fun _ => rfl) _, ?_⟩
  unfold V_rel_lay L_rel_lay R_rel_lay
  simp only [↓vck_skip, ↓vck_ret, ↓vck_exit, ↓vck_region, ↓vck_nilq, ↓nilTo_to, nilG_d, nilG_r, ↓vck_seq, ↓vck_cond, ↓vck_block, ↓vck_loop, ↓vckTo_to, ↓thenK_n, ↓thenK_x, ↓thenK_r, ↓blockK_n, ↓blockK_x, ↓blockK_o, ↓blockK_r, ↓regK_to, ↓retK_r, ↓retK_n, ↓loopV_n, ↓loopV_x, ↓loopV_r, ↓famK_n, ↓famK_x, ↓famK_r, ↓boolK_true, ↓boolK_false, ↓boolK_not, ↓boolK_dec, ↓boolK_and, nf_mk, RGk_end_f, RGk_end_t, RGk_op, RGk_guard, opK_to, evN, evCallN, grow_mk, feet_f, feet_t, foot_mk, stepK_mk, stepK_v, stepK_no, guardG_t, guardG_f, guardG_no, condG_b, evT, Opd.ev, get_hit, get_next, app_to, app_no, app_up, app_skip, app_skipn, know_mk, knowO_t, knowO_c, envFrom, reserve, keeps, LOp.isNew, State.prune, cellsQ, cellsT, AV.leaf, Heap.at, evLoad_ptr, evLoad_dptr, loadO_vec, loadO_dvec1, stepK_load_map, idx_I, idx_W, rowW, set_rowW, app_rowW, app_rowW0, rep_rowW0, rowB, set_rowB, rep_rowB, rowN, lens_W, lensA_W, scal_rowW, default_W, w_or, w_and, w_andNot, w_and1, w_shl, w_shl1, w_shr, w_sub1, w_neg, w_add, w_bit, w_eq0, w_eq1, w_eq, Bool.decide_eq_true, idx_Rat, idx_Loc, idx_Act, idx_Step, idx_Stamp, stepK_idx_ref, evStore_ptr, storeO_vec, stepK_store_map1, loadDT_f, rowI, RatG.row, LocG.row, ActG.row, StepG.row, StampG.row, ActG.av, ActG.eta, RatG.eta, LocG.eta, beq_true, beq_false, loadDT_t, set_rowI, app_rowI, rep_rowI, set_rowRat, app_rowRat, rep_rowRat, set_rowLoc, app_rowLoc, app_rowAct, app_rowStep, List.length_set, List.length_replicate, toNat_cast, Int.reduceToNat, evLen, evAppend, srcOf, Src.all, Src.len, Src.leaf, Src.leafN, evApart, aliveQ, joinV, drows_rep1, drows_rep2, drows_rep3, drows_rep4, drows_rep5, drows_rep6, drows_rep7, drows_rep8, mkVec, drows, evMk, List.length_map, take_mapF, drop_mapF, List.take_length, List.take_left, List.length_append, Nat.le_add_right, ite_self, List.take_of_length_le, evSlice, intOr, intOpd, Option.isSome_none, Option.isSome_some, Nat.sub_zero, loadQ, loadT, evBin, evUn, evIdxArr_d, evIdxArr_p, binT, binQ, chk, apartF, List.contains_cons, List.contains_nil, Bool.or_false, Bool.false_or, Bool.and_self, resQ, resV, resT, pickV, evCallT, evTake, evCall, fnOf, viewsT, isD, HO.drow, viewT, evInt2, evEq, eqV, eqK, eqC1, buildQ, buildT, buildRQ, buildRT, lens_I, lensA_I, lens_Rat, lensA_Rat, lens_Loc, lensA_Loc, lens_Act, lensA_Act, lens_Step, lensA_Step, lens_Stamp, lensA_Stamp, List.mem_cons, List.not_mem_nil, or_false, forall_eq, putRow, dcells, get_nil, RetS, RetF, RetD, AV.frz, AV.frzL, AV.freshP, AV.freshL, DV.less, scal_int, scal_bool, scal_nil, scal_rowI, scal_rowRat, scal_rowStep, Option.some.injEq, AV.tup.injEq, AV.agg.injEq, List.cons.injEq, DV.list.injEq, List.isEmpty_nil, Nat.le_refl, AV.d.injEq, DV.int.injEq, DV.bool.injEq, ↓reduceIte, Nat.reduceEqDiff, Nat.reduceAdd, Nat.reduceBEq, List.length_cons, List.length_nil, List.replicate_succ, List.replicate_zero, List.nil_append, List.cons_append, List.append_nil, List.foldl_cons, List.foldl_nil, List.map_cons, List.map_nil, List.all_cons, List.all_nil, List.set_cons_zero, List.set_cons_succ, List.getD_cons_zero, List.getD_cons_succ, List.drop_zero, List.drop_succ_cons, List.take_succ_cons, List.take_zero, List.flatten_cons, List.flatten_nil, Bool.true_and, Bool.and_true, Bool.not_true, Bool.not_false, true_and, and_true, true_or, or_true, Option.bind_some, Option.map_some, decide_true, decide_false, beq_self_eq_true, true_implies, false_implies, implies_true, not_true_eq_false, not_false_eq_true, and_self, Bool.and_false, Bool.false_and, Nat.reduceLT, Nat.reduceLeDiff, List.reverse_cons, List.reverse_nil, Nat.zero_add, Nat.add_zero, Bool.false_eq_true, List.getElem?_cons_zero, Nat.reduceMul, Nat.mul_one, F1, G1, F2, G2, F3, G3, at_size, at_row, at_h2]
  have hm : (if ((szR B : Nat) : Int) > ((szR A : Nat) : Int) then ((szR B : Nat) : Int) else ((szR A : Nat) : Int)) = ((mxR A B : Nat) : Int) := by unfold mxR; split <;> omega
  have hle := mxR_le A B
  rw [hm]
  simp only [↓vck_skip, ↓vck_ret, ↓vck_exit, ↓vck_region, ↓vck_nilq, ↓nilTo_to, nilG_d, nilG_r, ↓vck_seq, ↓vck_cond, ↓vck_block, ↓vck_loop, ↓vckTo_to, ↓thenK_n, ↓thenK_x, ↓thenK_r, ↓blockK_n, ↓blockK_x, ↓blockK_o, ↓blockK_r, ↓regK_to, ↓retK_r, ↓retK_n, ↓loopV_n, ↓loopV_x, ↓loopV_r, ↓famK_n, ↓famK_x, ↓famK_r, ↓boolK_true, ↓boolK_false, ↓boolK_not, ↓boolK_dec, ↓boolK_and, nf_mk, RGk_end_f, RGk_end_t, RGk_op, RGk_guard, opK_to, evN, evCallN, grow_mk, feet_f, feet_t, foot_mk, stepK_mk, stepK_v, stepK_no, guardG_t, guardG_f, guardG_no, condG_b, evT, Opd.ev, get_hit, get_next, app_to, app_no, app_up, app_skip, app_skipn, know_mk, knowO_t, knowO_c, envFrom, reserve, keeps, LOp.isNew, State.prune, cellsQ, cellsT, AV.leaf, Heap.at, evLoad_ptr, evLoad_dptr, loadO_vec, loadO_dvec1, stepK_load_map, idx_I, idx_W, rowW, set_rowW, app_rowW, app_rowW0, rep_rowW0, rowB, set_rowB, rep_rowB, rowN, lens_W, lensA_W, scal_rowW, default_W, w_or, w_and, w_andNot, w_and1, w_shl, w_shl1, w_shr, w_sub1, w_neg, w_add, w_bit, w_eq0, w_eq1, w_eq, Bool.decide_eq_true, idx_Rat, idx_Loc, idx_Act, idx_Step, idx_Stamp, stepK_idx_ref, evStore_ptr, storeO_vec, stepK_store_map1, loadDT_f, rowI, RatG.row, LocG.row, ActG.row, StepG.row, StampG.row, ActG.av, ActG.eta, RatG.eta, LocG.eta, beq_true, beq_false, loadDT_t, set_rowI, app_rowI, rep_rowI, set_rowRat, app_rowRat, rep_rowRat, set_rowLoc, app_rowLoc, app_rowAct, app_rowStep, List.length_set, List.length_replicate, toNat_cast, Int.reduceToNat, evLen, evAppend, srcOf, Src.all, Src.len, Src.leaf, Src.leafN, evApart, aliveQ, joinV, drows_rep1, drows_rep2, drows_rep3, drows_rep4, drows_rep5, drows_rep6, drows_rep7, drows_rep8, mkVec, drows, evMk, List.length_map, take_mapF, drop_mapF, List.take_length, List.take_left, List.length_append, Nat.le_add_right, ite_self, List.take_of_length_le, evSlice, intOr, intOpd, Option.isSome_none, Option.isSome_some, Nat.sub_zero, loadQ, loadT, evBin, evUn, evIdxArr_d, evIdxArr_p, binT, binQ, chk, apartF, List.contains_cons, List.contains_nil, Bool.or_false, Bool.false_or, Bool.and_self, resQ, resV, resT, pickV, evCallT, evTake, evCall, fnOf, viewsT, isD, HO.drow, viewT, evInt2, evEq, eqV, eqK, eqC1, buildQ, buildT, buildRQ, buildRT, lens_I, lensA_I, lens_Rat, lensA_Rat, lens_Loc, lensA_Loc, lens_Act, lensA_Act, lens_Step, lensA_Step, lens_Stamp, lensA_Stamp, List.mem_cons, List.not_mem_nil, or_false, forall_eq, putRow, dcells, get_nil, RetS, RetF, RetD, AV.frz, AV.frzL, AV.freshP, AV.freshL, DV.less, scal_int, scal_bool, scal_nil, scal_rowI, scal_rowRat, scal_rowStep, Option.some.injEq, AV.tup.injEq, AV.agg.injEq, List.cons.injEq, DV.list.injEq, List.isEmpty_nil, Nat.le_refl, AV.d.injEq, DV.int.injEq, DV.bool.injEq, ↓reduceIte, Nat.reduceEqDiff, Nat.reduceAdd, Nat.reduceBEq, List.length_cons, List.length_nil, List.replicate_succ, List.replicate_zero, List.nil_append, List.cons_append, List.append_nil, List.foldl_cons, List.foldl_nil, List.map_cons, List.map_nil, List.all_cons, List.all_nil, List.set_cons_zero, List.set_cons_succ, List.getD_cons_zero, List.getD_cons_succ, List.drop_zero, List.drop_succ_cons, List.take_succ_cons, List.take_zero, List.flatten_cons, List.flatten_nil, Bool.true_and, Bool.and_true, Bool.not_true, Bool.not_false, true_and, and_true, true_or, or_true, Option.bind_some, Option.map_some, decide_true, decide_false, beq_self_eq_true, true_implies, false_implies, implies_true, not_true_eq_false, not_false_eq_true, and_self, Bool.and_false, Bool.false_and, Nat.reduceLT, Nat.reduceLeDiff, List.reverse_cons, List.reverse_nil, Nat.zero_add, Nat.add_zero, Bool.false_eq_true, List.getElem?_cons_zero, Nat.reduceMul, Nat.mul_one]
  refine ⟨h1, h2, ⟨by omega, by omega, roomy_of (by omega) (by omega)⟩, ?_⟩
  refine Loop.fam [0, 1, 2, 7, 16, 17] (fun i : Nat => ⟨[(0, .d (.list (A.map rowW) e)), (1, .d (.list (B.map rowW) f)), (2, .d (.fn g)), (7, .ref 0 1 0 (mxR A B) true), (16, .d (.int .i64 (mxR A B : Nat))), (17, .d (.int .i64 i))],
      [.dvec 1 (((List.range i).map (fun i => h (rowG A i) (rowG B i)) ++ List.replicate (mxR A B - i) 0#64).map rowW)]⟩) (fun i => i ≤ mxR A B) (fun i => mxR A B - i) 0 [0] (by simp) (by simp) (by simp only [State.can, AV.can, AV.canL, HO.can, canRows, idx, get_hit, get_next, Heap.at, Nat.reduceBEq, ↓reduceIte, Nat.reduceEqDiff, Option.getD_some, Option.map_some, List.map_cons, List.map_nil, List.getD_cons_zero, List.getD_cons_succ]; simp) (by omega) ?_
  intro i hi
  simp only [↓vck_skip, ↓vck_ret, ↓vck_exit, ↓vck_region, ↓vck_nilq, ↓nilTo_to, nilG_d, nilG_r, ↓vck_seq, ↓vck_cond, ↓vck_block, ↓vck_loop, ↓vckTo_to, ↓thenK_n, ↓thenK_x, ↓thenK_r, ↓blockK_n, ↓blockK_x, ↓blockK_o, ↓blockK_r, ↓regK_to, ↓retK_r, ↓retK_n, ↓loopV_n, ↓loopV_x, ↓loopV_r, ↓famK_n, ↓famK_x, ↓famK_r, ↓boolK_true, ↓boolK_false, ↓boolK_not, ↓boolK_dec, ↓boolK_and, nf_mk, RGk_end_f, RGk_end_t, RGk_op, RGk_guard, opK_to, evN, evCallN, grow_mk, feet_f, feet_t, foot_mk, stepK_mk, stepK_v, stepK_no, guardG_t, guardG_f, guardG_no, condG_b, evT, Opd.ev, get_hit, get_next, app_to, app_no, app_up, app_skip, app_skipn, know_mk, knowO_t, knowO_c, envFrom, reserve, keeps, LOp.isNew, State.prune, cellsQ, cellsT, AV.leaf, Heap.at, evLoad_ptr, evLoad_dptr, loadO_vec, loadO_dvec1, stepK_load_map, idx_I, idx_W, rowW, set_rowW, app_rowW, app_rowW0, rep_rowW0, rowB, set_rowB, rep_rowB, rowN, lens_W, lensA_W, scal_rowW, default_W, w_or, w_and, w_andNot, w_and1, w_shl, w_shl1, w_shr, w_sub1, w_neg, w_add, w_bit, w_eq0, w_eq1, w_eq, Bool.decide_eq_true, idx_Rat, idx_Loc, idx_Act, idx_Step, idx_Stamp, stepK_idx_ref, evStore_ptr, storeO_vec, stepK_store_map1, loadDT_f, rowI, RatG.row, LocG.row, ActG.row, StepG.row, StampG.row, ActG.av, ActG.eta, RatG.eta, LocG.eta, beq_true, beq_false, loadDT_t, set_rowI, app_rowI, rep_rowI, set_rowRat, app_rowRat, rep_rowRat, set_rowLoc, app_rowLoc, app_rowAct, app_rowStep, List.length_set, List.length_replicate, toNat_cast, Int.reduceToNat, evLen, evAppend, srcOf, Src.all, Src.len, Src.leaf, Src.leafN, evApart, aliveQ, joinV, drows_rep1, drows_rep2, drows_rep3, drows_rep4, drows_rep5, drows_rep6, drows_rep7, drows_rep8, mkVec, drows, evMk, List.length_map, take_mapF, drop_mapF, List.take_length, List.take_left, List.length_append, Nat.le_add_right, ite_self, List.take_of_length_le, evSlice, intOr, intOpd, Option.isSome_none, Option.isSome_some, Nat.sub_zero, loadQ, loadT, evBin, evUn, evIdxArr_d, evIdxArr_p, binT, binQ, chk, apartF, List.contains_cons, List.contains_nil, Bool.or_false, Bool.false_or, Bool.and_self, resQ, resV, resT, pickV, evCallT, evTake, evCall, fnOf, viewsT, isD, HO.drow, viewT, evInt2, evEq, eqV, eqK, eqC1, buildQ, buildT, buildRQ, buildRT, lens_I, lensA_I, lens_Rat, lensA_Rat, lens_Loc, lensA_Loc, lens_Act, lensA_Act, lens_Step, lensA_Step, lens_Stamp, lensA_Stamp, List.mem_cons, List.not_mem_nil, or_false, forall_eq, putRow, dcells, get_nil, RetS, RetF, RetD, AV.frz, AV.frzL, AV.freshP, AV.freshL, DV.less, scal_int, scal_bool, scal_nil, scal_rowI, scal_rowRat, scal_rowStep, Option.some.injEq, AV.tup.injEq, AV.agg.injEq, List.cons.injEq, DV.list.injEq, List.isEmpty_nil, Nat.le_refl, AV.d.injEq, DV.int.injEq, DV.bool.injEq, ↓reduceIte, Nat.reduceEqDiff, Nat.reduceAdd, Nat.reduceBEq, List.length_cons, List.length_nil, List.replicate_succ, List.replicate_zero, List.nil_append, List.cons_append, List.append_nil, List.foldl_cons, List.foldl_nil, List.map_cons, List.map_nil, List.all_cons, List.all_nil, List.set_cons_zero, List.set_cons_succ, List.getD_cons_zero, List.getD_cons_succ, List.drop_zero, List.drop_succ_cons, List.take_succ_cons, List.take_zero, List.flatten_cons, List.flatten_nil, Bool.true_and, Bool.and_true, Bool.not_true, Bool.not_false, true_and, and_true, true_or, or_true, Option.bind_some, Option.map_some, decide_true, decide_false, beq_self_eq_true, true_implies, false_implies, implies_true, not_true_eq_false, not_false_eq_true, and_self, Bool.and_false, Bool.false_and, Nat.reduceLT, Nat.reduceLeDiff, List.reverse_cons, List.reverse_nil, Nat.zero_add, Nat.add_zero, Bool.false_eq_true, List.getElem?_cons_zero, Nat.reduceMul, Nat.mul_one, F1, G1, F2, G2, F3, G3, at_size, at_row, at_h2]
  refine ⟨fun c => ?_, fun c => ?_⟩
  · have c' : i < mxR A B := by omega
    rw [wrap_succ c' (by unfold maxLen; omega), set_map_range (f := fun i => h (rowG A i) (rowG B i)) c']
    refine ⟨⟨by omega, h1⟩, ⟨by omega, h2⟩, ⟨by omega, by omega⟩, by simp; omega, FamNext.mk [0] (i + 1) (by simp) (by simp) (by simp only [State.can, AV.can, AV.canL, HO.can, canRows, idx, get_hit, get_next, Heap.at, Nat.reduceBEq, ↓reduceIte, Nat.reduceEqDiff, Option.getD_some, Option.map_some, List.map_cons, List.map_nil, List.getD_cons_zero, List.getD_cons_succ]) (by show i + 1 ≤ mxR A B; omega) (by show mxR A B - (i + 1) < mxR A B - i; omega)⟩
  · have : i = mxR A B := by omega
    subst this
    rw [Nat.sub_self, List.replicate_zero, List.append_nil]
    exact .inl ⟨0, true, by simp [layG_len], rfl⟩

end Go.Ago

/- Contracts of package rel: Union, Inter, Minus, Then, Back. Conditions: none. -/
set_option maxRecDepth 100000
set_option linter.unusedSimpArgs false
set_option linter.unusedVariables false
namespace Go.Ago

theorem getD_set {l : List W} {i j : Nat} {x : W} (hi : i < l.length) : (l.set i x).getD j 0#64 = if i = j then x else l.getD j 0#64 := by
  rw [List.getD_eq_getElem?_getD, List.getElem?_set, List.getD_eq_getElem?_getD]
  by_cases e : i = j
  · subst e; simp [hi]
  · simp [e]
theorem mkR_set {n : Nat} {p q : Nat → Nat → Bool} {i : Nat} {x : W} (hi : i < n) (hx : ∀ k, k < 64 → x.getLsbD k = (decide (k < n) && q i k)) (ho : ∀ a k, a < n → k < n → a ≠ i → q a k = p a k) : (mkR n p).set i x = mkR n q := by
  apply mkR_ext (by simp [mkR_len])
  intro a k ha hk
  rw [getD_set (by rw [mkR_len]; exact hi)]
  by_cases e : i = a
  · subst e; rw [if_pos rfl]; exact hx k hk
  · rw [if_neg e, mkR_get ha]
    by_cases hkn : k < n
    · rw [ho a k ha hkn (Ne.symm e)]; simp [hk]
    · simp [hkn]
theorem mkR_zero {n : Nat} {p : Nat → Nat → Bool} (h : ∀ i k, i < n → k < n → p i k = false) : List.replicate n 0#64 = mkR n p := by
  apply mkR_ext (by simp)
  intro i k hi hk
  have e : (List.replicate n 0#64).getD i 0#64 = 0#64 := by
    rw [List.getD_eq_getElem?_getD, List.getElem?_replicate]; split <;> rfl
  rw [e]
  by_cases hkn : k < n
  · rw [h i k hi hkn]; simp
  · simp [hkn]
theorem hasN_off {R : List W} {i k : Nat} (h : ¬ k < szR R) : hasN R i k = false := by unfold hasN; simp [h]
/-- Two laid together, place by place. -/
def lay2 (q : Bool → Bool → Bool) (A B : List W) : List W := mkR (mxR A B) fun i k => q (hasN A i k) (hasN B i k)
theorem layG_get {h : W → W → W} {A B : List W} {i : Nat} (hi : i < mxR A B) : (layG h A B).getD i 0#64 = h (rowG A i) (rowG B i) := by
  unfold layG
  rw [List.getD_eq_getElem?_getD, List.getElem?_map, List.getElem?_range hi]; rfl
theorem layG_mk {h : W → W → W} {q : Bool → Bool → Bool} (hh : ∀ x y k, k < 64 → (h x y).getLsbD k = q (x.getLsbD k) (y.getLsbD k)) (hq : q false false = false) (A B : List W) : layG h A B = lay2 q A B := by
  apply mkR_ext layG_len
  intro i k hi hk
  rw [layG_get hi, hh _ _ _ hk, get_rowG, get_rowG]
  by_cases hkn : k < mxR A B
  · simp [hkn]
  · have h1 : ¬ k < szR A := by unfold mxR at hkn; omega
    have h2 : ¬ k < szR B := by unfold mxR at hkn; omega
    rw [hasN_off h1, hasN_off h2, hq]; simp [hkn]
/-! ### Then -/
theorem beq_of_iff {a b : Bool} (h : a = true ↔ b = true) : a = b := by cases a <;> cases b <;> simp_all

end Go.Ago

/- Contracts of package rel: Back, Plus, Star, Ring. Conditions: none. -/
set_option maxRecDepth 100000
set_option linter.unusedSimpArgs false
set_option linter.unusedVariables false
namespace Go.Ago

/-! ### Back -/
theorem one_shl {i k : Nat} (hi : i < 64) : (1#64 <<< i).getLsbD k = decide (i = k) := by
  by_cases hk : k < 64
  · rw [BitVec.getLsbD_shiftLeft, BitVec.getLsbD_one]
    by_cases e : i = k
    · subst e; simp [hi]
    · by_cases e2 : k < i
      · simp [e2, e]
      · have : ¬ k - i = 0 := by omega
        simp [e, this]
  · rw [getLsb_ge (by omega)]; simp; omega
/-! ### Plus -/
/-- Ways whose places between are ahead of m. -/
def way (p : Nat → Nat → Bool) : Nat → Nat → Nat → Bool
  | 0, i, k => p i k
  | m + 1, i, k => way p m i k || way p m i m && way p m m k
def plusG (R : List W) : List W := mkR (szR R) (way (hasN R) (szR R))
def plusS (R : List W) (m i a b : Nat) : Bool := if a < i then way (hasN R) (m + 1) a b else way (hasN R) m a b
def sp_Plus : Sp := ⟨List W × Bool, fun x => [.d (.list (x.1.map rowW) x.2)], fun x => .rows (x.1.length ≤ maxLen) 1 ((plusG x.1).map rowW)⟩
theorem at_Plus (A : List W) (e : Bool) : sp_Plus.at [.d (.list (A.map rowW) e)] = .rows (A.length ≤ maxLen) 1 ((plusG A).map rowW) :=
  Sp.at_enc (s := sp_Plus) (fun x y h => by
    obtain ⟨a, b⟩ := x; obtain ⟨a', b'⟩ := y
    simp only [sp_Plus, List.cons.injEq, AV.d.injEq, DV.list.injEq, and_true] at h
    rw [rows_inj rowW_inj h.1, h.2]) (A, e)
theorem szR_nil : szR [] = 0 := rfl
theorem lay_fst (A : List W) : layG fstW A [] = mkR (szR A) (hasN A) := by
  rw [layG_mk (h := fstW) (q := fun a _ => a) (fun x y k _ => rfl) rfl]
  unfold lay2 mxR
  rw [szR_nil, Nat.max_eq_left (Nat.zero_le _)]
theorem plus_body {T : Tab} {n1 n2 : Nat} {hs : Nat → Option (W → W → W)} (k1 : Knows T n1 (sp_lay hs)) (e1 : hs n2 = some fstW) :
    sp_Plus.Body T V_rel_Plus (L_rel_Plus n1 n2) R_rel_Plus := by
  have F1 := k1.F; have G1 := k1.G
  rintro ⟨A, e⟩ h1
  have h1 : A.length ≤ maxLen := h1
  refine ⟨rows_len (f := rowW) (fun _ => rfl) _, ?_⟩
  have hat : ∀ f : Bool, (sp_lay hs).at [.d (.list (A.map rowW) e), .d (.list [] f), .d (.fn n2)] = .rows (A.length ≤ maxLen ∧ 0 ≤ maxLen) 1 ((mkR (szR A) (hasN A)).map rowW) := fun f => by
    have := at_lay e1 A [] e f
    unfold layOut at this
    rw [lay_fst] at this
    exact this
  unfold V_rel_Plus L_rel_Plus R_rel_Plus
  simp only [↓vck_skip, ↓vck_ret, ↓vck_exit, ↓vck_region, ↓vck_nilq, ↓nilTo_to, nilG_d, nilG_r, ↓vck_seq, ↓vck_cond, ↓vck_block, ↓vck_loop, ↓vckTo_to, ↓thenK_n, ↓thenK_x, ↓thenK_r, ↓blockK_n, ↓blockK_x, ↓blockK_o, ↓blockK_r, ↓regK_to, ↓retK_r, ↓retK_n, ↓loopV_n, ↓loopV_x, ↓loopV_r, ↓famK_n, ↓famK_x, ↓famK_r, ↓boolK_true, ↓boolK_false, ↓boolK_not, ↓boolK_dec, ↓boolK_and, nf_mk, RGk_end_f, RGk_end_t, RGk_op, RGk_guard, opK_to, evN, evCallN, grow_mk, feet_f, feet_t, foot_mk, stepK_mk, stepK_v, stepK_no, guardG_t, guardG_f, guardG_no, condG_b, evT, Opd.ev, get_hit, get_next, app_to, app_no, app_up, app_skip, app_skipn, know_mk, knowO_t, knowO_c, envFrom, reserve, keeps, LOp.isNew, State.prune, cellsQ, cellsT, AV.leaf, Heap.at, evLoad_ptr, evLoad_dptr, loadO_vec, loadO_dvec1, stepK_load_map, idx_I, idx_W, rowW, set_rowW, app_rowW, app_rowW0, rep_rowW0, rowB, set_rowB, rep_rowB, rowN, lens_W, lensA_W, scal_rowW, default_W, w_or, w_and, w_andNot, w_and1, w_shl, w_shl1, w_shr, w_sub1, w_neg, w_add, w_bit, w_eq0, w_eq1, w_eq, Bool.decide_eq_true, idx_Rat, idx_Loc, idx_Act, idx_Step, idx_Stamp, stepK_idx_ref, evStore_ptr, storeO_vec, stepK_store_map1, loadDT_f, rowI, RatG.row, LocG.row, ActG.row, StepG.row, StampG.row, ActG.av, ActG.eta, RatG.eta, LocG.eta, beq_true, beq_false, loadDT_t, set_rowI, app_rowI, rep_rowI, set_rowRat, app_rowRat, rep_rowRat, set_rowLoc, app_rowLoc, app_rowAct, app_rowStep, List.length_set, List.length_replicate, toNat_cast, Int.reduceToNat, evLen, evAppend, srcOf, Src.all, Src.len, Src.leaf, Src.leafN, evApart, aliveQ, joinV, drows_rep1, drows_rep2, drows_rep3, drows_rep4, drows_rep5, drows_rep6, drows_rep7, drows_rep8, mkVec, drows, evMk, List.length_map, take_mapF, drop_mapF, List.take_length, List.take_left, List.length_append, Nat.le_add_right, ite_self, List.take_of_length_le, evSlice, intOr, intOpd, Option.isSome_none, Option.isSome_some, Nat.sub_zero, loadQ, loadT, evBin, evUn, evIdxArr_d, evIdxArr_p, binT, binQ, chk, apartF, List.contains_cons, List.contains_nil, Bool.or_false, Bool.false_or, Bool.and_self, resQ, resV, resT, pickV, evCallT, evTake, evCall, fnOf, viewsT, isD, HO.drow, viewT, evInt2, evEq, eqV, eqK, eqC1, buildQ, buildT, buildRQ, buildRT, lens_I, lensA_I, lens_Rat, lensA_Rat, lens_Loc, lensA_Loc, lens_Act, lensA_Act, lens_Step, lensA_Step, lens_Stamp, lensA_Stamp, List.mem_cons, List.not_mem_nil, or_false, forall_eq, putRow, dcells, get_nil, RetS, RetF, RetD, AV.frz, AV.frzL, AV.freshP, AV.freshL, DV.less, scal_int, scal_bool, scal_nil, scal_rowI, scal_rowRat, scal_rowStep, Option.some.injEq, AV.tup.injEq, AV.agg.injEq, List.cons.injEq, DV.list.injEq, List.isEmpty_nil, Nat.le_refl, AV.d.injEq, DV.int.injEq, DV.bool.injEq, ↓reduceIte, Nat.reduceEqDiff, Nat.reduceAdd, Nat.reduceBEq, List.length_cons, List.length_nil, List.replicate_succ, List.replicate_zero, List.nil_append, List.cons_append, List.append_nil, List.foldl_cons, List.foldl_nil, List.map_cons, List.map_nil, List.all_cons, List.all_nil, List.set_cons_zero, List.set_cons_succ, List.getD_cons_zero, List.getD_cons_succ, List.drop_zero, List.drop_succ_cons, List.take_succ_cons, List.take_zero, List.flatten_cons, List.flatten_nil, Bool.true_and, Bool.and_true, Bool.not_true, Bool.not_false, true_and, and_true, true_or, or_true, Option.bind_some, Option.map_some, decide_true, decide_false, beq_self_eq_true, true_implies, false_implies, implies_true, not_true_eq_false, not_false_eq_true, and_self, Bool.and_false, Bool.false_and, Nat.reduceLT, Nat.reduceLeDiff, List.reverse_cons, List.reverse_nil, Nat.zero_add, Nat.add_zero, Bool.false_eq_true, List.getElem?_cons_zero, Nat.reduceMul, Nat.mul_one, sp_Plus, F1, G1, hat]
  have hle := szR_le A
  rw [mkR_len]
  generalize hn : szR A = n at *
  refine ⟨⟨h1, by omega⟩, ?_⟩
  refine Loop.fam [3, 9, 10] (fun m : Nat => ⟨[(3, .ref 0 1 0 n true), (9, .d (.int .i64 n)), (10, .d (.int .i64 m))],
      [.dvec 1 ((mkR n (way (hasN A) m)).map rowW)]⟩) (fun m => m ≤ n) (fun m => n - m) 0 [0] (by simp) (by simp) (by simp only [State.can, AV.can, AV.canL, HO.can, canRows, idx, get_hit, get_next, Heap.at, Nat.reduceBEq, ↓reduceIte, Nat.reduceEqDiff, Option.getD_some, Option.map_some, List.map_cons, List.map_nil, List.getD_cons_zero, List.getD_cons_succ]; rfl) (by omega) ?_
  intro m hm
  simp only [↓vck_skip, ↓vck_ret, ↓vck_exit, ↓vck_region, ↓vck_nilq, ↓nilTo_to, nilG_d, nilG_r, ↓vck_seq, ↓vck_cond, ↓vck_block, ↓vck_loop, ↓vckTo_to, ↓thenK_n, ↓thenK_x, ↓thenK_r, ↓blockK_n, ↓blockK_x, ↓blockK_o, ↓blockK_r, ↓regK_to, ↓retK_r, ↓retK_n, ↓loopV_n, ↓loopV_x, ↓loopV_r, ↓famK_n, ↓famK_x, ↓famK_r, ↓boolK_true, ↓boolK_false, ↓boolK_not, ↓boolK_dec, ↓boolK_and, nf_mk, RGk_end_f, RGk_end_t, RGk_op, RGk_guard, opK_to, evN, evCallN, grow_mk, feet_f, feet_t, foot_mk, stepK_mk, stepK_v, stepK_no, guardG_t, guardG_f, guardG_no, condG_b, evT, Opd.ev, get_hit, get_next, app_to, app_no, app_up, app_skip, app_skipn, know_mk, knowO_t, knowO_c, envFrom, reserve, keeps, LOp.isNew, State.prune, cellsQ, cellsT, AV.leaf, Heap.at, evLoad_ptr, evLoad_dptr, loadO_vec, loadO_dvec1, stepK_load_map, idx_I, idx_W, rowW, set_rowW, app_rowW, app_rowW0, rep_rowW0, rowB, set_rowB, rep_rowB, rowN, lens_W, lensA_W, scal_rowW, default_W, w_or, w_and, w_andNot, w_and1, w_shl, w_shl1, w_shr, w_sub1, w_neg, w_add, w_bit, w_eq0, w_eq1, w_eq, Bool.decide_eq_true, idx_Rat, idx_Loc, idx_Act, idx_Step, idx_Stamp, stepK_idx_ref, evStore_ptr, storeO_vec, stepK_store_map1, loadDT_f, rowI, RatG.row, LocG.row, ActG.row, StepG.row, StampG.row, ActG.av, ActG.eta, RatG.eta, LocG.eta, beq_true, beq_false, loadDT_t, set_rowI, app_rowI, rep_rowI, set_rowRat, app_rowRat, rep_rowRat, set_rowLoc, app_rowLoc, app_rowAct, app_rowStep, List.length_set, List.length_replicate, toNat_cast, Int.reduceToNat, evLen, evAppend, srcOf, Src.all, Src.len, Src.leaf, Src.leafN, evApart, aliveQ, joinV, drows_rep1, drows_rep2, drows_rep3, drows_rep4, drows_rep5, drows_rep6, drows_rep7, drows_rep8, mkVec, drows, evMk, List.length_map, take_mapF, drop_mapF, List.take_length, List.take_left, List.length_append, Nat.le_add_right, ite_self, List.take_of_length_le, evSlice, intOr, intOpd, Option.isSome_none, Option.isSome_some, Nat.sub_zero, loadQ, loadT, evBin, evUn, evIdxArr_d, evIdxArr_p, binT, binQ, chk, apartF, List.contains_cons, List.contains_nil, Bool.or_false, Bool.false_or, Bool.and_self, resQ, resV, resT, pickV, evCallT, evTake, evCall, fnOf, viewsT, isD, HO.drow, viewT, evInt2, evEq, eqV, eqK, eqC1, buildQ, buildT, buildRQ, buildRT, lens_I, lensA_I, lens_Rat, lensA_Rat, lens_Loc, lensA_Loc, lens_Act, lensA_Act, lens_Step, lensA_Step, lens_Stamp, lensA_Stamp, List.mem_cons, List.not_mem_nil, or_false, forall_eq, putRow, dcells, get_nil, RetS, RetF, RetD, AV.frz, AV.frzL, AV.freshP, AV.freshL, DV.less, scal_int, scal_bool, scal_nil, scal_rowI, scal_rowRat, scal_rowStep, Option.some.injEq, AV.tup.injEq, AV.agg.injEq, List.cons.injEq, DV.list.injEq, List.isEmpty_nil, Nat.le_refl, AV.d.injEq, DV.int.injEq, DV.bool.injEq, ↓reduceIte, Nat.reduceEqDiff, Nat.reduceAdd, Nat.reduceBEq, List.length_cons, List.length_nil, List.replicate_succ, List.replicate_zero, List.nil_append, List.cons_append, List.append_nil, List.foldl_cons, List.foldl_nil, List.map_cons, List.map_nil, List.all_cons, List.all_nil, List.set_cons_zero, List.set_cons_succ, List.getD_cons_zero, List.getD_cons_succ, List.drop_zero, List.drop_succ_cons, List.take_succ_cons, List.take_zero, List.flatten_cons, List.flatten_nil, Bool.true_and, Bool.and_true, Bool.not_true, Bool.not_false, true_and, and_true, true_or, or_true, Option.bind_some, Option.map_some, decide_true, decide_false, beq_self_eq_true, true_implies, false_implies, implies_true, not_true_eq_false, not_false_eq_true, and_self, Bool.and_false, Bool.false_and, Nat.reduceLT, Nat.reduceLeDiff, List.reverse_cons, List.reverse_nil, Nat.zero_add, Nat.add_zero, Bool.false_eq_true, List.getElem?_cons_zero, Nat.reduceMul, Nat.mul_one, F1, G1, hat]
  refine ⟨fun c => ?_, fun c => ?_⟩
  · have c' : m < n := by omega
    refine Loop.fam [3, 4, 9, 10, 14, 15] (fun i : Nat => ⟨[(3, .ref 0 1 0 n true), (4, .d (.int .i64 m)), (9, .d (.int .i64 n)), (10, .d (.int .i64 m)), (14, .d (.int .i64 n)), (15, .d (.int .i64 i))],
      [.dvec 1 ((mkR n (plusS A m i)).map rowW)]⟩) (fun i => i ≤ n) (fun i => n - i) 0 [0] (by simp) (by simp) (by
        simp only [State.can, AV.can, AV.canL, HO.can, canRows, idx, get_hit, get_next, Heap.at, Nat.reduceBEq, ↓reduceIte, Nat.reduceEqDiff, Option.getD_some, Option.map_some, List.map_cons, List.map_nil, List.getD_cons_zero, List.getD_cons_succ]
        rw [show mkR n (plusS A m 0) = mkR n (way (hasN A) m) from mkR_congr fun a b _ _ => by unfold plusS; rw [if_neg (by omega)]]
        rfl) (by omega) ?_
    intro i hi
    simp only [↓vck_skip, ↓vck_ret, ↓vck_exit, ↓vck_region, ↓vck_nilq, ↓nilTo_to, nilG_d, nilG_r, ↓vck_seq, ↓vck_cond, ↓vck_block, ↓vck_loop, ↓vckTo_to, ↓thenK_n, ↓thenK_x, ↓thenK_r, ↓blockK_n, ↓blockK_x, ↓blockK_o, ↓blockK_r, ↓regK_to, ↓retK_r, ↓retK_n, ↓loopV_n, ↓loopV_x, ↓loopV_r, ↓famK_n, ↓famK_x, ↓famK_r, ↓boolK_true, ↓boolK_false, ↓boolK_not, ↓boolK_dec, ↓boolK_and, nf_mk, RGk_end_f, RGk_end_t, RGk_op, RGk_guard, opK_to, evN, evCallN, grow_mk, feet_f, feet_t, foot_mk, stepK_mk, stepK_v, stepK_no, guardG_t, guardG_f, guardG_no, condG_b, evT, Opd.ev, get_hit, get_next, app_to, app_no, app_up, app_skip, app_skipn, know_mk, knowO_t, knowO_c, envFrom, reserve, keeps, LOp.isNew, State.prune, cellsQ, cellsT, AV.leaf, Heap.at, evLoad_ptr, evLoad_dptr, loadO_vec, loadO_dvec1, stepK_load_map, idx_I, idx_W, rowW, set_rowW, app_rowW, app_rowW0, rep_rowW0, rowB, set_rowB, rep_rowB, rowN, lens_W, lensA_W, scal_rowW, default_W, w_or, w_and, w_andNot, w_and1, w_shl, w_shl1, w_shr, w_sub1, w_neg, w_add, w_bit, w_eq0, w_eq1, w_eq, Bool.decide_eq_true, idx_Rat, idx_Loc, idx_Act, idx_Step, idx_Stamp, stepK_idx_ref, evStore_ptr, storeO_vec, stepK_store_map1, loadDT_f, rowI, RatG.row, LocG.row, ActG.row, StepG.row, StampG.row, ActG.av, ActG.eta, RatG.eta, LocG.eta, beq_true, beq_false, loadDT_t, set_rowI, app_rowI, rep_rowI, set_rowRat, app_rowRat, rep_rowRat, set_rowLoc, app_rowLoc, app_rowAct, app_rowStep, List.length_set, List.length_replicate, toNat_cast, Int.reduceToNat, evLen, evAppend, srcOf, Src.all, Src.len, Src.leaf, Src.leafN, evApart, aliveQ, joinV, drows_rep1, drows_rep2, drows_rep3, drows_rep4, drows_rep5, drows_rep6, drows_rep7, drows_rep8, mkVec, drows, evMk, List.length_map, take_mapF, drop_mapF, List.take_length, List.take_left, List.length_append, Nat.le_add_right, ite_self, List.take_of_length_le, evSlice, intOr, intOpd, Option.isSome_none, Option.isSome_some, Nat.sub_zero, loadQ, loadT, evBin, evUn, evIdxArr_d, evIdxArr_p, binT, binQ, chk, apartF, List.contains_cons, List.contains_nil, Bool.or_false, Bool.false_or, Bool.and_self, resQ, resV, resT, pickV, evCallT, evTake, evCall, fnOf, viewsT, isD, HO.drow, viewT, evInt2, evEq, eqV, eqK, eqC1, buildQ, buildT, buildRQ, buildRT, lens_I, lensA_I, lens_Rat, lensA_Rat, lens_Loc, lensA_Loc, lens_Act, lensA_Act, lens_Step, lensA_Step, lens_Stamp, lensA_Stamp, List.mem_cons, List.not_mem_nil, or_false, forall_eq, putRow, dcells, get_nil, RetS, RetF, RetD, AV.frz, AV.frzL, AV.freshP, AV.freshL, DV.less, scal_int, scal_bool, scal_nil, scal_rowI, scal_rowRat, scal_rowStep, Option.some.injEq, AV.tup.injEq, AV.agg.injEq, List.cons.injEq, DV.list.injEq, List.isEmpty_nil, Nat.le_refl, AV.d.injEq, DV.int.injEq, DV.bool.injEq, ↓reduceIte, Nat.reduceEqDiff, Nat.reduceAdd, Nat.reduceBEq, List.length_cons, List.length_nil, List.replicate_succ, List.replicate_zero, List.nil_append, List.cons_append, List.append_nil, List.foldl_cons, List.foldl_nil, List.map_cons, List.map_nil, List.all_cons, List.all_nil, List.set_cons_zero, List.set_cons_succ, List.getD_cons_zero, List.getD_cons_succ, List.drop_zero, List.drop_succ_cons, List.take_succ_cons, List.take_zero, List.flatten_cons, List.flatten_nil, Bool.true_and, Bool.and_true, Bool.not_true, Bool.not_false, true_and, and_true, true_or, or_true, Option.bind_some, Option.map_some, decide_true, decide_false, beq_self_eq_true, true_implies, false_implies, implies_true, not_true_eq_false, not_false_eq_true, and_self, Bool.and_false, Bool.false_and, Nat.reduceLT, Nat.reduceLeDiff, List.reverse_cons, List.reverse_nil, Nat.zero_add, Nat.add_zero, Bool.false_eq_true, List.getElem?_cons_zero, Nat.reduceMul, Nat.mul_one, F1, G1, hat, wrapU (k := m) (by omega)]
    rw [mkR_len]
    refine ⟨fun g => ?_, fun g => ?_⟩
    · have g' : i < n := by omega
      have bit : ((mkR n (plusS A m i)).getD i 0#64).getLsbD m = way (hasN A) m i m := by
        rw [mkR_get g']
        unfold plusS
        rw [if_neg (by omega)]
        simp only [decide_eq_true c', decide_eq_true (by omega : m < 64), Bool.true_and]
      rw [bit, wrap_succ g' (by unfold maxLen; omega)]
      refine ⟨by omega, by omega, by omega, fun hb => ⟨by omega, by omega, by omega, by omega, by omega, by omega, ?_⟩, fun hb => ?_⟩
      · refine FamNext.mk [0] (i + 1) (by simp) (by simp) ?_ (by show i + 1 ≤ n; omega) (by show n - (i + 1) < n - i; omega)
        rw [mkR_set (q := plusS A m (i + 1)) g']
        · simp only [State.can, AV.can, AV.canL, HO.can, canRows, idx, get_hit, get_next, Heap.at, Nat.reduceBEq, ↓reduceIte, Nat.reduceEqDiff, Option.getD_some, Option.map_some, List.map_cons, List.map_nil, List.getD_cons_zero, List.getD_cons_succ]
        · intro k hk
          rw [BitVec.getLsbD_or, mkR_get g', mkR_get c']
          by_cases hkn : k < n
          · simp only [hkn, hk, decide_true, Bool.true_and]
            have g1 : plusS A m i i k = way (hasN A) m i k := if_neg (by omega)
            have g2 : plusS A m (i + 1) i k = way (hasN A) (m + 1) i k := if_pos (by omega)
            have g3 : plusS A m i m k = way (hasN A) m m k := by
              unfold plusS
              split
              · simp only [way]; cases way (hasN A) m m k <;> simp
              · rfl
            rw [g1, g2, g3]
            simp only [way, hb, Bool.true_and]
          · simp [hkn]
        · intro a k ha hk hne
          unfold plusS
          by_cases e1 : a < i
          · rw [if_pos e1, if_pos (by omega)]
          · rw [if_neg e1, if_neg (by omega)]
      · refine FamNext.mk [0] (i + 1) (by simp) (by simp) ?_ (by show i + 1 ≤ n; omega) (by show n - (i + 1) < n - i; omega)
        rw [show mkR n (plusS A m (i + 1)) = mkR n (plusS A m i) from mkR_congr fun a b _ _ => by
          unfold plusS
          by_cases e1 : a < i
          · rw [if_pos e1, if_pos (by omega)]
          · by_cases e2 : a = i
            · subst e2
              rw [if_pos (by omega), if_neg (by omega)]
              simp only [way]
              have hb' : way (hasN A) m a m = false := by simpa using hb
              simp [hb']
            · rw [if_neg e1, if_neg (by omega)]]
        simp only [State.can, AV.can, AV.canL, HO.can, canRows, idx, get_hit, get_next, Heap.at, Nat.reduceBEq, ↓reduceIte, Nat.reduceEqDiff, Option.getD_some, Option.map_some, List.map_cons, List.map_nil, List.getD_cons_zero, List.getD_cons_succ]
    · have : i = n := by omega
      subst this
      rw [wrap_succ c' (by unfold maxLen; omega)]
      refine FamNext.mk [0] (m + 1) (by simp) (by simp) ?_ (by show m + 1 ≤ i; omega) (by show i - (m + 1) < i - m; omega)
      rw [show mkR i (plusS A m i) = mkR i (way (hasN A) (m + 1)) from mkR_congr fun a b ha _ => by unfold plusS; rw [if_pos ha]]
      simp only [State.can, AV.can, AV.canL, HO.can, canRows, idx, get_hit, get_next, Heap.at, Nat.reduceBEq, ↓reduceIte, Nat.reduceEqDiff, Option.getD_some, Option.map_some, List.map_cons, List.map_nil, List.getD_cons_zero, List.getD_cons_succ]
  · have : m = n := by omega
    subst this
    have : mkR m (way (hasN A) m) = plusG A := by unfold plusG; rw [hn]
    rw [this]
    exact .inl ⟨0, true, by simp [plusG, mkR_len, hn], rfl⟩
/-! Where no other function is laid: -/
def hs1 (n : Nat) : Nat → Option (W → W → W) := fun g => if g = n then some fstW else none
theorem bodyP_rel_lay {T : Tab} {n1 n2 n_rel_Plus_1 : Nat} (k1 : Knows T n1 sp_size) (k2 : Knows T n2 sp_row) (k3 : Knows T n_rel_Plus_1 (sp_h2 fstW)) : (sp_lay (hs1 n_rel_Plus_1)).Body T V_rel_lay (L_rel_lay n1 n2) R_rel_lay := by
  rintro ⟨A, e, B, f, g⟩
  simp only [sp_lay, hs1]
  split
  · rename_i h hh
    split at hh
    · rename_i e; cases hh; rw [e]; exact lay_body k1 k2 k3 A B _ f
    · cases hh
  · trivial
theorem bodyP_rel_Plus {T : Tab} {n1 n2 n_rel_Plus_1 : Nat} (k1 : Knows T n1 (sp_lay (hs1 n_rel_Plus_1))) (e1 : hs1 n_rel_Plus_1 n2 = some fstW) :
    sp_Plus.Body T V_rel_Plus (L_rel_Plus n1 n2) R_rel_Plus := plus_body k1 e1
end Go.Ago

/- Contracts of package rel: Star, Ring, Of, Order. Conditions: none. -/
set_option maxRecDepth 100000
set_option linter.unusedSimpArgs false
set_option linter.unusedVariables false
namespace Go.Ago

/-! ### Star, Ring -/
/-! ### Of pairs -/
def ofBad (n : Int) (p : RatG) : Bool := decide (p.num < 0) || decide (n ≤ p.num) || decide (p.den < 0) || decide (n ≤ p.den)
def ofErr (n : Int) (l : List RatG) : Int := if n < 0 ∨ 64 < n then 1 else if l.any (ofBad n) then 2 else 0
def ofP (l : List RatG) (i k : Nat) : Bool := l.any fun p => decide (p.num = i) && decide (p.den = k)
def ofG (n : Int) (l : List RatG) : List W := if ofErr n l = 0 then mkR n.toNat (ofP l) else []
def ofAV (n : Int) (l : List RatG) : AV := .tup [.d (.list ((ofG n l).map rowW) false), .d (.int .i64 (ofErr n l))]
def sp_Of : Sp := ⟨Int × List RatG × Bool, fun x => [.d (.int .i64 x.1), .d (.list (x.2.1.map RatG.row) x.2.2)], fun x => .data (x.2.1.length ≤ maxLen) (ofAV x.1 x.2.1) true⟩
theorem at_Of (n : Int) (l : List RatG) (f : Bool) : sp_Of.at [.d (.int .i64 n), .d (.list (l.map RatG.row) f)] = .data (l.length ≤ maxLen) (.tup [.d (.list ((ofG n l).map rowW) false), .d (.int .i64 (ofErr n l))]) true :=
  Sp.at_enc (s := sp_Of) (fun x y h => by
    obtain ⟨a, b, c⟩ := x; obtain ⟨a', b', c'⟩ := y
    simp only [sp_Of, List.cons.injEq, AV.d.injEq, DV.list.injEq, DV.int.injEq, and_true, true_and] at h
    rw [h.1, rows_inj RatG.row_inj h.2.1, h.2.2]) (n, l, f)
theorem any_take_succ {α : Type} {q : α → Bool} {l : List α} {i : Nat} {d : α} (h : i < l.length) : (l.take (i + 1)).any q = ((l.take i).any q || q (l.getD i d)) := by
  have e : l.take (i + 1) = l.take i ++ [l.getD i d] := by rw [List.take_add_one, List.getElem?_eq_getElem h, getD_lt h]; rfl
  rw [e, List.any_append, List.any_cons, List.any_nil, Bool.or_false]
theorem ofP_take {l : List RatG} {i a b : Nat} (h : i < l.length) : ofP (l.take (i + 1)) a b = (ofP (l.take i) a b || (decide ((l.getD i default).num = a) && decide ((l.getD i default).den = b))) := any_take_succ h
theorem body_rel_Of {T : Tab} : sp_Of.Body T V_rel_Of L_rel_Of R_rel_Of := by
  rintro ⟨n, l, f⟩ h1
  have h1 : l.length ≤ maxLen := h1
  refine .inr ⟨rfl, ?_⟩
  unfold V_rel_Of L_rel_Of R_rel_Of
  simp only [↓vck_skip, ↓vck_ret, ↓vck_exit, ↓vck_region, ↓vck_nilq, ↓nilTo_to, nilG_d, nilG_r, ↓vck_seq, ↓vck_cond, ↓vck_block, ↓vck_loop, ↓vckTo_to, ↓thenK_n, ↓thenK_x, ↓thenK_r, ↓blockK_n, ↓blockK_x, ↓blockK_o, ↓blockK_r, ↓regK_to, ↓retK_r, ↓retK_n, ↓loopV_n, ↓loopV_x, ↓loopV_r, ↓famK_n, ↓famK_x, ↓famK_r, ↓boolK_true, ↓boolK_false, ↓boolK_not, ↓boolK_dec, ↓boolK_and, nf_mk, RGk_end_f, RGk_end_t, RGk_op, RGk_guard, opK_to, evN, evCallN, grow_mk, feet_f, feet_t, foot_mk, stepK_mk, stepK_v, stepK_no, guardG_t, guardG_f, guardG_no, condG_b, evT, Opd.ev, get_hit, get_next, app_to, app_no, app_up, app_skip, app_skipn, know_mk, knowO_t, knowO_c, envFrom, reserve, keeps, LOp.isNew, State.prune, cellsQ, cellsT, AV.leaf, Heap.at, evLoad_ptr, evLoad_dptr, loadO_vec, loadO_dvec1, stepK_load_map, idx_I, idx_W, rowW, set_rowW, app_rowW, app_rowW0, rep_rowW0, rowB, set_rowB, rep_rowB, rowN, lens_W, lensA_W, scal_rowW, default_W, w_or, w_and, w_andNot, w_and1, w_shl, w_shl1, w_shr, w_sub1, w_neg, w_add, w_bit, w_eq0, w_eq1, w_eq, Bool.decide_eq_true, idx_Rat, idx_Loc, idx_Act, idx_Step, idx_Stamp, stepK_idx_ref, evStore_ptr, storeO_vec, stepK_store_map1, loadDT_f, rowI, RatG.row, LocG.row, ActG.row, StepG.row, StampG.row, ActG.av, ActG.eta, RatG.eta, LocG.eta, beq_true, beq_false, loadDT_t, set_rowI, app_rowI, rep_rowI, set_rowRat, app_rowRat, rep_rowRat, set_rowLoc, app_rowLoc, app_rowAct, app_rowStep, List.length_set, List.length_replicate, toNat_cast, Int.reduceToNat, evLen, evAppend, srcOf, Src.all, Src.len, Src.leaf, Src.leafN, evApart, aliveQ, joinV, drows_rep1, drows_rep2, drows_rep3, drows_rep4, drows_rep5, drows_rep6, drows_rep7, drows_rep8, mkVec, drows, evMk, List.length_map, take_mapF, drop_mapF, List.take_length, List.take_left, List.length_append, Nat.le_add_right, ite_self, List.take_of_length_le, evSlice, intOr, intOpd, Option.isSome_none, Option.isSome_some, Nat.sub_zero, loadQ, loadT, evBin, evUn, evIdxArr_d, evIdxArr_p, binT, binQ, chk, apartF, List.contains_cons, List.contains_nil, Bool.or_false, Bool.false_or, Bool.and_self, resQ, resV, resT, pickV, evCallT, evTake, evCall, fnOf, viewsT, isD, HO.drow, viewT, evInt2, evEq, eqV, eqK, eqC1, buildQ, buildT, buildRQ, buildRT, lens_I, lensA_I, lens_Rat, lensA_Rat, lens_Loc, lensA_Loc, lens_Act, lensA_Act, lens_Step, lensA_Step, lens_Stamp, lensA_Stamp, List.mem_cons, List.not_mem_nil, or_false, forall_eq, putRow, dcells, get_nil, RetS, RetF, RetD, AV.frz, AV.frzL, AV.freshP, AV.freshL, DV.less, scal_int, scal_bool, scal_nil, scal_rowI, scal_rowRat, scal_rowStep, Option.some.injEq, AV.tup.injEq, AV.agg.injEq, List.cons.injEq, DV.list.injEq, List.isEmpty_nil, Nat.le_refl, AV.d.injEq, DV.int.injEq, DV.bool.injEq, ↓reduceIte, Nat.reduceEqDiff, Nat.reduceAdd, Nat.reduceBEq, List.length_cons, List.length_nil, List.replicate_succ, List.replicate_zero, List.nil_append, List.cons_append, List.append_nil, List.foldl_cons, List.foldl_nil, List.map_cons, List.map_nil, List.all_cons, List.all_nil, List.set_cons_zero, List.set_cons_succ, List.getD_cons_zero, List.getD_cons_succ, List.drop_zero, List.drop_succ_cons, List.take_succ_cons, List.take_zero, List.flatten_cons, List.flatten_nil, Bool.true_and, Bool.and_true, Bool.not_true, Bool.not_false, true_and, and_true, true_or, or_true, Option.bind_some, Option.map_some, decide_true, decide_false, beq_self_eq_true, true_implies, false_implies, implies_true, not_true_eq_false, not_false_eq_true, and_self, Bool.and_false, Bool.false_and, Nat.reduceLT, Nat.reduceLeDiff, List.reverse_cons, List.reverse_nil, Nat.zero_add, Nat.add_zero, Bool.false_eq_true, List.getElem?_cons_zero, Nat.reduceMul, Nat.mul_one, sp_Of, ofAV]
  have bad : (n < 0 ∨ 64 < n) → ofErr n l = 1 ∧ ofG n l = [] := fun h => by
    have : ofErr n l = 1 := by unfold ofErr; rw [if_pos h]
    exact ⟨this, by unfold ofG; rw [this]; rfl⟩
  refine ⟨fun c => ?_, fun c => ⟨fun c2 => ?_, fun c2 => ?_⟩⟩
  · obtain ⟨e1, e2⟩ := bad (.inl c)
    rw [e1, e2]; simp
  · obtain ⟨e1, e2⟩ := bad (.inr c2)
    rw [e1, e2]; simp
  · obtain ⟨n, rfl⟩ := Int.eq_ofNat_of_zero_le (by omega : 0 ≤ n)
    simp only [↓vck_skip, ↓vck_ret, ↓vck_exit, ↓vck_region, ↓vck_nilq, ↓nilTo_to, nilG_d, nilG_r, ↓vck_seq, ↓vck_cond, ↓vck_block, ↓vck_loop, ↓vckTo_to, ↓thenK_n, ↓thenK_x, ↓thenK_r, ↓blockK_n, ↓blockK_x, ↓blockK_o, ↓blockK_r, ↓regK_to, ↓retK_r, ↓retK_n, ↓loopV_n, ↓loopV_x, ↓loopV_r, ↓famK_n, ↓famK_x, ↓famK_r, ↓boolK_true, ↓boolK_false, ↓boolK_not, ↓boolK_dec, ↓boolK_and, nf_mk, RGk_end_f, RGk_end_t, RGk_op, RGk_guard, opK_to, evN, evCallN, grow_mk, feet_f, feet_t, foot_mk, stepK_mk, stepK_v, stepK_no, guardG_t, guardG_f, guardG_no, condG_b, evT, Opd.ev, get_hit, get_next, app_to, app_no, app_up, app_skip, app_skipn, know_mk, knowO_t, knowO_c, envFrom, reserve, keeps, LOp.isNew, State.prune, cellsQ, cellsT, AV.leaf, Heap.at, evLoad_ptr, evLoad_dptr, loadO_vec, loadO_dvec1, stepK_load_map, idx_I, idx_W, rowW, set_rowW, app_rowW, app_rowW0, rep_rowW0, rowB, set_rowB, rep_rowB, rowN, lens_W, lensA_W, scal_rowW, default_W, w_or, w_and, w_andNot, w_and1, w_shl, w_shl1, w_shr, w_sub1, w_neg, w_add, w_bit, w_eq0, w_eq1, w_eq, Bool.decide_eq_true, idx_Rat, idx_Loc, idx_Act, idx_Step, idx_Stamp, stepK_idx_ref, evStore_ptr, storeO_vec, stepK_store_map1, loadDT_f, rowI, RatG.row, LocG.row, ActG.row, StepG.row, StampG.row, ActG.av, ActG.eta, RatG.eta, LocG.eta, beq_true, beq_false, loadDT_t, set_rowI, app_rowI, rep_rowI, set_rowRat, app_rowRat, rep_rowRat, set_rowLoc, app_rowLoc, app_rowAct, app_rowStep, List.length_set, List.length_replicate, toNat_cast, Int.reduceToNat, evLen, evAppend, srcOf, Src.all, Src.len, Src.leaf, Src.leafN, evApart, aliveQ, joinV, drows_rep1, drows_rep2, drows_rep3, drows_rep4, drows_rep5, drows_rep6, drows_rep7, drows_rep8, mkVec, drows, evMk, List.length_map, take_mapF, drop_mapF, List.take_length, List.take_left, List.length_append, Nat.le_add_right, ite_self, List.take_of_length_le, evSlice, intOr, intOpd, Option.isSome_none, Option.isSome_some, Nat.sub_zero, loadQ, loadT, evBin, evUn, evIdxArr_d, evIdxArr_p, binT, binQ, chk, apartF, List.contains_cons, List.contains_nil, Bool.or_false, Bool.false_or, Bool.and_self, resQ, resV, resT, pickV, evCallT, evTake, evCall, fnOf, viewsT, isD, HO.drow, viewT, evInt2, evEq, eqV, eqK, eqC1, buildQ, buildT, buildRQ, buildRT, lens_I, lensA_I, lens_Rat, lensA_Rat, lens_Loc, lensA_Loc, lens_Act, lensA_Act, lens_Step, lensA_Step, lens_Stamp, lensA_Stamp, List.mem_cons, List.not_mem_nil, or_false, forall_eq, putRow, dcells, get_nil, RetS, RetF, RetD, AV.frz, AV.frzL, AV.freshP, AV.freshL, DV.less, scal_int, scal_bool, scal_nil, scal_rowI, scal_rowRat, scal_rowStep, Option.some.injEq, AV.tup.injEq, AV.agg.injEq, List.cons.injEq, DV.list.injEq, List.isEmpty_nil, Nat.le_refl, AV.d.injEq, DV.int.injEq, DV.bool.injEq, ↓reduceIte, Nat.reduceEqDiff, Nat.reduceAdd, Nat.reduceBEq, List.length_cons, List.length_nil, List.replicate_succ, List.replicate_zero, List.nil_append, List.cons_append, List.append_nil, List.foldl_cons, List.foldl_nil, List.map_cons, List.map_nil, List.all_cons, List.all_nil, List.set_cons_zero, List.set_cons_succ, List.getD_cons_zero, List.getD_cons_succ, List.drop_zero, List.drop_succ_cons, List.take_succ_cons, List.take_zero, List.flatten_cons, List.flatten_nil, Bool.true_and, Bool.and_true, Bool.not_true, Bool.not_false, true_and, and_true, true_or, or_true, Option.bind_some, Option.map_some, decide_true, decide_false, beq_self_eq_true, true_implies, false_implies, implies_true, not_true_eq_false, not_false_eq_true, and_self, Bool.and_false, Bool.false_and, Nat.reduceLT, Nat.reduceLeDiff, List.reverse_cons, List.reverse_nil, Nat.zero_add, Nat.add_zero, Bool.false_eq_true, List.getElem?_cons_zero, Nat.reduceMul, Nat.mul_one]
    refine ⟨⟨by omega, by omega, roomy_of (by omega) (by omega)⟩, ?_⟩
    have notbad : ofErr n l = if l.any (ofBad n) then 2 else 0 := by unfold ofErr; rw [if_neg (by omega)]
    refine Loop.fam [0, 6, 17, 18, 19] (fun i : Nat => ⟨[(0, .d (.int .i64 n)), (6, .ref 0 1 0 n true), (17, .d (.list (l.map RatG.row) f)), (18, .d (.int .i64 l.length)), (19, .d (.int .i64 i))],
        [.dvec 1 ((mkR n (ofP (l.take i))).map rowW)]⟩) (fun i => i ≤ l.length ∧ (l.take i).any (ofBad n) = false) (fun i => l.length - i) 0 [0] (by simp) (by simp) (by
          simp only [State.can, AV.can, AV.canL, HO.can, canRows, idx, get_hit, get_next, Heap.at, Nat.reduceBEq, ↓reduceIte, Nat.reduceEqDiff, Option.getD_some, Option.map_some, List.map_cons, List.map_nil, List.getD_cons_zero, List.getD_cons_succ]
          rw [mkR_zero (p := ofP (l.take 0)) (fun i k _ _ => by simp [ofP])]; rfl) ⟨by omega, by simp⟩ ?_
    rintro i ⟨hi, hb⟩
    simp only [↓vck_skip, ↓vck_ret, ↓vck_exit, ↓vck_region, ↓vck_nilq, ↓nilTo_to, nilG_d, nilG_r, ↓vck_seq, ↓vck_cond, ↓vck_block, ↓vck_loop, ↓vckTo_to, ↓thenK_n, ↓thenK_x, ↓thenK_r, ↓blockK_n, ↓blockK_x, ↓blockK_o, ↓blockK_r, ↓regK_to, ↓retK_r, ↓retK_n, ↓loopV_n, ↓loopV_x, ↓loopV_r, ↓famK_n, ↓famK_x, ↓famK_r, ↓boolK_true, ↓boolK_false, ↓boolK_not, ↓boolK_dec, ↓boolK_and, nf_mk, RGk_end_f, RGk_end_t, RGk_op, RGk_guard, opK_to, evN, evCallN, grow_mk, feet_f, feet_t, foot_mk, stepK_mk, stepK_v, stepK_no, guardG_t, guardG_f, guardG_no, condG_b, evT, Opd.ev, get_hit, get_next, app_to, app_no, app_up, app_skip, app_skipn, know_mk, knowO_t, knowO_c, envFrom, reserve, keeps, LOp.isNew, State.prune, cellsQ, cellsT, AV.leaf, Heap.at, evLoad_ptr, evLoad_dptr, loadO_vec, loadO_dvec1, stepK_load_map, idx_I, idx_W, rowW, set_rowW, app_rowW, app_rowW0, rep_rowW0, rowB, set_rowB, rep_rowB, rowN, lens_W, lensA_W, scal_rowW, default_W, w_or, w_and, w_andNot, w_and1, w_shl, w_shl1, w_shr, w_sub1, w_neg, w_add, w_bit, w_eq0, w_eq1, w_eq, Bool.decide_eq_true, idx_Rat, idx_Loc, idx_Act, idx_Step, idx_Stamp, stepK_idx_ref, evStore_ptr, storeO_vec, stepK_store_map1, loadDT_f, rowI, RatG.row, LocG.row, ActG.row, StepG.row, StampG.row, ActG.av, ActG.eta, RatG.eta, LocG.eta, beq_true, beq_false, loadDT_t, set_rowI, app_rowI, rep_rowI, set_rowRat, app_rowRat, rep_rowRat, set_rowLoc, app_rowLoc, app_rowAct, app_rowStep, List.length_set, List.length_replicate, toNat_cast, Int.reduceToNat, evLen, evAppend, srcOf, Src.all, Src.len, Src.leaf, Src.leafN, evApart, aliveQ, joinV, drows_rep1, drows_rep2, drows_rep3, drows_rep4, drows_rep5, drows_rep6, drows_rep7, drows_rep8, mkVec, drows, evMk, List.length_map, take_mapF, drop_mapF, List.take_length, List.take_left, List.length_append, Nat.le_add_right, ite_self, List.take_of_length_le, evSlice, intOr, intOpd, Option.isSome_none, Option.isSome_some, Nat.sub_zero, loadQ, loadT, evBin, evUn, evIdxArr_d, evIdxArr_p, binT, binQ, chk, apartF, List.contains_cons, List.contains_nil, Bool.or_false, Bool.false_or, Bool.and_self, resQ, resV, resT, pickV, evCallT, evTake, evCall, fnOf, viewsT, isD, HO.drow, viewT, evInt2, evEq, eqV, eqK, eqC1, buildQ, buildT, buildRQ, buildRT, lens_I, lensA_I, lens_Rat, lensA_Rat, lens_Loc, lensA_Loc, lens_Act, lensA_Act, lens_Step, lensA_Step, lens_Stamp, lensA_Stamp, List.mem_cons, List.not_mem_nil, or_false, forall_eq, putRow, dcells, get_nil, RetS, RetF, RetD, AV.frz, AV.frzL, AV.freshP, AV.freshL, DV.less, scal_int, scal_bool, scal_nil, scal_rowI, scal_rowRat, scal_rowStep, Option.some.injEq, AV.tup.injEq, AV.agg.injEq, List.cons.injEq, DV.list.injEq, List.isEmpty_nil, Nat.le_refl, AV.d.injEq, DV.int.injEq, DV.bool.injEq, ↓reduceIte, Nat.reduceEqDiff, Nat.reduceAdd, Nat.reduceBEq, List.length_cons, List.length_nil, List.replicate_succ, List.replicate_zero, List.nil_append, List.cons_append, List.append_nil, List.foldl_cons, List.foldl_nil, List.map_cons, List.map_nil, List.all_cons, List.all_nil, List.set_cons_zero, List.set_cons_succ, List.getD_cons_zero, List.getD_cons_succ, List.drop_zero, List.drop_succ_cons, List.take_succ_cons, List.take_zero, List.flatten_cons, List.flatten_nil, Bool.true_and, Bool.and_true, Bool.not_true, Bool.not_false, true_and, and_true, true_or, or_true, Option.bind_some, Option.map_some, decide_true, decide_false, beq_self_eq_true, true_implies, false_implies, implies_true, not_true_eq_false, not_false_eq_true, and_self, Bool.and_false, Bool.false_and, Nat.reduceLT, Nat.reduceLeDiff, List.reverse_cons, List.reverse_nil, Nat.zero_add, Nat.add_zero, Bool.false_eq_true, List.getElem?_cons_zero, Nat.reduceMul, Nat.mul_one]
    refine ⟨fun g => ?_, fun g => ?_⟩
    · have g' : i < l.length := by omega
      have e1 := any_take_succ (q := ofBad n) (d := default) g'
      have e2 : ∀ a b, _ := fun a b => ofP_take (a := a) (b := b) g'
      have out : ofBad n (l.getD i default) = true → ofErr n l = 2 ∧ ofG n l = [] := fun h => by
        have h2 : l.any (ofBad n) = true := by
          rw [List.any_eq_true]
          refine ⟨l.getD i default, ?_, h⟩
          rw [getD_lt g']; exact List.getElem_mem g'
        have : ofErr n l = 2 := by rw [notbad, if_pos h2]
        exact ⟨this, by unfold ofG; rw [this]; rfl⟩
      generalize l.getD i default = x at *
      simp only [wrap_succ g' h1]
      have isbad : ∀ q : ofBad n x = true, ([] : List (List DV)) = List.map rowW (ofG n l) ∧ (2 : Int) = ofErr n l := fun q => by
        obtain ⟨o1, o2⟩ := out q
        rw [o1, o2]; simp
      refine ⟨by omega, by omega, fun b1 => isbad (by simp [ofBad, b1]), fun b1 => ⟨by omega, fun b2 => isbad (by simp [ofBad, b2]), fun b2 => ⟨by omega, fun b3 => isbad (by simp [ofBad, b3]), fun b3 => ⟨by omega, fun b4 => isbad (by simp [ofBad, b4]), fun b4 => ?_⟩⟩⟩⟩
      have nb : ofBad n x = false := by simp [ofBad]; omega
      obtain ⟨a, ha⟩ := Int.eq_ofNat_of_zero_le (by omega : 0 ≤ x.num)
      obtain ⟨b, hb2⟩ := Int.eq_ofNat_of_zero_le (by omega : 0 ≤ x.den)
      simp only [ha, hb2] at e2 b2 b4 ⊢
      simp only [wrapU (k := b) (by omega), toNat_cast, w_shl1, w_or]
      rw [mkR_len]
      refine ⟨by omega, by omega, by omega, by omega, by omega, by omega, by omega, ?_⟩
      have han : a < n := by omega
      refine FamNext.mk [0] (i + 1) (by simp) (by simp) ?_ ⟨by omega, by rw [e1, hb, nb]; rfl⟩ (by omega)
      rw [mkR_set (q := ofP (l.take (i + 1))) han]
      · simp only [State.can, AV.can, AV.canL, HO.can, canRows, idx, get_hit, get_next, Heap.at, Nat.reduceBEq, ↓reduceIte, Nat.reduceEqDiff, Option.getD_some, Option.map_some, List.map_cons, List.map_nil, List.getD_cons_zero, List.getD_cons_succ]
      · intro k hk
        rw [BitVec.getLsbD_or, mkR_get han, one_shl (by omega), e2]
        by_cases hkn : k < n
        · by_cases e3 : b = k
          · subst e3; simp [hkn, hk]
          · have : ¬ (b : Int) = k := by omega
            simp [hkn, hk, e3, this]
        · have : ¬ b = k := by omega
          simp [hkn, this]
      · intro a' k ha' hk hne
        rw [e2]
        have : ¬ (a : Int) = a' := by omega
        simp [this]
    · have : i = l.length := by omega
      subst this
      rw [List.take_length] at hb ⊢
      have e1 : ofErr n l = 0 := by rw [notbad, hb]; rfl
      have e2 : ofG n l = mkR n (ofP l) := by unfold ofG; rw [e1, if_pos rfl]; rfl
      rw [e1, e2]
      simp [mkR_len, List.take_of_length_le]

/-! ### Order -/
end Go.Ago

/- Package race: runs that are played, and their order. Conditions: none. -/
set_option maxRecDepth 100000
set_option linter.unusedSimpArgs false
set_option linter.unusedVariables false
namespace Go.Ago
/-! ### plain, atomic -/
def sp_rplain : Sp := ⟨ActG, fun a => [a.av], fun a => .data True (.d (.bool (isPl a.kind))) true⟩
theorem at_rplain (k o q v : Int) : sp_rplain.at [.agg [.d (.int .i64 k), .d (.int .i64 o), .d (.int .i64 q), .d (.int .i64 v)]] = .data True (.d (.bool (isPl k))) true :=
  Sp.at_enc (s := sp_rplain) (fun x y h => by
    obtain ⟨k, o, q, v⟩ := x; obtain ⟨k', o', q', v'⟩ := y
    simp only [sp_rplain, ActG.av, List.cons.injEq, AV.agg.injEq, AV.d.injEq, DV.int.injEq, and_true, true_and] at h
    obtain ⟨h1, h2, h3, h4⟩ := h
    rw [h1, h2, h3, h4]) ⟨k, o, q, v⟩
theorem body_race_plain {T : Tab} : sp_rplain.Body T V_race_plain L_race_plain R_race_plain := by
  rintro ⟨k, o, q, v⟩ -
  refine .inl ⟨rfl, ?_⟩
  unfold V_race_plain L_race_plain R_race_plain
  simp (maxSteps := 3000000) only [↓vck_skip, ↓vck_ret, ↓vck_exit, ↓vck_region, ↓vck_nilq, ↓nilTo_to, nilG_d, nilG_r, ↓vck_seq, ↓vck_cond, ↓vck_block, ↓vck_loop, ↓vckTo_to, ↓thenK_n, ↓thenK_x, ↓thenK_r, ↓blockK_n, ↓blockK_x, ↓blockK_o, ↓blockK_r, ↓regK_to, ↓retK_r, ↓retK_n, ↓loopV_n, ↓loopV_x, ↓loopV_r, ↓famK_n, ↓famK_x, ↓famK_r, ↓boolK_true, ↓boolK_false, ↓boolK_not, ↓boolK_dec, ↓boolK_and, nf_mk, RGk_end_f, RGk_end_t, RGk_op, RGk_guard, opK_to, evN, evCallN, grow_mk, feet_f, feet_t, foot_mk, stepK_mk, stepK_v, stepK_no, guardG_t, guardG_f, guardG_no, condG_b, evT, Opd.ev, get_hit, get_next, app_to, app_no, app_up, app_skip, app_skipn, know_mk, knowO_t, knowO_c, envFrom, reserve, keeps, LOp.isNew, State.prune, cellsQ, cellsT, AV.leaf, Heap.at, evLoad_ptr, evLoad_dptr, loadO_vec, loadO_dvec1, stepK_load_map, idx_I, idx_U, idx_Rat, idx_Loc, idx_Act, idx_Step, idx_Stamp, stepK_idx_ref, evStore_ptr, storeO_vec, stepK_store_map1, loadDT_f, rowI, rowU, RatG.row, LocG.row, ActG.row, StepG.row, StampG.row, ActG.av, ActG.eta, RatG.eta, LocG.eta, beq_true, beq_false, loadDT_t, set_rowI, set_rowU, app_rowI, app_rowU, rep_rowI, rep_rowU, set_rowRat, app_rowRat, rep_rowRat, set_rowLoc, app_rowLoc, app_rowAct, app_rowStep, List.length_set, List.length_replicate, Int.toNat_natCast, Int.reduceToNat, evLen, evAppend, srcOf, Src.all, Src.len, Src.leaf, Src.leafN, evApart, aliveQ, joinV, drows_rep1, drows_rep2, drows_rep3, drows_rep4, drows_rep5, drows_rep6, drows_rep7, drows_rep8, mkVec, drows, evMk, List.length_map, take_mapF, drop_mapF, List.take_length, List.take_left, List.length_append, Nat.le_add_right, ite_self, List.take_of_length_le, evSlice, intOr, intOpd, Option.isSome_none, Option.isSome_some, Nat.sub_zero, loadQ, loadT, evBin, evUn, binT, binQ, chk, apartF, List.contains_cons, List.contains_nil, Bool.or_false, Bool.false_or, Bool.and_self, resQ, resV, resT, pickV, evCallT, evTake, evCall, fnOf, viewsT, isD, HO.drow, viewT, evInt2, evEq, eqV, eqK, eqC1, buildQ, buildT, buildRQ, buildRT, lens_I, lensA_I, lens_U, lensA_U, lens_Rat, lensA_Rat, lens_Loc, lensA_Loc, lens_Act, lensA_Act, lens_Step, lensA_Step, lens_Stamp, lensA_Stamp, List.mem_cons, List.not_mem_nil, or_false, forall_eq, putRow, dcells, get_nil, RetS, RetF, RetD, AV.frz, AV.frzL, AV.freshP, AV.freshL, DV.less, scal_int, scal_bool, scal_nil, scal_rowI, scal_rowU, scal_rowRat, scal_rowStep, Option.some.injEq, AV.tup.injEq, AV.agg.injEq, List.cons.injEq, DV.list.injEq, List.isEmpty_nil, Nat.le_refl, AV.d.injEq, DV.int.injEq, DV.bool.injEq, ↓reduceIte, Nat.reduceEqDiff, Nat.reduceAdd, Nat.reduceBEq, List.length_cons, List.length_nil, List.replicate_succ, List.replicate_zero, List.nil_append, List.cons_append, List.append_nil, List.foldl_cons, List.foldl_nil, List.map_cons, List.map_nil, List.all_cons, List.all_nil, List.set_cons_zero, List.set_cons_succ, List.getD_cons_zero, List.getD_cons_succ, List.drop_zero, List.drop_succ_cons, List.take_succ_cons, List.take_zero, List.flatten_cons, List.flatten_nil, Bool.true_and, Bool.and_true, Bool.not_true, Bool.not_false, true_and, and_true, true_or, or_true, Option.bind_some, Option.map_some, decide_true, decide_false, beq_self_eq_true, true_implies, false_implies, implies_true, not_true_eq_false, not_false_eq_true, and_self, Bool.and_false, Bool.false_and, Nat.reduceLT, Nat.reduceLeDiff, List.reverse_cons, List.reverse_nil, Nat.zero_add, Nat.add_zero, Bool.false_eq_true, List.getElem?_cons_zero, sp_rplain, ActG.av, loadO_vec]
  refine ⟨fun h => ?_, fun h => ?_⟩
  · rw [isPl_iff.2 (.inl h)]
  · unfold isPl; rw [decide_eq_false h]; rfl
def isSet (k : Int) : Bool := decide (k = 4) || decide (k = 5)
def sp_ratomic : Sp := ⟨ActG, fun a => [a.av], fun a => .data True (.tup [.d (.bool (isAt a.kind)), .d (.bool (isSet a.kind))]) true⟩
theorem at_ratomic (k o q v : Int) : sp_ratomic.at [.agg [.d (.int .i64 k), .d (.int .i64 o), .d (.int .i64 q), .d (.int .i64 v)]] = .data True (.tup [.d (.bool (isAt k)), .d (.bool (isSet k))]) true :=
  Sp.at_enc (s := sp_ratomic) (fun x y h => by
    obtain ⟨k, o, q, v⟩ := x; obtain ⟨k', o', q', v'⟩ := y
    simp only [sp_ratomic, ActG.av, List.cons.injEq, AV.agg.injEq, AV.d.injEq, DV.int.injEq, and_true, true_and] at h
    obtain ⟨h1, h2, h3, h4⟩ := h
    rw [h1, h2, h3, h4]) ⟨k, o, q, v⟩
theorem body_race_atomic {T : Tab} : sp_ratomic.Body T V_race_atomic L_race_atomic R_race_atomic := by
  rintro ⟨k, o, q, v⟩ -
  refine .inl ⟨rfl, ?_⟩
  unfold V_race_atomic L_race_atomic R_race_atomic
  simp (maxSteps := 3000000) only [↓vck_skip, ↓vck_ret, ↓vck_exit, ↓vck_region, ↓vck_nilq, ↓nilTo_to, nilG_d, nilG_r, ↓vck_seq, ↓vck_cond, ↓vck_block, ↓vck_loop, ↓vckTo_to, ↓thenK_n, ↓thenK_x, ↓thenK_r, ↓blockK_n, ↓blockK_x, ↓blockK_o, ↓blockK_r, ↓regK_to, ↓retK_r, ↓retK_n, ↓loopV_n, ↓loopV_x, ↓loopV_r, ↓famK_n, ↓famK_x, ↓famK_r, ↓boolK_true, ↓boolK_false, ↓boolK_not, ↓boolK_dec, ↓boolK_and, nf_mk, RGk_end_f, RGk_end_t, RGk_op, RGk_guard, opK_to, evN, evCallN, grow_mk, feet_f, feet_t, foot_mk, stepK_mk, stepK_v, stepK_no, guardG_t, guardG_f, guardG_no, condG_b, evT, Opd.ev, get_hit, get_next, app_to, app_no, app_up, app_skip, app_skipn, know_mk, knowO_t, knowO_c, envFrom, reserve, keeps, LOp.isNew, State.prune, cellsQ, cellsT, AV.leaf, Heap.at, evLoad_ptr, evLoad_dptr, loadO_vec, loadO_dvec1, stepK_load_map, idx_I, idx_U, idx_Rat, idx_Loc, idx_Act, idx_Step, idx_Stamp, stepK_idx_ref, evStore_ptr, storeO_vec, stepK_store_map1, loadDT_f, rowI, rowU, RatG.row, LocG.row, ActG.row, StepG.row, StampG.row, ActG.av, ActG.eta, RatG.eta, LocG.eta, beq_true, beq_false, loadDT_t, set_rowI, set_rowU, app_rowI, app_rowU, rep_rowI, rep_rowU, set_rowRat, app_rowRat, rep_rowRat, set_rowLoc, app_rowLoc, app_rowAct, app_rowStep, List.length_set, List.length_replicate, Int.toNat_natCast, Int.reduceToNat, evLen, evAppend, srcOf, Src.all, Src.len, Src.leaf, Src.leafN, evApart, aliveQ, joinV, drows_rep1, drows_rep2, drows_rep3, drows_rep4, drows_rep5, drows_rep6, drows_rep7, drows_rep8, mkVec, drows, evMk, List.length_map, take_mapF, drop_mapF, List.take_length, List.take_left, List.length_append, Nat.le_add_right, ite_self, List.take_of_length_le, evSlice, intOr, intOpd, Option.isSome_none, Option.isSome_some, Nat.sub_zero, loadQ, loadT, evBin, evUn, binT, binQ, chk, apartF, List.contains_cons, List.contains_nil, Bool.or_false, Bool.false_or, Bool.and_self, resQ, resV, resT, pickV, evCallT, evTake, evCall, fnOf, viewsT, isD, HO.drow, viewT, evInt2, evEq, eqV, eqK, eqC1, buildQ, buildT, buildRQ, buildRT, lens_I, lensA_I, lens_U, lensA_U, lens_Rat, lensA_Rat, lens_Loc, lensA_Loc, lens_Act, lensA_Act, lens_Step, lensA_Step, lens_Stamp, lensA_Stamp, List.mem_cons, List.not_mem_nil, or_false, forall_eq, putRow, dcells, get_nil, RetS, RetF, RetD, AV.frz, AV.frzL, AV.freshP, AV.freshL, DV.less, scal_int, scal_bool, scal_nil, scal_rowI, scal_rowU, scal_rowRat, scal_rowStep, Option.some.injEq, AV.tup.injEq, AV.agg.injEq, List.cons.injEq, DV.list.injEq, List.isEmpty_nil, Nat.le_refl, AV.d.injEq, DV.int.injEq, DV.bool.injEq, ↓reduceIte, Nat.reduceEqDiff, Nat.reduceAdd, Nat.reduceBEq, List.length_cons, List.length_nil, List.replicate_succ, List.replicate_zero, List.nil_append, List.cons_append, List.append_nil, List.foldl_cons, List.foldl_nil, List.map_cons, List.map_nil, List.all_cons, List.all_nil, List.set_cons_zero, List.set_cons_succ, List.getD_cons_zero, List.getD_cons_succ, List.drop_zero, List.drop_succ_cons, List.take_succ_cons, List.take_zero, List.flatten_cons, List.flatten_nil, Bool.true_and, Bool.and_true, Bool.not_true, Bool.not_false, true_and, and_true, true_or, or_true, Option.bind_some, Option.map_some, decide_true, decide_false, beq_self_eq_true, true_implies, false_implies, implies_true, not_true_eq_false, not_false_eq_true, and_self, Bool.and_false, Bool.false_and, Nat.reduceLT, Nat.reduceLeDiff, List.reverse_cons, List.reverse_nil, Nat.zero_add, Nat.add_zero, Bool.false_eq_true, List.getElem?_cons_zero, sp_ratomic, ActG.av, loadO_vec]
  unfold isAt isSet
  refine ⟨fun h => ⟨fun h2 => absurd h2 (by omega), fun h2 => ⟨?_, ?_⟩⟩, fun h => ⟨fun h2 => ⟨fun _ => ⟨?_, ?_⟩, fun h3 => absurd h2 h3⟩, fun h2 => ⟨fun h3 => absurd h3 h2, fun _ => ⟨?_, ?_⟩⟩⟩⟩
  all_goals simp [h, h2]
/-! ### played -/
def rowMem (m : MemG) : List DV := [.list (m.locs.map LocG.row) m.lf, .list (m.past.map rowStamps) m.pf, .list (m.vals.map rowI) m.vf, .list (m.marks.map rowRats) m.mf, .list (m.fronts.map rowRats) m.ff]
/-- The error of a run: of the first step that isn't taken. -/
def firstBad (m : MemG) : List StepG → Int
  | [] => 0
  | s :: r => if doErr m.plain s = 0 then firstBad (stepM m s) r else doErr m.plain s
def playErr (l : List LocG) (t : Int) (ss : List StepG) : Int := if 64 < ss.length then 15 else if newErr l t = 0 then firstBad (newM l t) ss else newErr l t
def mems (m : MemG) (ss : List StepG) (n : Nat) : List MemG := (List.range n).map fun j => goM m ss j
def playL (l : List LocG) (t : Int) (ss : List StepG) : List MemG := if playErr l t ss = 0 then mems (newM l t) ss ss.length else []
theorem firstBad_go {m : MemG} {ss : List StepG} : ∀ {n}, n ≤ ss.length → (∀ j, j < n → doErr (goM m ss j).plain (ss.getD j default) = 0) → firstBad m ss = firstBad (goM m ss n) (ss.drop n) := by
  intro n
  induction n with
  | zero => intro _ _; rfl
  | succ n ih =>
    intro hn h
    rw [ih (by omega) (fun j hj => h j (by omega)), goM_succ m (by omega), List.drop_eq_getElem_cons (by omega : n < ss.length)]
    have e := h n (by omega)
    rw [getD_lt (by omega)] at e ⊢
    simp only [firstBad]
    rw [if_pos e]
theorem firstBad_ok {m : MemG} {ss : List StepG} (h : ∀ j, j < ss.length → doErr (goM m ss j).plain (ss.getD j default) = 0) : firstBad m ss = 0 := by
  rw [firstBad_go (Nat.le_refl _) h, List.drop_length]; rfl
theorem firstBad_at {m : MemG} {ss : List StepG} {n : Nat} (hn : n < ss.length) (h : ∀ j, j < n → doErr (goM m ss j).plain (ss.getD j default) = 0) (hb : doErr (goM m ss n).plain (ss.getD n default) ≠ 0) : firstBad m ss = doErr (goM m ss n).plain (ss.getD n default) := by
  rw [firstBad_go (Nat.le_of_lt hn) h, List.drop_eq_getElem_cons hn]
  rw [getD_lt hn] at hb ⊢
  simp only [firstBad]
  rw [if_neg hb]
theorem mems_succ (m : MemG) (ss : List StepG) (n : Nat) : mems m ss (n + 1) = mems m ss n ++ [goM m ss n] := by unfold mems; rw [List.range_succ, List.map_append]; rfl
theorem mems_len (m : MemG) (ss : List StepG) (n : Nat) : (mems m ss n).length = n := by unfold mems; simp
def sp_played : Sp := ⟨List LocG × Bool × Int × List StepG × Bool, fun x => [.d (.list (x.1.map LocG.row) x.2.1), .d (.int .i64 x.2.2.1), .d (.list (x.2.2.2.1.map StepG.row) x.2.2.2.2)],
  fun x => .data (x.1.length ≤ maxLen ∧ x.2.2.2.1.length ≤ maxLen) (.tup [.d (.list ((playL x.1 x.2.2.1 x.2.2.2.1).map rowMem) false), .d (.int .i64 (playErr x.1 x.2.2.1 x.2.2.2.1))]) false⟩
theorem at_played (l : List LocG) (f : Bool) (t : Int) (ss : List StepG) (g : Bool) : sp_played.at [.d (.list (l.map LocG.row) f), .d (.int .i64 t), .d (.list (ss.map StepG.row) g)] =
    .data (l.length ≤ maxLen ∧ ss.length ≤ maxLen) (.tup [.d (.list ((playL l t ss).map rowMem) false), .d (.int .i64 (playErr l t ss))]) false :=
  Sp.at_enc (s := sp_played) (fun x y h => by
    obtain ⟨l, f, t, ss, g⟩ := x; obtain ⟨l', f', t', ss', g'⟩ := y
    simp only [sp_played, List.cons.injEq, AV.d.injEq, DV.list.injEq, DV.int.injEq, and_true, true_and] at h
    obtain ⟨⟨h1, h2⟩, h3, h4, h5⟩ := h
    rw [rows_inj LocG.row_inj h1, h2, h3, rows_inj StepG.row_inj h4, h5]) (l, f, t, ss, g)
def playSt (M : MemG) (ss : List StepG) (g : Bool) : Nat → State
  | 0 => ⟨[(8, .ptr 0 5 0 0), (10, .d (.list [] true)), (25, .d (.list (ss.map StepG.row) g)), (26, .d (.int .i64 ss.length)), (27, .d (.int .i64 0))], [.vec 5 [M.row]]⟩
  | i + 1 => ⟨[(8, .ptr 0 5 0 0), (10, .ref 1 5 0 (i + 1) true), (25, .d (.list (ss.map StepG.row) g)), (26, .d (.int .i64 ss.length)), (27, .d (.int .i64 ((i + 1 : Nat) : Int)))], [.vec 5 [(goM M ss (i + 1)).row], .dvec 5 ((mems M ss (i + 1)).map rowMem)]⟩
set_option maxHeartbeats 4000000 in
theorem body_race_played {T : Tab} {n1 n2 : Nat} (k1 : Knows T n1 sp_New) (k2 : Knows T n2 sp_Do) : sp_played.Body T V_race_played (L_race_played n1 n2) R_race_played := by
  have F1 := k1.F; have G1 := k1.G; have F2 := k2.F; have G2 := k2.G
  rintro ⟨l, f, t, ss, g⟩ ⟨hl, hs⟩
  have hl : l.length ≤ maxLen := hl
  have hs : ss.length ≤ maxLen := hs
  refine ⟨rfl, ?_⟩
  unfold V_race_played L_race_played R_race_played
  simp (maxSteps := 3000000) only [↓vck_skip, ↓vck_ret, ↓vck_exit, ↓vck_region, ↓vck_nilq, ↓nilTo_to, nilG_d, nilG_r, ↓vck_seq, ↓vck_cond, ↓vck_block, ↓vck_loop, ↓vckTo_to, ↓thenK_n, ↓thenK_x, ↓thenK_r, ↓blockK_n, ↓blockK_x, ↓blockK_o, ↓blockK_r, ↓regK_to, ↓retK_r, ↓retK_n, ↓loopV_n, ↓loopV_x, ↓loopV_r, ↓famK_n, ↓famK_x, ↓famK_r, ↓boolK_true, ↓boolK_false, ↓boolK_not, ↓boolK_dec, ↓boolK_and, nf_mk, RGk_end_f, RGk_end_t, RGk_op, RGk_guard, opK_to, evN, evCallN, grow_mk, feet_f, feet_t, foot_mk, stepK_mk, stepK_v, stepK_no, guardG_t, guardG_f, guardG_no, condG_b, evT, Opd.ev, get_hit, get_next, app_to, app_no, app_up, app_skip, app_skipn, know_mk, knowO_t, knowO_c, envFrom, reserve, keeps, LOp.isNew, State.prune, cellsQ, cellsT, AV.leaf, Heap.at, evLoad_ptr, evLoad_dptr, loadO_vec, loadO_dvec1, stepK_load_map, idx_I, idx_U, idx_Rat, idx_Loc, idx_Act, idx_Step, idx_Stamp, stepK_idx_ref, evStore_ptr, storeO_vec, stepK_store_map1, loadDT_f, rowI, rowU, RatG.row, LocG.row, ActG.row, StepG.row, StampG.row, ActG.av, ActG.eta, RatG.eta, LocG.eta, beq_true, beq_false, loadDT_t, set_rowI, set_rowU, app_rowI, app_rowU, rep_rowI, rep_rowU, set_rowRat, app_rowRat, rep_rowRat, set_rowLoc, app_rowLoc, app_rowAct, app_rowStep, List.length_set, List.length_replicate, Int.toNat_natCast, Int.reduceToNat, evLen, evAppend, srcOf, Src.all, Src.len, Src.leaf, Src.leafN, evApart, aliveQ, joinV, drows_rep1, drows_rep2, drows_rep3, drows_rep4, drows_rep5, drows_rep6, drows_rep7, drows_rep8, mkVec, drows, evMk, List.length_map, take_mapF, drop_mapF, List.take_length, List.take_left, List.length_append, Nat.le_add_right, ite_self, List.take_of_length_le, evSlice, intOr, intOpd, Option.isSome_none, Option.isSome_some, Nat.sub_zero, loadQ, loadT, evBin, evUn, binT, binQ, chk, apartF, List.contains_cons, List.contains_nil, Bool.or_false, Bool.false_or, Bool.and_self, resQ, resV, resT, pickV, evCallT, evTake, evCall, fnOf, viewsT, isD, HO.drow, viewT, evInt2, evEq, eqV, eqK, eqC1, buildQ, buildT, buildRQ, buildRT, lens_I, lensA_I, lens_U, lensA_U, lens_Rat, lensA_Rat, lens_Loc, lensA_Loc, lens_Act, lensA_Act, lens_Step, lensA_Step, lens_Stamp, lensA_Stamp, List.mem_cons, List.not_mem_nil, or_false, forall_eq, putRow, dcells, get_nil, RetS, RetF, RetD, AV.frz, AV.frzL, AV.freshP, AV.freshL, DV.less, scal_int, scal_bool, scal_nil, scal_rowI, scal_rowU, scal_rowRat, scal_rowStep, Option.some.injEq, AV.tup.injEq, AV.agg.injEq, List.cons.injEq, DV.list.injEq, List.isEmpty_nil, Nat.le_refl, AV.d.injEq, DV.int.injEq, DV.bool.injEq, ↓reduceIte, Nat.reduceEqDiff, Nat.reduceAdd, Nat.reduceBEq, List.length_cons, List.length_nil, List.replicate_succ, List.replicate_zero, List.nil_append, List.cons_append, List.append_nil, List.foldl_cons, List.foldl_nil, List.map_cons, List.map_nil, List.all_cons, List.all_nil, List.set_cons_zero, List.set_cons_succ, List.getD_cons_zero, List.getD_cons_succ, List.drop_zero, List.drop_succ_cons, List.take_succ_cons, List.take_zero, List.flatten_cons, List.flatten_nil, Bool.true_and, Bool.and_true, Bool.not_true, Bool.not_false, true_and, and_true, true_or, or_true, Option.bind_some, Option.map_some, decide_true, decide_false, beq_self_eq_true, true_implies, false_implies, implies_true, not_true_eq_false, not_false_eq_true, and_self, Bool.and_false, Bool.false_and, Nat.reduceLT, Nat.reduceLeDiff, List.reverse_cons, List.reverse_nil, Nat.zero_add, Nat.add_zero, Bool.false_eq_true, List.getElem?_cons_zero, sp_played, F1, G1, F2, G2, at_New, at_DoM, MemG.av, loadO_vec, storeO_vec]
  have bad : ∀ {e : Int}, playErr l t ss = e → e ≠ 0 → [] = List.map rowMem (playL l t ss) := fun {e} h h2 => by
    unfold playL; rw [if_neg (by omega)]; rfl
  refine ⟨fun c => ?_, fun c => ⟨hl, fun c2 => ?_, fun c2 => ?_⟩⟩
  · have e : playErr l t ss = 15 := if_pos (by omega)
    exact ⟨bad e (by decide), e.symm⟩
  · have hpe : playErr l t ss = firstBad (newM l t) ss := by unfold playErr; rw [if_neg (by omega), if_pos c2]
    have hg0 := newM_good c2
    have hpl : firstBad (newM l t) ss = 0 → playL l t ss = mems (newM l t) ss ss.length := fun h => by unfold playL; rw [if_pos (by rw [hpe]; exact h)]
    generalize newM l t = M at *
    refine Loop.fam [8, 10, 25, 26, 27] (playSt M ss g) (fun i => i ≤ ss.length ∧ ∀ j, j < i → doErr (goM M ss j).plain (ss.getD j default) = 0) (fun i => ss.length - i) 0 [0] (by simp) (by simp) (by simp only [State.can, AV.can, AV.canL, HO.can, canRows, idx, get_hit, get_next, Heap.at, Nat.reduceBEq, ↓reduceIte, Nat.reduceEqDiff, Option.getD_some, Option.map_some, List.map_cons, List.map_nil, List.getD_cons_zero, List.getD_cons_succ, playSt, MemG.row]) ⟨Nat.zero_le _, fun j hj => absurd hj (by omega)⟩ ?_
    rintro i ⟨hi, hj⟩
    have hi : i ≤ ss.length := hi
    have hgood : (goM M ss i).plain.Good (1 + i) := goM_good hg0 ss i
    have next : i < ss.length → doErr (goM M ss i).plain (ss.getD i default) = 0 → (∀ j, j < i + 1 → doErr (goM M ss j).plain (ss.getD j default) = 0) ∧ resM (goM M ss i).plain (ss.getD i default) = goM M ss (i + 1) := fun hlt he => by
      refine ⟨fun j hj2 => ?_, ?_⟩
      · rcases Nat.lt_or_eq_of_le (Nat.le_of_lt_succ hj2) with h | rfl
        · exact hj j h
        · exact he
      · rw [goM_succ M hlt]; unfold stepM resM; rw [if_pos he, if_pos he]
    cases i with
    | zero =>
      have e0 : goM M ss 0 = M := rfl
      rw [e0] at hgood next
      simp (maxSteps := 3000000) only [↓vck_skip, ↓vck_ret, ↓vck_exit, ↓vck_region, ↓vck_nilq, ↓nilTo_to, nilG_d, nilG_r, ↓vck_seq, ↓vck_cond, ↓vck_block, ↓vck_loop, ↓vckTo_to, ↓thenK_n, ↓thenK_x, ↓thenK_r, ↓blockK_n, ↓blockK_x, ↓blockK_o, ↓blockK_r, ↓regK_to, ↓retK_r, ↓retK_n, ↓loopV_n, ↓loopV_x, ↓loopV_r, ↓famK_n, ↓famK_x, ↓famK_r, ↓boolK_true, ↓boolK_false, ↓boolK_not, ↓boolK_dec, ↓boolK_and, nf_mk, RGk_end_f, RGk_end_t, RGk_op, RGk_guard, opK_to, evN, evCallN, grow_mk, feet_f, feet_t, foot_mk, stepK_mk, stepK_v, stepK_no, guardG_t, guardG_f, guardG_no, condG_b, evT, Opd.ev, get_hit, get_next, app_to, app_no, app_up, app_skip, app_skipn, know_mk, knowO_t, knowO_c, envFrom, reserve, keeps, LOp.isNew, State.prune, cellsQ, cellsT, AV.leaf, Heap.at, evLoad_ptr, evLoad_dptr, loadO_vec, loadO_dvec1, stepK_load_map, idx_I, idx_U, idx_Rat, idx_Loc, idx_Act, idx_Step, idx_Stamp, stepK_idx_ref, evStore_ptr, storeO_vec, stepK_store_map1, loadDT_f, rowI, rowU, RatG.row, LocG.row, ActG.row, StepG.row, StampG.row, ActG.av, ActG.eta, RatG.eta, LocG.eta, beq_true, beq_false, loadDT_t, set_rowI, set_rowU, app_rowI, app_rowU, rep_rowI, rep_rowU, set_rowRat, app_rowRat, rep_rowRat, set_rowLoc, app_rowLoc, app_rowAct, app_rowStep, List.length_set, List.length_replicate, Int.toNat_natCast, Int.reduceToNat, evLen, evAppend, srcOf, Src.all, Src.len, Src.leaf, Src.leafN, evApart, aliveQ, joinV, drows_rep1, drows_rep2, drows_rep3, drows_rep4, drows_rep5, drows_rep6, drows_rep7, drows_rep8, mkVec, drows, evMk, List.length_map, take_mapF, drop_mapF, List.take_length, List.take_left, List.length_append, Nat.le_add_right, ite_self, List.take_of_length_le, evSlice, intOr, intOpd, Option.isSome_none, Option.isSome_some, Nat.sub_zero, loadQ, loadT, evBin, evUn, binT, binQ, chk, apartF, List.contains_cons, List.contains_nil, Bool.or_false, Bool.false_or, Bool.and_self, resQ, resV, resT, pickV, evCallT, evTake, evCall, fnOf, viewsT, isD, HO.drow, viewT, evInt2, evEq, eqV, eqK, eqC1, buildQ, buildT, buildRQ, buildRT, lens_I, lensA_I, lens_U, lensA_U, lens_Rat, lensA_Rat, lens_Loc, lensA_Loc, lens_Act, lensA_Act, lens_Step, lensA_Step, lens_Stamp, lensA_Stamp, List.mem_cons, List.not_mem_nil, or_false, forall_eq, putRow, dcells, get_nil, RetS, RetF, RetD, AV.frz, AV.frzL, AV.freshP, AV.freshL, DV.less, scal_int, scal_bool, scal_nil, scal_rowI, scal_rowU, scal_rowRat, scal_rowStep, Option.some.injEq, AV.tup.injEq, AV.agg.injEq, List.cons.injEq, DV.list.injEq, List.isEmpty_nil, Nat.le_refl, AV.d.injEq, DV.int.injEq, DV.bool.injEq, ↓reduceIte, Nat.reduceEqDiff, Nat.reduceAdd, Nat.reduceBEq, List.length_cons, List.length_nil, List.replicate_succ, List.replicate_zero, List.nil_append, List.cons_append, List.append_nil, List.foldl_cons, List.foldl_nil, List.map_cons, List.map_nil, List.all_cons, List.all_nil, List.set_cons_zero, List.set_cons_succ, List.getD_cons_zero, List.getD_cons_succ, List.drop_zero, List.drop_succ_cons, List.take_succ_cons, List.take_zero, List.flatten_cons, List.flatten_nil, Bool.true_and, Bool.and_true, Bool.not_true, Bool.not_false, true_and, and_true, true_or, or_true, Option.bind_some, Option.map_some, decide_true, decide_false, beq_self_eq_true, true_implies, false_implies, implies_true, not_true_eq_false, not_false_eq_true, and_self, Bool.and_false, Bool.false_and, Nat.reduceLT, Nat.reduceLeDiff, List.reverse_cons, List.reverse_nil, Nat.zero_add, Nat.add_zero, Bool.false_eq_true, List.getElem?_cons_zero, playSt, MemG.row, F1, G1, F2, G2, at_DoM, MemG.av, loadO_vec, storeO_vec]
      have rw1 : IntKind.i64.wrap (0 + 1) = ((1 : Nat) : Int) := by decide
      refine ⟨fun h => ⟨⟨by omega, by omega⟩, roomy_of (by omega) (by omega), wfM hgood (by omega), fun he => ?_, fun he => ?_⟩, fun h => ?_⟩
      · obtain ⟨n1, n2⟩ := next (by omega) he
        rw [n2, rw1]
        exact FamNext.mk [0, 3] 1 (by simp) (by simp) (by simp only [State.can, AV.can, AV.canL, HO.can, canRows, idx, get_hit, get_next, Heap.at, Nat.reduceBEq, ↓reduceIte, Nat.reduceEqDiff, Option.getD_some, Option.map_some, List.map_cons, List.map_nil, List.getD_cons_zero, List.getD_cons_succ, playSt, MemG.row]; rfl) ⟨by show 1 ≤ _; omega, n1⟩ (by show _ - 1 < _; omega)
      · have e := firstBad_at (m := M) (ss := ss) (n := 0) (by omega) (fun j hj => absurd hj (by omega)) he
        have e2 : playErr l t ss = doErr M.plain (ss.getD 0 default) := hpe.trans e
        exact ⟨bad e2 he, e2.symm⟩
      · have hss : ss = [] := List.length_eq_zero_iff.1 (by omega)
        subst hss
        have e2 : playErr l t [] = 0 := hpe.trans rfl
        exact ⟨by rw [hpl rfl]; rfl, e2.symm⟩
    | succ i =>
      have hrl : ((mems M ss (i + 1)).map rowMem).length = i + 1 := by rw [List.length_map, mems_len]
      have htk : List.take (i + 1) (mems M ss (i + 1)) = mems M ss (i + 1) := List.take_of_length_le (by rw [mems_len]; omega)
      simp (maxSteps := 3000000) only [↓vck_skip, ↓vck_ret, ↓vck_exit, ↓vck_region, ↓vck_nilq, ↓nilTo_to, nilG_d, nilG_r, ↓vck_seq, ↓vck_cond, ↓vck_block, ↓vck_loop, ↓vckTo_to, ↓thenK_n, ↓thenK_x, ↓thenK_r, ↓blockK_n, ↓blockK_x, ↓blockK_o, ↓blockK_r, ↓regK_to, ↓retK_r, ↓retK_n, ↓loopV_n, ↓loopV_x, ↓loopV_r, ↓famK_n, ↓famK_x, ↓famK_r, ↓boolK_true, ↓boolK_false, ↓boolK_not, ↓boolK_dec, ↓boolK_and, nf_mk, RGk_end_f, RGk_end_t, RGk_op, RGk_guard, opK_to, evN, evCallN, grow_mk, feet_f, feet_t, foot_mk, stepK_mk, stepK_v, stepK_no, guardG_t, guardG_f, guardG_no, condG_b, evT, Opd.ev, get_hit, get_next, app_to, app_no, app_up, app_skip, app_skipn, know_mk, knowO_t, knowO_c, envFrom, reserve, keeps, LOp.isNew, State.prune, cellsQ, cellsT, AV.leaf, Heap.at, evLoad_ptr, evLoad_dptr, loadO_vec, loadO_dvec1, stepK_load_map, idx_I, idx_U, idx_Rat, idx_Loc, idx_Act, idx_Step, idx_Stamp, stepK_idx_ref, evStore_ptr, storeO_vec, stepK_store_map1, loadDT_f, rowI, rowU, RatG.row, LocG.row, ActG.row, StepG.row, StampG.row, ActG.av, ActG.eta, RatG.eta, LocG.eta, beq_true, beq_false, loadDT_t, set_rowI, set_rowU, app_rowI, app_rowU, rep_rowI, rep_rowU, set_rowRat, app_rowRat, rep_rowRat, set_rowLoc, app_rowLoc, app_rowAct, app_rowStep, List.length_set, List.length_replicate, Int.toNat_natCast, Int.reduceToNat, evLen, evAppend, srcOf, Src.all, Src.len, Src.leaf, Src.leafN, evApart, aliveQ, joinV, drows_rep1, drows_rep2, drows_rep3, drows_rep4, drows_rep5, drows_rep6, drows_rep7, drows_rep8, mkVec, drows, evMk, List.length_map, take_mapF, drop_mapF, List.take_length, List.take_left, List.length_append, Nat.le_add_right, ite_self, List.take_of_length_le, evSlice, intOr, intOpd, Option.isSome_none, Option.isSome_some, Nat.sub_zero, loadQ, loadT, evBin, evUn, binT, binQ, chk, apartF, List.contains_cons, List.contains_nil, Bool.or_false, Bool.false_or, Bool.and_self, resQ, resV, resT, pickV, evCallT, evTake, evCall, fnOf, viewsT, isD, HO.drow, viewT, evInt2, evEq, eqV, eqK, eqC1, buildQ, buildT, buildRQ, buildRT, lens_I, lensA_I, lens_U, lensA_U, lens_Rat, lensA_Rat, lens_Loc, lensA_Loc, lens_Act, lensA_Act, lens_Step, lensA_Step, lens_Stamp, lensA_Stamp, List.mem_cons, List.not_mem_nil, or_false, forall_eq, putRow, dcells, get_nil, RetS, RetF, RetD, AV.frz, AV.frzL, AV.freshP, AV.freshL, DV.less, scal_int, scal_bool, scal_nil, scal_rowI, scal_rowU, scal_rowRat, scal_rowStep, Option.some.injEq, AV.tup.injEq, AV.agg.injEq, List.cons.injEq, DV.list.injEq, List.isEmpty_nil, Nat.le_refl, AV.d.injEq, DV.int.injEq, DV.bool.injEq, ↓reduceIte, Nat.reduceEqDiff, Nat.reduceAdd, Nat.reduceBEq, List.length_cons, List.length_nil, List.replicate_succ, List.replicate_zero, List.nil_append, List.cons_append, List.append_nil, List.foldl_cons, List.foldl_nil, List.map_cons, List.map_nil, List.all_cons, List.all_nil, List.set_cons_zero, List.set_cons_succ, List.getD_cons_zero, List.getD_cons_succ, List.drop_zero, List.drop_succ_cons, List.take_succ_cons, List.take_zero, List.flatten_cons, List.flatten_nil, Bool.true_and, Bool.and_true, Bool.not_true, Bool.not_false, true_and, and_true, true_or, or_true, Option.bind_some, Option.map_some, decide_true, decide_false, beq_self_eq_true, true_implies, false_implies, implies_true, not_true_eq_false, not_false_eq_true, and_self, Bool.and_false, Bool.false_and, Nat.reduceLT, Nat.reduceLeDiff, List.reverse_cons, List.reverse_nil, Nat.zero_add, Nat.add_zero, Bool.false_eq_true, List.getElem?_cons_zero, playSt, MemG.row, F1, G1, F2, G2, at_DoM, MemG.av, loadO_vec, storeO_vec, mems_len, htk]
      refine ⟨fun h => ⟨⟨by omega, by omega⟩, roomy_of (by omega) (by omega), wfM hgood (by omega), fun he => ?_, fun he => ?_⟩, fun h => ?_⟩
      · have hlt : i + 1 < ss.length := by omega
        obtain ⟨n1, n2⟩ := next hlt he
        rw [n2, wrap_succ hlt hs]
        exact FamNext.mk [0, 4] (i + 2) (by simp) (by simp) (by simp only [State.can, AV.can, AV.canL, HO.can, canRows, idx, get_hit, get_next, Heap.at, Nat.reduceBEq, ↓reduceIte, Nat.reduceEqDiff, Option.getD_some, Option.map_some, List.map_cons, List.map_nil, List.getD_cons_zero, List.getD_cons_succ, playSt, MemG.row, mems_succ M ss (i + 1), List.map_append]; rfl) ⟨by show i + 2 ≤ _; omega, n1⟩ (by show _ - (i + 2) < _ - (i + 1); omega)
      · have e := firstBad_at (m := M) (ss := ss) (n := i + 1) (by omega) hj he
        have e2 : playErr l t ss = doErr (goM M ss (i + 1)).plain (ss.getD (i + 1) default) := hpe.trans e
        exact ⟨bad e2 he, e2.symm⟩
      · have hie : i + 1 = ss.length := by omega
        have e := firstBad_ok (m := M) (ss := ss) (by rw [← hie]; exact hj)
        exact ⟨by rw [hpl e, hie], (hpe.trans e).symm⟩
  · have e : playErr l t ss = newErr l t := by unfold playErr; rw [if_neg (by omega), if_neg c2]
    exact ⟨bad e c2, e.symm⟩
end Go.Ago

/- Package race: the order of a run. Conditions: none. -/
set_option maxRecDepth 100000
set_option linter.unusedSimpArgs false
set_option linter.unusedVariables false
namespace Go.Ago
/-! ### Pairs -/
def pRow (q : Nat → Nat → Bool) (i k : Nat) : List RatG := ((List.range k).filter fun j => decide (i < j) && q i j).map fun (j : Nat) => ⟨(i : Int), (j : Int)⟩
def pAll (q : Nat → Nat → Bool) (n i : Nat) : List RatG := (List.range i).flatMap fun j => pRow q j n
theorem pRow_start (q : Nat → Nat → Bool) (i : Nat) : pRow q i (i + 1) = [] := by
  unfold pRow
  have : (List.range (i + 1)).filter (fun j => decide (i < j) && q i j) = [] := by
    rw [List.filter_eq_nil_iff]
    intro j hj
    have := List.mem_range.1 hj
    simp; omega
  rw [this]; rfl
theorem pRow_succ (q : Nat → Nat → Bool) {i k : Nat} (h : i < k) : pRow q i (k + 1) = pRow q i k ++ (if q i k = true then [⟨i, k⟩] else []) := by
  unfold pRow
  rw [List.range_succ, List.filter_append, List.map_append]
  congr 1
  rw [List.filter_cons, decide_eq_true h, Bool.true_and]
  split <;> rfl
theorem pAll_succ (q : Nat → Nat → Bool) (n i : Nat) : pAll q n (i + 1) = pAll q n i ++ pRow q i n := by unfold pAll; rw [List.range_succ, List.flatMap_append]; simp
theorem pRow_len (q : Nat → Nat → Bool) (i k : Nat) : (pRow q i k).length ≤ k := by
  unfold pRow
  rw [List.length_map]
  exact Nat.le_trans (List.length_filter_le _ _) (by simp)
theorem pAll_len (q : Nat → Nat → Bool) (n i : Nat) : (pAll q n i).length ≤ i * n := by
  induction i with
  | zero => simp [pAll]
  | succ i ih => rw [pAll_succ, List.length_append, Nat.succ_mul]; have := pRow_len q i n; omega
theorem pRow_mem {q : Nat → Nat → Bool} {i k : Nat} {x : RatG} : x ∈ pRow q i k ↔ ∃ j, j < k ∧ i < j ∧ q i j = true ∧ x = ⟨i, j⟩ := by
  unfold pRow
  rw [List.mem_map]
  constructor
  · rintro ⟨j, h, rfl⟩
    rw [List.mem_filter, List.mem_range] at h
    simp only [Bool.and_eq_true, decide_eq_true_eq] at h
    exact ⟨j, h.1, h.2.1, h.2.2, rfl⟩
  · rintro ⟨j, h1, h2, h3, rfl⟩
    exact ⟨j, List.mem_filter.2 ⟨List.mem_range.2 h1, by simp [h2, h3]⟩, rfl⟩
theorem pAll_mem {q : Nat → Nat → Bool} {n i : Nat} {x : RatG} : x ∈ pAll q n i ↔ ∃ a b, a < i ∧ b < n ∧ a < b ∧ q a b = true ∧ x = ⟨a, b⟩ := by
  unfold pAll
  rw [List.mem_flatMap]
  constructor
  · rintro ⟨a, ha, h⟩
    obtain ⟨b, h1, h2, h3, h4⟩ := pRow_mem.1 h
    exact ⟨a, b, List.mem_range.1 ha, h1, h2, h3, h4⟩
  · rintro ⟨a, b, h1, h2, h3, h4, h5⟩
    exact ⟨a, List.mem_range.2 h1, pRow_mem.2 ⟨b, h2, h3, h4, h5⟩⟩
def accAV (id : Nat) : List RatG → AV
  | [] => .d (.list [] true)
  | a :: r => .ref id 2 0 (r.length + 1) true
def accO : List RatG → Heap
  | [] => []
  | a :: r => [.dvec 2 ((a :: r).map RatG.row)]
theorem at_Of0 (n : Int) (f : Bool) : sp_Of.at [.d (.int .i64 n), .d (.list [] f)] = .data (0 ≤ maxLen) (.tup [.d (.list ((ofG n []).map rowW) false), .d (.int .i64 (ofErr n []))]) true := at_Of n [] f
theorem at_OfC (n : Int) (a : RatG) (r : List RatG) (f : Bool) : sp_Of.at [.d (.int .i64 n), .d (.list ([.int .i64 a.num, .int .i64 a.den] :: r.map RatG.row) f)] = .data ((a :: r).length ≤ maxLen) (.tup [.d (.list ((ofG n (a :: r)).map rowW) false), .d (.int .i64 (ofErr n (a :: r)))]) true := at_Of n (a :: r) f
theorem ofG_le {n : Int} {l : List RatG} : (ofG n l).length ≤ 64 := by
  unfold ofG
  split
  · rename_i h
    rw [mkR_len]
    unfold ofErr at h
    split at h
    · cases h
    · omega
  · simp
theorem ret1 (l : List W) : RetRows 1 (l.map rowW) (.ref 0 1 0 l.length true) [.dvec 1 (l.map rowW)] := .inl ⟨0, true, by rw [List.length_map], rfl⟩
theorem ret1' (l : List W) (o : HO) : RetRows 1 (l.map rowW) (.ref 1 1 0 l.length true) [o, .dvec 1 (l.map rowW)] := .inl ⟨1, true, by rw [List.length_map], rfl⟩
/-! ### ordered -/
def dirB (a b : StepG) : Bool := decide (a.thread = b.thread) || (isSet a.act.kind && isAt b.act.kind && decide (a.act.loc = b.act.loc))
theorem dirB_1 {a b : StepG} (h : a.thread = b.thread) : dirB a b = true := by unfold dirB; rw [decide_eq_true h]; rfl
theorem dirB_2 {a b : StepG} (h1 : isSet a.act.kind = true) (h2 : isAt b.act.kind = true) (h3 : a.act.loc = b.act.loc) : dirB a b = true := by unfold dirB; rw [h1, h2, decide_eq_true h3]; simp
theorem dirB_3 {a b : StepG} (h : ¬ a.thread = b.thread) (h1 : isSet a.act.kind = false) : dirB a b = false := by unfold dirB; rw [decide_eq_false h, h1]; rfl
theorem dirB_4 {a b : StepG} (h : ¬ a.thread = b.thread) (h1 : isAt b.act.kind = false) : dirB a b = false := by unfold dirB; rw [decide_eq_false h, h1]; simp
theorem dirB_5 {a b : StepG} (h : ¬ a.thread = b.thread) (h1 : ¬ a.act.loc = b.act.loc) : dirB a b = false := by unfold dirB; rw [decide_eq_false h, decide_eq_false h1]; simp
def dirQ (ss : List StepG) (i k : Nat) : Bool := dirB (ss.getD i default) (ss.getD k default)
def ordG (ss : List StepG) : List W := plusG (ofG ss.length (pAll (dirQ ss) ss.length ss.length))
def sp_ordered : Sp := ⟨List StepG × Bool, fun x => [.d (.list (x.1.map StepG.row) x.2)], fun x => .rows (x.1.length ≤ 64) 1 ((ordG x.1).map rowW)⟩
theorem at_ordered (ss : List StepG) (g : Bool) : sp_ordered.at [.d (.list (ss.map StepG.row) g)] = .rows (ss.length ≤ 64) 1 ((ordG ss).map rowW) :=
  Sp.at_enc (s := sp_ordered) (fun x y h => by
    obtain ⟨ss, g⟩ := x; obtain ⟨ss', g'⟩ := y
    simp only [sp_ordered, List.cons.injEq, AV.d.injEq, DV.list.injEq, and_true] at h
    rw [rows_inj StepG.row_inj h.1, h.2]) (ss, g)
def ordSt1 (ss : List StepG) (g : Bool) (x : Nat × List RatG) : State :=
  ⟨[(0, .d (.list (ss.map StepG.row) g)), (14, .d (.list (ss.map StepG.row) g)), (15, .d (.int .i64 ss.length)), (16, .d (.int .i64 x.1)), (3, accAV 0 x.2)], accO x.2⟩
def ordSt2 (ss : List StepG) (g : Bool) (i : Nat) (x : Nat × List RatG) : State :=
  ⟨[(0, .d (.list (ss.map StepG.row) g)), (14, .d (.list (ss.map StepG.row) g)), (15, .d (.int .i64 ss.length)), (16, .d (.int .i64 i)), (4, .d (.int .i64 i)), (5, .ptr 0 7 0 0), (7, .d (.bool (isSet (ss.getD i default).act.kind))), (8, .d (.int .i64 x.1)), (3, accAV 1 x.2)],
    .vec 7 [[.d (.int .i64 (ss.getD i default).thread), .d (.int .i64 (ss.getD i default).act.kind), .d (.int .i64 (ss.getD i default).act.loc), .d (.int .i64 (ss.getD i default).act.old), .d (.int .i64 (ss.getD i default).act.new), .d (.int .i64 (ss.getD i default).when.num), .d (.int .i64 (ss.getD i default).when.den)]] :: accO x.2⟩
set_option maxHeartbeats 4000000 in
theorem body_race_ordered {T : Tab} {n1 n2 n3 : Nat} (k1 : Knows T n1 sp_ratomic) (k2 : Knows T n2 sp_Of) (k3 : Knows T n3 sp_Plus) : sp_ordered.Body T V_race_ordered (L_race_ordered n1 n2 n3) R_race_ordered := by
  have F1 := k1.F; have G1 := k1.G; have F2 := k2.F; have G2 := k2.G; have F3 := k3.F; have G3 := k3.G
  rintro ⟨ss, g⟩ hs
  have hs : ss.length ≤ 64 := hs
  refine ⟨fun r hr => by obtain ⟨x, -, rfl⟩ := List.mem_map.1 hr; rfl, ?_⟩
  show vck T 0 V_race_ordered (L_race_ordered n1 n2 n3) ⟨envFrom 0 [.d (.list (ss.map StepG.row) g)], []⟩ (retK R_race_ordered (RetRows 1 ((ordG ss).map rowW)))
  generalize hX : RetRows 1 _ = X
  unfold V_race_ordered L_race_ordered R_race_ordered
  simp (maxSteps := 3000000) only [↓vck_skip, ↓vck_ret, ↓vck_exit, ↓vck_region, ↓vck_nilq, ↓nilTo_to, nilG_d, nilG_r, ↓vck_seq, ↓vck_cond, ↓vck_block, ↓vck_loop, ↓vckTo_to, ↓thenK_n, ↓thenK_x, ↓thenK_r, ↓blockK_n, ↓blockK_x, ↓blockK_o, ↓blockK_r, ↓regK_to, ↓retK_r, ↓retK_n, ↓loopV_n, ↓loopV_x, ↓loopV_r, ↓famK_n, ↓famK_x, ↓famK_r, ↓boolK_true, ↓boolK_false, ↓boolK_not, ↓boolK_dec, ↓boolK_and, nf_mk, RGk_end_f, RGk_end_t, RGk_op, RGk_guard, opK_to, evN, evCallN, grow_mk, feet_f, feet_t, foot_mk, stepK_mk, stepK_v, stepK_no, guardG_t, guardG_f, guardG_no, condG_b, evT, Opd.ev, get_hit, get_next, app_to, app_no, app_up, app_skip, app_skipn, know_mk, knowO_t, knowO_c, envFrom, reserve, keeps, LOp.isNew, State.prune, cellsQ, cellsT, AV.leaf, Heap.at, evLoad_ptr, evLoad_dptr, loadO_vec, loadO_dvec1, stepK_load_map, idx_I, idx_U, idx_Rat, idx_Loc, idx_Act, idx_Step, idx_Stamp, stepK_idx_ref, evStore_ptr, storeO_vec, stepK_store_map1, loadDT_f, rowI, rowU, RatG.row, LocG.row, ActG.row, StepG.row, StampG.row, ActG.av, ActG.eta, RatG.eta, LocG.eta, beq_true, beq_false, loadDT_t, set_rowI, set_rowU, app_rowI, app_rowU, rep_rowI, rep_rowU, set_rowRat, app_rowRat, rep_rowRat, set_rowLoc, app_rowLoc, app_rowAct, app_rowStep, List.length_set, List.length_replicate, Int.toNat_natCast, Int.reduceToNat, evLen, evAppend, srcOf, Src.all, Src.len, Src.leaf, Src.leafN, evApart, aliveQ, joinV, drows_rep1, drows_rep2, drows_rep3, drows_rep4, drows_rep5, drows_rep6, drows_rep7, drows_rep8, mkVec, drows, evMk, List.length_map, take_mapF, drop_mapF, List.take_length, List.take_left, List.length_append, Nat.le_add_right, ite_self, List.take_of_length_le, evSlice, intOr, intOpd, Option.isSome_none, Option.isSome_some, Nat.sub_zero, loadQ, loadT, evBin, evUn, binT, binQ, chk, apartF, List.contains_cons, List.contains_nil, Bool.or_false, Bool.false_or, Bool.and_self, resQ, resV, resT, pickV, evCallT, evTake, evCall, fnOf, viewsT, isD, HO.drow, viewT, evInt2, evEq, eqV, eqK, eqC1, buildQ, buildT, buildRQ, buildRT, lens_I, lensA_I, lens_U, lensA_U, lens_Rat, lensA_Rat, lens_Loc, lensA_Loc, lens_Act, lensA_Act, lens_Step, lensA_Step, lens_Stamp, lensA_Stamp, List.mem_cons, List.not_mem_nil, or_false, forall_eq, putRow, dcells, get_nil, RetS, RetF, RetD, AV.frz, AV.frzL, AV.freshP, AV.freshL, DV.less, scal_int, scal_bool, scal_nil, scal_rowI, scal_rowU, scal_rowRat, scal_rowStep, Option.some.injEq, AV.tup.injEq, AV.agg.injEq, List.cons.injEq, DV.list.injEq, List.isEmpty_nil, Nat.le_refl, AV.d.injEq, DV.int.injEq, DV.bool.injEq, ↓reduceIte, Nat.reduceEqDiff, Nat.reduceAdd, Nat.reduceBEq, List.length_cons, List.length_nil, List.replicate_succ, List.replicate_zero, List.nil_append, List.cons_append, List.append_nil, List.foldl_cons, List.foldl_nil, List.map_cons, List.map_nil, List.all_cons, List.all_nil, List.set_cons_zero, List.set_cons_succ, List.getD_cons_zero, List.getD_cons_succ, List.drop_zero, List.drop_succ_cons, List.take_succ_cons, List.take_zero, List.flatten_cons, List.flatten_nil, Bool.true_and, Bool.and_true, Bool.not_true, Bool.not_false, true_and, and_true, true_or, or_true, Option.bind_some, Option.map_some, decide_true, decide_false, beq_self_eq_true, true_implies, false_implies, implies_true, not_true_eq_false, not_false_eq_true, and_self, Bool.and_false, Bool.false_and, Nat.reduceLT, Nat.reduceLeDiff, List.reverse_cons, List.reverse_nil, Nat.zero_add, Nat.add_zero, Bool.false_eq_true, List.getElem?_cons_zero, F1, G1, F2, G2, F3, G3, at_ratomic, at_Of, at_Plus, loadO_vec, storeO_vec]
  refine Loop.fam [0, 14, 15, 16, 3] (ordSt1 ss g) (fun x => x.1 ≤ ss.length ∧ x.2 = pAll (dirQ ss) ss.length x.1) (fun x => ss.length - x.1) (0, []) [] (by simp) (by simp) (by simp only [State.can, AV.can, AV.canL, HO.can, canRows, idx, get_hit, get_next, Heap.at, Nat.reduceBEq, ↓reduceIte, Nat.reduceEqDiff, Option.getD_some, Option.map_some, List.map_cons, List.map_nil, List.getD_cons_zero, List.getD_cons_succ, ordSt1, accAV, accO]; rfl) ⟨Nat.zero_le _, rfl⟩ ?_
  rintro ⟨i, L⟩ ⟨hi, hL⟩
  have hi : i ≤ ss.length := hi
  have hL : L = pAll (dirQ ss) ss.length i := hL
  have hm : maxLen = 9223372036854775807 := rfl
  have hLl : L.length ≤ i * ss.length := by rw [hL]; exact pAll_len _ _ _
  have hLb : L.length ≤ 64 * 64 := Nat.le_trans hLl (Nat.mul_le_mul (by omega) hs)
  have key : ∀ k, i < k → k < ss.length → True := fun _ _ _ => trivial
  obtain _ | ⟨c0, e0⟩ := L
  case' nil =>
    simp (maxSteps := 3000000) only [↓vck_skip, ↓vck_ret, ↓vck_exit, ↓vck_region, ↓vck_nilq, ↓nilTo_to, nilG_d, nilG_r, ↓vck_seq, ↓vck_cond, ↓vck_block, ↓vck_loop, ↓vckTo_to, ↓thenK_n, ↓thenK_x, ↓thenK_r, ↓blockK_n, ↓blockK_x, ↓blockK_o, ↓blockK_r, ↓regK_to, ↓retK_r, ↓retK_n, ↓loopV_n, ↓loopV_x, ↓loopV_r, ↓famK_n, ↓famK_x, ↓famK_r, ↓boolK_true, ↓boolK_false, ↓boolK_not, ↓boolK_dec, ↓boolK_and, nf_mk, RGk_end_f, RGk_end_t, RGk_op, RGk_guard, opK_to, evN, evCallN, grow_mk, feet_f, feet_t, foot_mk, stepK_mk, stepK_v, stepK_no, guardG_t, guardG_f, guardG_no, condG_b, evT, Opd.ev, get_hit, get_next, app_to, app_no, app_up, app_skip, app_skipn, know_mk, knowO_t, knowO_c, envFrom, reserve, keeps, LOp.isNew, State.prune, cellsQ, cellsT, AV.leaf, Heap.at, evLoad_ptr, evLoad_dptr, loadO_vec, loadO_dvec1, stepK_load_map, idx_I, idx_U, idx_Rat, idx_Loc, idx_Act, idx_Step, idx_Stamp, stepK_idx_ref, evStore_ptr, storeO_vec, stepK_store_map1, loadDT_f, rowI, rowU, RatG.row, LocG.row, ActG.row, StepG.row, StampG.row, ActG.av, ActG.eta, RatG.eta, LocG.eta, beq_true, beq_false, loadDT_t, set_rowI, set_rowU, app_rowI, app_rowU, rep_rowI, rep_rowU, set_rowRat, app_rowRat, rep_rowRat, set_rowLoc, app_rowLoc, app_rowAct, app_rowStep, List.length_set, List.length_replicate, Int.toNat_natCast, Int.reduceToNat, evLen, evAppend, srcOf, Src.all, Src.len, Src.leaf, Src.leafN, evApart, aliveQ, joinV, drows_rep1, drows_rep2, drows_rep3, drows_rep4, drows_rep5, drows_rep6, drows_rep7, drows_rep8, mkVec, drows, evMk, List.length_map, take_mapF, drop_mapF, List.take_length, List.take_left, List.length_append, Nat.le_add_right, ite_self, List.take_of_length_le, evSlice, intOr, intOpd, Option.isSome_none, Option.isSome_some, Nat.sub_zero, loadQ, loadT, evBin, evUn, binT, binQ, chk, apartF, List.contains_cons, List.contains_nil, Bool.or_false, Bool.false_or, Bool.and_self, resQ, resV, resT, pickV, evCallT, evTake, evCall, fnOf, viewsT, isD, HO.drow, viewT, evInt2, evEq, eqV, eqK, eqC1, buildQ, buildT, buildRQ, buildRT, lens_I, lensA_I, lens_U, lensA_U, lens_Rat, lensA_Rat, lens_Loc, lensA_Loc, lens_Act, lensA_Act, lens_Step, lensA_Step, lens_Stamp, lensA_Stamp, List.mem_cons, List.not_mem_nil, or_false, forall_eq, putRow, dcells, get_nil, RetS, RetF, RetD, AV.frz, AV.frzL, AV.freshP, AV.freshL, DV.less, scal_int, scal_bool, scal_nil, scal_rowI, scal_rowU, scal_rowRat, scal_rowStep, Option.some.injEq, AV.tup.injEq, AV.agg.injEq, List.cons.injEq, DV.list.injEq, List.isEmpty_nil, Nat.le_refl, AV.d.injEq, DV.int.injEq, DV.bool.injEq, ↓reduceIte, Nat.reduceEqDiff, Nat.reduceAdd, Nat.reduceBEq, List.length_cons, List.length_nil, List.replicate_succ, List.replicate_zero, List.nil_append, List.cons_append, List.append_nil, List.foldl_cons, List.foldl_nil, List.map_cons, List.map_nil, List.all_cons, List.all_nil, List.set_cons_zero, List.set_cons_succ, List.getD_cons_zero, List.getD_cons_succ, List.drop_zero, List.drop_succ_cons, List.take_succ_cons, List.take_zero, List.flatten_cons, List.flatten_nil, Bool.true_and, Bool.and_true, Bool.not_true, Bool.not_false, true_and, and_true, true_or, or_true, Option.bind_some, Option.map_some, decide_true, decide_false, beq_self_eq_true, true_implies, false_implies, implies_true, not_true_eq_false, not_false_eq_true, and_self, Bool.and_false, Bool.false_and, Nat.reduceLT, Nat.reduceLeDiff, List.reverse_cons, List.reverse_nil, Nat.zero_add, Nat.add_zero, Bool.false_eq_true, List.getElem?_cons_zero, ordSt1, accAV, accO, F1, G1, F2, G2, F3, G3, at_ratomic, at_Of0, at_Plus, loadO_vec, storeO_vec]
    refine ⟨fun c => ⟨⟨by omega, by omega⟩, ?_⟩, fun c => ?_⟩
  case' cons =>
    simp (maxSteps := 3000000) only [↓vck_skip, ↓vck_ret, ↓vck_exit, ↓vck_region, ↓vck_nilq, ↓nilTo_to, nilG_d, nilG_r, ↓vck_seq, ↓vck_cond, ↓vck_block, ↓vck_loop, ↓vckTo_to, ↓thenK_n, ↓thenK_x, ↓thenK_r, ↓blockK_n, ↓blockK_x, ↓blockK_o, ↓blockK_r, ↓regK_to, ↓retK_r, ↓retK_n, ↓loopV_n, ↓loopV_x, ↓loopV_r, ↓famK_n, ↓famK_x, ↓famK_r, ↓boolK_true, ↓boolK_false, ↓boolK_not, ↓boolK_dec, ↓boolK_and, nf_mk, RGk_end_f, RGk_end_t, RGk_op, RGk_guard, opK_to, evN, evCallN, grow_mk, feet_f, feet_t, foot_mk, stepK_mk, stepK_v, stepK_no, guardG_t, guardG_f, guardG_no, condG_b, evT, Opd.ev, get_hit, get_next, app_to, app_no, app_up, app_skip, app_skipn, know_mk, knowO_t, knowO_c, envFrom, reserve, keeps, LOp.isNew, State.prune, cellsQ, cellsT, AV.leaf, Heap.at, evLoad_ptr, evLoad_dptr, loadO_vec, loadO_dvec1, stepK_load_map, idx_I, idx_U, idx_Rat, idx_Loc, idx_Act, idx_Step, idx_Stamp, stepK_idx_ref, evStore_ptr, storeO_vec, stepK_store_map1, loadDT_f, rowI, rowU, RatG.row, LocG.row, ActG.row, StepG.row, StampG.row, ActG.av, ActG.eta, RatG.eta, LocG.eta, beq_true, beq_false, loadDT_t, set_rowI, set_rowU, app_rowI, app_rowU, rep_rowI, rep_rowU, set_rowRat, app_rowRat, rep_rowRat, set_rowLoc, app_rowLoc, app_rowAct, app_rowStep, List.length_set, List.length_replicate, Int.toNat_natCast, Int.reduceToNat, evLen, evAppend, srcOf, Src.all, Src.len, Src.leaf, Src.leafN, evApart, aliveQ, joinV, drows_rep1, drows_rep2, drows_rep3, drows_rep4, drows_rep5, drows_rep6, drows_rep7, drows_rep8, mkVec, drows, evMk, List.length_map, take_mapF, drop_mapF, List.take_length, List.take_left, List.length_append, Nat.le_add_right, ite_self, List.take_of_length_le, evSlice, intOr, intOpd, Option.isSome_none, Option.isSome_some, Nat.sub_zero, loadQ, loadT, evBin, evUn, binT, binQ, chk, apartF, List.contains_cons, List.contains_nil, Bool.or_false, Bool.false_or, Bool.and_self, resQ, resV, resT, pickV, evCallT, evTake, evCall, fnOf, viewsT, isD, HO.drow, viewT, evInt2, evEq, eqV, eqK, eqC1, buildQ, buildT, buildRQ, buildRT, lens_I, lensA_I, lens_U, lensA_U, lens_Rat, lensA_Rat, lens_Loc, lensA_Loc, lens_Act, lensA_Act, lens_Step, lensA_Step, lens_Stamp, lensA_Stamp, List.mem_cons, List.not_mem_nil, or_false, forall_eq, putRow, dcells, get_nil, RetS, RetF, RetD, AV.frz, AV.frzL, AV.freshP, AV.freshL, DV.less, scal_int, scal_bool, scal_nil, scal_rowI, scal_rowU, scal_rowRat, scal_rowStep, Option.some.injEq, AV.tup.injEq, AV.agg.injEq, List.cons.injEq, DV.list.injEq, List.isEmpty_nil, Nat.le_refl, AV.d.injEq, DV.int.injEq, DV.bool.injEq, ↓reduceIte, Nat.reduceEqDiff, Nat.reduceAdd, Nat.reduceBEq, List.length_cons, List.length_nil, List.replicate_succ, List.replicate_zero, List.nil_append, List.cons_append, List.append_nil, List.foldl_cons, List.foldl_nil, List.map_cons, List.map_nil, List.all_cons, List.all_nil, List.set_cons_zero, List.set_cons_succ, List.getD_cons_zero, List.getD_cons_succ, List.drop_zero, List.drop_succ_cons, List.take_succ_cons, List.take_zero, List.flatten_cons, List.flatten_nil, Bool.true_and, Bool.and_true, Bool.not_true, Bool.not_false, true_and, and_true, true_or, or_true, Option.bind_some, Option.map_some, decide_true, decide_false, beq_self_eq_true, true_implies, false_implies, implies_true, not_true_eq_false, not_false_eq_true, and_self, Bool.and_false, Bool.false_and, Nat.reduceLT, Nat.reduceLeDiff, List.reverse_cons, List.reverse_nil, Nat.zero_add, Nat.add_zero, Bool.false_eq_true, List.getElem?_cons_zero, ordSt1, accAV, accO, F1, G1, F2, G2, F3, G3, at_ratomic, at_OfC, at_Plus, loadO_vec, storeO_vec]
    refine ⟨fun c => ⟨⟨by omega, by omega⟩, ?_⟩, fun c => ?_⟩
  case nil.refine_2 =>
    have hie : i = ss.length := by omega
    subst hie
    rw [← hX]
    unfold ordG
    rw [← hL]
    exact ⟨by decide, Nat.le_trans ofG_le (by decide), ret1 _⟩
  case cons.refine_2 =>
    have hie : i = ss.length := by omega
    subst hie
    rw [← hX]
    unfold ordG
    rw [← hL]
    have hLc : e0.length + 1 ≤ 64 * 64 := hLb
    exact ⟨by omega, Nat.le_trans ofG_le (by decide), ret1' _ _⟩
  case' nil.refine_1 =>
    refine Loop.fam [0, 14, 15, 16, 4, 5, 7, 8, 3] (ordSt2 ss g i) (fun x => i < x.1 ∧ x.1 ≤ ss.length ∧ x.2 = pAll (dirQ ss) ss.length i ++ pRow (dirQ ss) i x.1) (fun x => ss.length - x.1) (i + 1, []) [0] (by simp) (by simp) (by simp only [State.can, AV.can, AV.canL, HO.can, canRows, idx, get_hit, get_next, Heap.at, Nat.reduceBEq, ↓reduceIte, Nat.reduceEqDiff, Option.getD_some, Option.map_some, List.map_cons, List.map_nil, List.getD_cons_zero, List.getD_cons_succ, ordSt2, accAV, accO, wrap_succ (show i < ss.length by omega) (by omega)]) ⟨Nat.lt_succ_self _, by show i + 1 ≤ _; omega, by show [] = _; rw [pRow_start, ← hL]; rfl⟩ ?_
  case' cons.refine_1 =>
    refine Loop.fam [0, 14, 15, 16, 4, 5, 7, 8, 3] (ordSt2 ss g i) (fun x => i < x.1 ∧ x.1 ≤ ss.length ∧ x.2 = pAll (dirQ ss) ss.length i ++ pRow (dirQ ss) i x.1) (fun x => ss.length - x.1) (i + 1, c0 :: e0) [1, 0] (by simp) (by simp) (by simp only [State.can, AV.can, AV.canL, HO.can, canRows, idx, get_hit, get_next, Heap.at, Nat.reduceBEq, ↓reduceIte, Nat.reduceEqDiff, Option.getD_some, Option.map_some, List.map_cons, List.map_nil, List.getD_cons_zero, List.getD_cons_succ, ordSt2, accAV, accO, wrap_succ (show i < ss.length by omega) (by omega)]; rfl) ⟨Nat.lt_succ_self _, by show i + 1 ≤ _; omega, by show c0 :: e0 = _; rw [pRow_start, ← hL, List.append_nil]⟩ ?_
  all_goals
    have hi' : i < ss.length := by omega
    clear hL hLl hLb
    rintro ⟨k, M⟩ ⟨hik, hk, hM⟩
    have hik : i < k := hik
    have hk : k ≤ ss.length := hk
    have hM : M = pAll (dirQ ss) ss.length i ++ pRow (dirQ ss) i k := hM
    have hMl : M.length ≤ 4160 := by
      rw [hM, List.length_append]
      have h1 := pAll_len (dirQ ss) ss.length i
      have h2 := pRow_len (dirQ ss) i k
      have h3 : i * ss.length ≤ 64 * 64 := Nat.mul_le_mul (by omega) hs
      omega
    obtain _ | ⟨d, r⟩ := M
    case' nil =>
      simp (maxSteps := 3000000) only [↓vck_skip, ↓vck_ret, ↓vck_exit, ↓vck_region, ↓vck_nilq, ↓nilTo_to, nilG_d, nilG_r, ↓vck_seq, ↓vck_cond, ↓vck_block, ↓vck_loop, ↓vckTo_to, ↓thenK_n, ↓thenK_x, ↓thenK_r, ↓blockK_n, ↓blockK_x, ↓blockK_o, ↓blockK_r, ↓regK_to, ↓retK_r, ↓retK_n, ↓loopV_n, ↓loopV_x, ↓loopV_r, ↓famK_n, ↓famK_x, ↓famK_r, ↓boolK_true, ↓boolK_false, ↓boolK_not, ↓boolK_dec, ↓boolK_and, nf_mk, RGk_end_f, RGk_end_t, RGk_op, RGk_guard, opK_to, evN, evCallN, grow_mk, feet_f, feet_t, foot_mk, stepK_mk, stepK_v, stepK_no, guardG_t, guardG_f, guardG_no, condG_b, evT, Opd.ev, get_hit, get_next, app_to, app_no, app_up, app_skip, app_skipn, know_mk, knowO_t, knowO_c, envFrom, reserve, keeps, LOp.isNew, State.prune, cellsQ, cellsT, AV.leaf, Heap.at, evLoad_ptr, evLoad_dptr, loadO_vec, loadO_dvec1, stepK_load_map, idx_I, idx_U, idx_Rat, idx_Loc, idx_Act, idx_Step, idx_Stamp, stepK_idx_ref, evStore_ptr, storeO_vec, stepK_store_map1, loadDT_f, rowI, rowU, RatG.row, LocG.row, ActG.row, StepG.row, StampG.row, ActG.av, ActG.eta, RatG.eta, LocG.eta, beq_true, beq_false, loadDT_t, set_rowI, set_rowU, app_rowI, app_rowU, rep_rowI, rep_rowU, set_rowRat, app_rowRat, rep_rowRat, set_rowLoc, app_rowLoc, app_rowAct, app_rowStep, List.length_set, List.length_replicate, Int.toNat_natCast, Int.reduceToNat, evLen, evAppend, srcOf, Src.all, Src.len, Src.leaf, Src.leafN, evApart, aliveQ, joinV, drows_rep1, drows_rep2, drows_rep3, drows_rep4, drows_rep5, drows_rep6, drows_rep7, drows_rep8, mkVec, drows, evMk, List.length_map, take_mapF, drop_mapF, List.take_length, List.take_left, List.length_append, Nat.le_add_right, ite_self, List.take_of_length_le, evSlice, intOr, intOpd, Option.isSome_none, Option.isSome_some, Nat.sub_zero, loadQ, loadT, evBin, evUn, binT, binQ, chk, apartF, List.contains_cons, List.contains_nil, Bool.or_false, Bool.false_or, Bool.and_self, resQ, resV, resT, pickV, evCallT, evTake, evCall, fnOf, viewsT, isD, HO.drow, viewT, evInt2, evEq, eqV, eqK, eqC1, buildQ, buildT, buildRQ, buildRT, lens_I, lensA_I, lens_U, lensA_U, lens_Rat, lensA_Rat, lens_Loc, lensA_Loc, lens_Act, lensA_Act, lens_Step, lensA_Step, lens_Stamp, lensA_Stamp, List.mem_cons, List.not_mem_nil, or_false, forall_eq, putRow, dcells, get_nil, RetS, RetF, RetD, AV.frz, AV.frzL, AV.freshP, AV.freshL, DV.less, scal_int, scal_bool, scal_nil, scal_rowI, scal_rowU, scal_rowRat, scal_rowStep, Option.some.injEq, AV.tup.injEq, AV.agg.injEq, List.cons.injEq, DV.list.injEq, List.isEmpty_nil, Nat.le_refl, AV.d.injEq, DV.int.injEq, DV.bool.injEq, ↓reduceIte, Nat.reduceEqDiff, Nat.reduceAdd, Nat.reduceBEq, List.length_cons, List.length_nil, List.replicate_succ, List.replicate_zero, List.nil_append, List.cons_append, List.append_nil, List.foldl_cons, List.foldl_nil, List.map_cons, List.map_nil, List.all_cons, List.all_nil, List.set_cons_zero, List.set_cons_succ, List.getD_cons_zero, List.getD_cons_succ, List.drop_zero, List.drop_succ_cons, List.take_succ_cons, List.take_zero, List.flatten_cons, List.flatten_nil, Bool.true_and, Bool.and_true, Bool.not_true, Bool.not_false, true_and, and_true, true_or, or_true, Option.bind_some, Option.map_some, decide_true, decide_false, beq_self_eq_true, true_implies, false_implies, implies_true, not_true_eq_false, not_false_eq_true, and_self, Bool.and_false, Bool.false_and, Nat.reduceLT, Nat.reduceLeDiff, List.reverse_cons, List.reverse_nil, Nat.zero_add, Nat.add_zero, Bool.false_eq_true, List.getElem?_cons_zero, ordSt2, accAV, accO, F1, G1, F2, G2, F3, G3, at_ratomic, at_Of0, at_Plus, loadO_vec, storeO_vec]
    case' cons =>
      simp (maxSteps := 3000000) only [↓vck_skip, ↓vck_ret, ↓vck_exit, ↓vck_region, ↓vck_nilq, ↓nilTo_to, nilG_d, nilG_r, ↓vck_seq, ↓vck_cond, ↓vck_block, ↓vck_loop, ↓vckTo_to, ↓thenK_n, ↓thenK_x, ↓thenK_r, ↓blockK_n, ↓blockK_x, ↓blockK_o, ↓blockK_r, ↓regK_to, ↓retK_r, ↓retK_n, ↓loopV_n, ↓loopV_x, ↓loopV_r, ↓famK_n, ↓famK_x, ↓famK_r, ↓boolK_true, ↓boolK_false, ↓boolK_not, ↓boolK_dec, ↓boolK_and, nf_mk, RGk_end_f, RGk_end_t, RGk_op, RGk_guard, opK_to, evN, evCallN, grow_mk, feet_f, feet_t, foot_mk, stepK_mk, stepK_v, stepK_no, guardG_t, guardG_f, guardG_no, condG_b, evT, Opd.ev, get_hit, get_next, app_to, app_no, app_up, app_skip, app_skipn, know_mk, knowO_t, knowO_c, envFrom, reserve, keeps, LOp.isNew, State.prune, cellsQ, cellsT, AV.leaf, Heap.at, evLoad_ptr, evLoad_dptr, loadO_vec, loadO_dvec1, stepK_load_map, idx_I, idx_U, idx_Rat, idx_Loc, idx_Act, idx_Step, idx_Stamp, stepK_idx_ref, evStore_ptr, storeO_vec, stepK_store_map1, loadDT_f, rowI, rowU, RatG.row, LocG.row, ActG.row, StepG.row, StampG.row, ActG.av, ActG.eta, RatG.eta, LocG.eta, beq_true, beq_false, loadDT_t, set_rowI, set_rowU, app_rowI, app_rowU, rep_rowI, rep_rowU, set_rowRat, app_rowRat, rep_rowRat, set_rowLoc, app_rowLoc, app_rowAct, app_rowStep, List.length_set, List.length_replicate, Int.toNat_natCast, Int.reduceToNat, evLen, evAppend, srcOf, Src.all, Src.len, Src.leaf, Src.leafN, evApart, aliveQ, joinV, drows_rep1, drows_rep2, drows_rep3, drows_rep4, drows_rep5, drows_rep6, drows_rep7, drows_rep8, mkVec, drows, evMk, List.length_map, take_mapF, drop_mapF, List.take_length, List.take_left, List.length_append, Nat.le_add_right, ite_self, List.take_of_length_le, evSlice, intOr, intOpd, Option.isSome_none, Option.isSome_some, Nat.sub_zero, loadQ, loadT, evBin, evUn, binT, binQ, chk, apartF, List.contains_cons, List.contains_nil, Bool.or_false, Bool.false_or, Bool.and_self, resQ, resV, resT, pickV, evCallT, evTake, evCall, fnOf, viewsT, isD, HO.drow, viewT, evInt2, evEq, eqV, eqK, eqC1, buildQ, buildT, buildRQ, buildRT, lens_I, lensA_I, lens_U, lensA_U, lens_Rat, lensA_Rat, lens_Loc, lensA_Loc, lens_Act, lensA_Act, lens_Step, lensA_Step, lens_Stamp, lensA_Stamp, List.mem_cons, List.not_mem_nil, or_false, forall_eq, putRow, dcells, get_nil, RetS, RetF, RetD, AV.frz, AV.frzL, AV.freshP, AV.freshL, DV.less, scal_int, scal_bool, scal_nil, scal_rowI, scal_rowU, scal_rowRat, scal_rowStep, Option.some.injEq, AV.tup.injEq, AV.agg.injEq, List.cons.injEq, DV.list.injEq, List.isEmpty_nil, Nat.le_refl, AV.d.injEq, DV.int.injEq, DV.bool.injEq, ↓reduceIte, Nat.reduceEqDiff, Nat.reduceAdd, Nat.reduceBEq, List.length_cons, List.length_nil, List.replicate_succ, List.replicate_zero, List.nil_append, List.cons_append, List.append_nil, List.foldl_cons, List.foldl_nil, List.map_cons, List.map_nil, List.all_cons, List.all_nil, List.set_cons_zero, List.set_cons_succ, List.getD_cons_zero, List.getD_cons_succ, List.drop_zero, List.drop_succ_cons, List.take_succ_cons, List.take_zero, List.flatten_cons, List.flatten_nil, Bool.true_and, Bool.and_true, Bool.not_true, Bool.not_false, true_and, and_true, true_or, or_true, Option.bind_some, Option.map_some, decide_true, decide_false, beq_self_eq_true, true_implies, false_implies, implies_true, not_true_eq_false, not_false_eq_true, and_self, Bool.and_false, Bool.false_and, Nat.reduceLT, Nat.reduceLeDiff, List.reverse_cons, List.reverse_nil, Nat.zero_add, Nat.add_zero, Bool.false_eq_true, List.getElem?_cons_zero, ordSt2, accAV, accO, F1, G1, F2, G2, F3, G3, at_ratomic, at_OfC, at_Plus, loadO_vec, storeO_vec]
    case' nil =>
      refine ⟨fun c => ⟨⟨by omega, by omega⟩, ?_⟩, fun c => ?_⟩
    case' cons =>
      refine ⟨fun c => ⟨⟨by omega, by omega⟩, ?_⟩, fun c => ?_⟩
    case nil.refine_2 =>
      have hke : k = ss.length := by omega
      subst hke
      exact FamNext.mk [] (i + 1, []) (by simp) (by simp) (by simp only [State.can, AV.can, AV.canL, HO.can, canRows, idx, get_hit, get_next, Heap.at, Nat.reduceBEq, ↓reduceIte, Nat.reduceEqDiff, Option.getD_some, Option.map_some, List.map_cons, List.map_nil, List.getD_cons_zero, List.getD_cons_succ, ordSt1, accAV, accO, wrap_succ hi' (by omega)]) ⟨by show i + 1 ≤ _; omega, by show [] = _; rw [pAll_succ, ← hM]⟩ (by show _ - (i + 1) < _ - i; omega)
    case cons.refine_2 =>
      have hke : k = ss.length := by omega
      subst hke
      exact FamNext.mk [1] (i + 1, d :: r) (by simp) (by simp) (by simp only [State.can, AV.can, AV.canL, HO.can, canRows, idx, get_hit, get_next, Heap.at, Nat.reduceBEq, ↓reduceIte, Nat.reduceEqDiff, Option.getD_some, Option.map_some, List.map_cons, List.map_nil, List.getD_cons_zero, List.getD_cons_succ, ordSt1, accAV, accO, wrap_succ hi' (by omega)]; rfl) ⟨by show i + 1 ≤ _; omega, by show d :: r = _; rw [pAll_succ, ← hM]⟩ (by show _ - (i + 1) < _ - i; omega)
    case nil.refine_1 =>
      have hkl : k < ss.length := by omega
      have hq : dirQ ss i k = dirB (ss.getD i default) (ss.getD k default) := rfl
      have yes : dirB (ss.getD i default) (ss.getD k default) = true → [⟨(i : Int), (k : Int)⟩] = pAll (dirQ ss) ss.length i ++ pRow (dirQ ss) i (k + 1) := fun h => by
        rw [pRow_succ _ hik, if_pos (hq.trans h), ← List.append_assoc, ← hM]; rfl
      have no : dirB (ss.getD i default) (ss.getD k default) = false → [] = pAll (dirQ ss) ss.length i ++ pRow (dirQ ss) i (k + 1) := fun h => by
        rw [pRow_succ _ hik, if_neg (by rw [hq.trans h]; decide), List.append_nil, ← hM]
      have hroom : roomy 1 16 := roomy_of (by decide) (by decide)
      clear hq hM
      refine ⟨fun c => ⟨hroom, ?_⟩, fun c => ⟨fun c1 => ⟨fun c2 => ⟨fun c3 => ⟨hroom, ?_⟩, fun c3 => ?_⟩, fun c2 => ?_⟩, fun c1 => ?_⟩⟩
      all_goals first
        | exact FamNext.mk [0, 3] (k + 1, [⟨(i : Int), (k : Int)⟩]) (by simp) (by simp) (by simp only [State.can, AV.can, AV.canL, HO.can, canRows, idx, get_hit, get_next, Heap.at, Nat.reduceBEq, ↓reduceIte, Nat.reduceEqDiff, Option.getD_some, Option.map_some, List.map_cons, List.map_nil, List.getD_cons_zero, List.getD_cons_succ, ordSt2, accAV, accO, List.length_append, List.length_singleton, wrap_succ hkl (by omega)]; rfl) ⟨by show i < k + 1; omega, by show k + 1 ≤ _; omega, yes (by first | exact dirB_1 ‹_› | exact dirB_2 ‹_› ‹_› ‹_›)⟩ (by show _ - (k + 1) < _ - k; omega)
        | exact FamNext.mk [0] (k + 1, []) (by simp) (by simp) (by simp only [State.can, AV.can, AV.canL, HO.can, canRows, idx, get_hit, get_next, Heap.at, Nat.reduceBEq, ↓reduceIte, Nat.reduceEqDiff, Option.getD_some, Option.map_some, List.map_cons, List.map_nil, List.getD_cons_zero, List.getD_cons_succ, ordSt2, accAV, accO, List.length_append, List.length_singleton, wrap_succ hkl (by omega)]) ⟨by show i < k + 1; omega, by show k + 1 ≤ _; omega, no (by first | exact dirB_3 ‹_› ‹_› | exact dirB_4 ‹_› ‹_› | exact dirB_5 ‹_› ‹_›)⟩ (by show _ - (k + 1) < _ - k; omega)
    case cons.refine_1 =>
      have hkl : k < ss.length := by omega
      have hq : dirQ ss i k = dirB (ss.getD i default) (ss.getD k default) := rfl
      have yes : dirB (ss.getD i default) (ss.getD k default) = true → d :: (r ++ [⟨(i : Int), (k : Int)⟩]) = pAll (dirQ ss) ss.length i ++ pRow (dirQ ss) i (k + 1) := fun h => by
        rw [pRow_succ _ hik, if_pos (hq.trans h), ← List.append_assoc, ← hM]; rfl
      have no : dirB (ss.getD i default) (ss.getD k default) = false → d :: r = pAll (dirQ ss) ss.length i ++ pRow (dirQ ss) i (k + 1) := fun h => by
        rw [pRow_succ _ hik, if_neg (by rw [hq.trans h]; decide), List.append_nil, ← hM]
      have hroom : roomy (r.length + 1 + 1) 16 := roomy_of (by have := hMl; simp only [List.length_cons] at this; omega) (by decide)
      clear hq hM
      refine ⟨fun c => ⟨hroom, ?_⟩, fun c => ⟨fun c1 => ⟨fun c2 => ⟨fun c3 => ⟨hroom, ?_⟩, fun c3 => ?_⟩, fun c2 => ?_⟩, fun c1 => ?_⟩⟩
      all_goals first
        | exact FamNext.mk [0, 4] (k + 1, d :: (r ++ [⟨(i : Int), (k : Int)⟩])) (by simp) (by simp) (by simp only [State.can, AV.can, AV.canL, HO.can, canRows, idx, get_hit, get_next, Heap.at, Nat.reduceBEq, ↓reduceIte, Nat.reduceEqDiff, Option.getD_some, Option.map_some, List.map_cons, List.map_nil, List.getD_cons_zero, List.getD_cons_succ, ordSt2, accAV, accO, List.length_append, List.length_singleton, wrap_succ hkl (by omega)]; rfl) ⟨by show i < k + 1; omega, by show k + 1 ≤ _; omega, yes (by first | exact dirB_1 ‹_› | exact dirB_2 ‹_› ‹_› ‹_›)⟩ (by show _ - (k + 1) < _ - k; omega)
        | exact FamNext.mk [0, 1] (k + 1, d :: r) (by simp) (by simp) (by simp only [State.can, AV.can, AV.canL, HO.can, canRows, idx, get_hit, get_next, Heap.at, Nat.reduceBEq, ↓reduceIte, Nat.reduceEqDiff, Option.getD_some, Option.map_some, List.map_cons, List.map_nil, List.getD_cons_zero, List.getD_cons_succ, ordSt2, accAV, accO, List.length_append, List.length_singleton, wrap_succ hkl (by omega)]; rfl) ⟨by show i < k + 1; omega, by show k + 1 ≤ _; omega, no (by first | exact dirB_3 ‹_› ‹_› | exact dirB_4 ‹_› ‹_› | exact dirB_5 ‹_› ‹_›)⟩ (by show _ - (k + 1) < _ - k; omega)
end Go.Ago

/- Package race: Order and Races. Conditions: none. -/
set_option maxRecDepth 100000
set_option linter.unusedSimpArgs false
set_option linter.unusedVariables false
namespace Go.Ago
theorem playErr_len {l : List LocG} {t : Int} {ss : List StepG} (h : playErr l t ss = 0) : ss.length ≤ 64 := by
  unfold playErr at h
  split at h
  · cases h
  · omega
/-! ### Order -/
def ordL (l : List LocG) (t : Int) (ss : List StepG) : List W := if playErr l t ss = 0 then ordG ss else []
def sp_rOrder : Sp := ⟨List LocG × Bool × Int × List StepG × Bool, fun x => [.d (.list (x.1.map LocG.row) x.2.1), .d (.int .i64 x.2.2.1), .d (.list (x.2.2.2.1.map StepG.row) x.2.2.2.2)],
  fun x => .data (x.1.length ≤ maxLen ∧ x.2.2.2.1.length ≤ maxLen) (.tup [.d (.list ((ordL x.1 x.2.2.1 x.2.2.2.1).map rowW) false), .d (.int .i64 (playErr x.1 x.2.2.1 x.2.2.2.1))]) false⟩
theorem at_rOrder (l : List LocG) (f : Bool) (t : Int) (ss : List StepG) (g : Bool) : sp_rOrder.at [.d (.list (l.map LocG.row) f), .d (.int .i64 t), .d (.list (ss.map StepG.row) g)] =
    .data (l.length ≤ maxLen ∧ ss.length ≤ maxLen) (.tup [.d (.list ((ordL l t ss).map rowW) false), .d (.int .i64 (playErr l t ss))]) false :=
  Sp.at_enc (s := sp_rOrder) (fun x y h => by
    obtain ⟨l, f, t, ss, g⟩ := x; obtain ⟨l', f', t', ss', g'⟩ := y
    simp only [sp_rOrder, List.cons.injEq, AV.d.injEq, DV.list.injEq, DV.int.injEq, and_true, true_and] at h
    obtain ⟨⟨h1, h2⟩, h3, h4, h5⟩ := h
    rw [rows_inj LocG.row_inj h1, h2, h3, rows_inj StepG.row_inj h4, h5]) (l, f, t, ss, g)
theorem body_race_Order {T : Tab} {n1 n2 : Nat} (k1 : Knows T n1 sp_played) (k2 : Knows T n2 sp_ordered) : sp_rOrder.Body T V_race_Order (L_race_Order n1 n2) R_race_Order := by
  have F1 := k1.F; have G1 := k1.G; have F2 := k2.F; have G2 := k2.G
  rintro ⟨l, f, t, ss, g⟩ ⟨hl, hs⟩
  have hl : l.length ≤ maxLen := hl
  have hs : ss.length ≤ maxLen := hs
  refine ⟨rfl, ?_⟩
  unfold V_race_Order L_race_Order R_race_Order
  simp (maxSteps := 3000000) only [↓vck_skip, ↓vck_ret, ↓vck_exit, ↓vck_region, ↓vck_nilq, ↓nilTo_to, nilG_d, nilG_r, ↓vck_seq, ↓vck_cond, ↓vck_block, ↓vck_loop, ↓vckTo_to, ↓thenK_n, ↓thenK_x, ↓thenK_r, ↓blockK_n, ↓blockK_x, ↓blockK_o, ↓blockK_r, ↓regK_to, ↓retK_r, ↓retK_n, ↓loopV_n, ↓loopV_x, ↓loopV_r, ↓famK_n, ↓famK_x, ↓famK_r, ↓boolK_true, ↓boolK_false, ↓boolK_not, ↓boolK_dec, ↓boolK_and, nf_mk, RGk_end_f, RGk_end_t, RGk_op, RGk_guard, opK_to, evN, evCallN, grow_mk, feet_f, feet_t, foot_mk, stepK_mk, stepK_v, stepK_no, guardG_t, guardG_f, guardG_no, condG_b, evT, Opd.ev, get_hit, get_next, app_to, app_no, app_up, app_skip, app_skipn, know_mk, knowO_t, knowO_c, envFrom, reserve, keeps, LOp.isNew, State.prune, cellsQ, cellsT, AV.leaf, Heap.at, evLoad_ptr, evLoad_dptr, loadO_vec, loadO_dvec1, stepK_load_map, idx_I, idx_U, idx_Rat, idx_Loc, idx_Act, idx_Step, idx_Stamp, stepK_idx_ref, evStore_ptr, storeO_vec, stepK_store_map1, loadDT_f, rowI, rowU, RatG.row, LocG.row, ActG.row, StepG.row, StampG.row, ActG.av, ActG.eta, RatG.eta, LocG.eta, beq_true, beq_false, loadDT_t, set_rowI, set_rowU, app_rowI, app_rowU, rep_rowI, rep_rowU, set_rowRat, app_rowRat, rep_rowRat, set_rowLoc, app_rowLoc, app_rowAct, app_rowStep, List.length_set, List.length_replicate, Int.toNat_natCast, Int.reduceToNat, evLen, evAppend, srcOf, Src.all, Src.len, Src.leaf, Src.leafN, evApart, aliveQ, joinV, drows_rep1, drows_rep2, drows_rep3, drows_rep4, drows_rep5, drows_rep6, drows_rep7, drows_rep8, mkVec, drows, evMk, List.length_map, take_mapF, drop_mapF, List.take_length, List.take_left, List.length_append, Nat.le_add_right, ite_self, List.take_of_length_le, evSlice, intOr, intOpd, Option.isSome_none, Option.isSome_some, Nat.sub_zero, loadQ, loadT, evBin, evUn, binT, binQ, chk, apartF, List.contains_cons, List.contains_nil, Bool.or_false, Bool.false_or, Bool.and_self, resQ, resV, resT, pickV, evCallT, evTake, evCall, fnOf, viewsT, isD, HO.drow, viewT, evInt2, evEq, eqV, eqK, eqC1, buildQ, buildT, buildRQ, buildRT, lens_I, lensA_I, lens_U, lensA_U, lens_Rat, lensA_Rat, lens_Loc, lensA_Loc, lens_Act, lensA_Act, lens_Step, lensA_Step, lens_Stamp, lensA_Stamp, List.mem_cons, List.not_mem_nil, or_false, forall_eq, putRow, dcells, get_nil, RetS, RetF, RetD, AV.frz, AV.frzL, AV.freshP, AV.freshL, DV.less, scal_int, scal_bool, scal_nil, scal_rowI, scal_rowU, scal_rowRat, scal_rowStep, Option.some.injEq, AV.tup.injEq, AV.agg.injEq, List.cons.injEq, DV.list.injEq, List.isEmpty_nil, Nat.le_refl, AV.d.injEq, DV.int.injEq, DV.bool.injEq, ↓reduceIte, Nat.reduceEqDiff, Nat.reduceAdd, Nat.reduceBEq, List.length_cons, List.length_nil, List.replicate_succ, List.replicate_zero, List.nil_append, List.cons_append, List.append_nil, List.foldl_cons, List.foldl_nil, List.map_cons, List.map_nil, List.all_cons, List.all_nil, List.set_cons_zero, List.set_cons_succ, List.getD_cons_zero, List.getD_cons_succ, List.drop_zero, List.drop_succ_cons, List.take_succ_cons, List.take_zero, List.flatten_cons, List.flatten_nil, Bool.true_and, Bool.and_true, Bool.not_true, Bool.not_false, true_and, and_true, true_or, or_true, Option.bind_some, Option.map_some, decide_true, decide_false, beq_self_eq_true, true_implies, false_implies, implies_true, not_true_eq_false, not_false_eq_true, and_self, Bool.and_false, Bool.false_and, Nat.reduceLT, Nat.reduceLeDiff, List.reverse_cons, List.reverse_nil, Nat.zero_add, Nat.add_zero, Bool.false_eq_true, List.getElem?_cons_zero, sp_rOrder, F1, G1, F2, G2, at_played, at_ordered, loadO_vec, storeO_vec]
  unfold ordL
  refine ⟨⟨hl, hs⟩, fun he => ⟨playErr_len he, ?_⟩, fun he => ?_⟩
  · rw [if_pos he]
    exact ⟨rfl, he.symm⟩
  · rw [if_neg he]; rfl
/-! ### Races -/
theorem pl2 : isPl 2 = true := rfl
def rcB (R : List W) (ss : List StepG) (i k : Nat) : Bool :=
  isPl (ss.getD i default).act.kind && isPl (ss.getD k default).act.kind && decide ((ss.getD i default).act.loc = (ss.getD k default).act.loc) && !decide ((ss.getD i default).thread = (ss.getD k default).thread)
    && (decide ((ss.getD i default).act.kind = 2) || decide ((ss.getD k default).act.kind = 2)) && !hasI R i k
def racesL (l : List LocG) (t : Int) (ss : List StepG) : List RatG := if playErr l t ss = 0 then pAll (rcB (ordG ss) ss) ss.length ss.length else []
def sp_Races : Sp := ⟨List LocG × Bool × Int × List StepG × Bool, fun x => [.d (.list (x.1.map LocG.row) x.2.1), .d (.int .i64 x.2.2.1), .d (.list (x.2.2.2.1.map StepG.row) x.2.2.2.2)],
  fun x => .data (x.1.length ≤ maxLen ∧ x.2.2.2.1.length ≤ maxLen) (.tup [.d (.list ((racesL x.1 x.2.2.1 x.2.2.2.1).map RatG.row) false), .d (.int .i64 (playErr x.1 x.2.2.1 x.2.2.2.1))]) false⟩
theorem at_Races (l : List LocG) (f : Bool) (t : Int) (ss : List StepG) (g : Bool) : sp_Races.at [.d (.list (l.map LocG.row) f), .d (.int .i64 t), .d (.list (ss.map StepG.row) g)] =
    .data (l.length ≤ maxLen ∧ ss.length ≤ maxLen) (.tup [.d (.list ((racesL l t ss).map RatG.row) false), .d (.int .i64 (playErr l t ss))]) false :=
  Sp.at_enc (s := sp_Races) (fun x y h => by
    obtain ⟨l, f, t, ss, g⟩ := x; obtain ⟨l', f', t', ss', g'⟩ := y
    simp only [sp_Races, List.cons.injEq, AV.d.injEq, DV.list.injEq, DV.int.injEq, and_true, true_and] at h
    obtain ⟨⟨h1, h2⟩, h3, h4, h5⟩ := h
    rw [rows_inj LocG.row_inj h1, h2, h3, rows_inj StepG.row_inj h4, h5]) (l, f, t, ss, g)
def raSt1 (ss : List StepG) (g : Bool) (R : List W) (x : Nat × List RatG) : State :=
  ⟨[(2, .d (.list (ss.map StepG.row) g)), (29, .d (.list (ss.map StepG.row) g)), (30, .d (.int .i64 ss.length)), (31, .d (.int .i64 x.1)), (10, .ref 0 1 0 R.length true), (11, accAV 1 x.2)], .dvec 1 (R.map rowW) :: accO x.2⟩
def raSt2 (ss : List StepG) (g : Bool) (R : List W) (i : Nat) (x : Nat × List RatG) : State :=
  ⟨[(2, .d (.list (ss.map StepG.row) g)), (29, .d (.list (ss.map StepG.row) g)), (30, .d (.int .i64 ss.length)), (31, .d (.int .i64 i)), (12, .d (.int .i64 i)), (13, .ptr 1 7 0 0), (10, .ref 0 1 0 R.length true), (14, .d (.int .i64 x.1)), (11, accAV 2 x.2)],
    .dvec 1 (R.map rowW) :: .vec 7 [[.d (.int .i64 (ss.getD i default).thread), .d (.int .i64 (ss.getD i default).act.kind), .d (.int .i64 (ss.getD i default).act.loc), .d (.int .i64 (ss.getD i default).act.old), .d (.int .i64 (ss.getD i default).act.new), .d (.int .i64 (ss.getD i default).when.num), .d (.int .i64 (ss.getD i default).when.den)]] :: accO x.2⟩
theorem ordG_le {ss : List StepG} : (ordG ss).length ≤ 64 := by
  unfold ordG plusG
  rw [mkR_len]
  exact szR_le _
set_option maxHeartbeats 4000000 in
theorem body_race_Races {T : Tab} {n1 n2 n3 n4 : Nat} (k1 : Knows T n1 sp_Has) (k2 : Knows T n2 sp_played) (k3 : Knows T n3 sp_ordered) (k4 : Knows T n4 sp_rplain) : sp_Races.Body T V_race_Races (L_race_Races n1 n2 n3 n4) R_race_Races := by
  have F1 := k1.F; have G1 := k1.G; have F2 := k2.F; have G2 := k2.G; have F3 := k3.F; have G3 := k3.G; have F4 := k4.F; have G4 := k4.G
  rintro ⟨l, f, t, ss, g⟩ ⟨hl, hs⟩
  have hl : l.length ≤ maxLen := hl
  have hs : ss.length ≤ maxLen := hs
  refine ⟨rfl, ?_⟩
  unfold V_race_Races L_race_Races R_race_Races
  simp (maxSteps := 3000000) only [↓vck_skip, ↓vck_ret, ↓vck_exit, ↓vck_region, ↓vck_nilq, ↓nilTo_to, nilG_d, nilG_r, ↓vck_seq, ↓vck_cond, ↓vck_block, ↓vck_loop, ↓vckTo_to, ↓thenK_n, ↓thenK_x, ↓thenK_r, ↓blockK_n, ↓blockK_x, ↓blockK_o, ↓blockK_r, ↓regK_to, ↓retK_r, ↓retK_n, ↓loopV_n, ↓loopV_x, ↓loopV_r, ↓famK_n, ↓famK_x, ↓famK_r, ↓boolK_true, ↓boolK_false, ↓boolK_not, ↓boolK_dec, ↓boolK_and, nf_mk, RGk_end_f, RGk_end_t, RGk_op, RGk_guard, opK_to, evN, evCallN, grow_mk, feet_f, feet_t, foot_mk, stepK_mk, stepK_v, stepK_no, guardG_t, guardG_f, guardG_no, condG_b, evT, Opd.ev, get_hit, get_next, app_to, app_no, app_up, app_skip, app_skipn, know_mk, knowO_t, knowO_c, envFrom, reserve, keeps, LOp.isNew, State.prune, cellsQ, cellsT, AV.leaf, Heap.at, evLoad_ptr, evLoad_dptr, loadO_vec, loadO_dvec1, stepK_load_map, idx_I, idx_U, idx_Rat, idx_Loc, idx_Act, idx_Step, idx_Stamp, stepK_idx_ref, evStore_ptr, storeO_vec, stepK_store_map1, loadDT_f, rowI, rowU, RatG.row, LocG.row, ActG.row, StepG.row, StampG.row, ActG.av, ActG.eta, RatG.eta, LocG.eta, beq_true, beq_false, loadDT_t, set_rowI, set_rowU, app_rowI, app_rowU, rep_rowI, rep_rowU, set_rowRat, app_rowRat, rep_rowRat, set_rowLoc, app_rowLoc, app_rowAct, app_rowStep, List.length_set, List.length_replicate, Int.toNat_natCast, Int.reduceToNat, evLen, evAppend, srcOf, Src.all, Src.len, Src.leaf, Src.leafN, evApart, aliveQ, joinV, drows_rep1, drows_rep2, drows_rep3, drows_rep4, drows_rep5, drows_rep6, drows_rep7, drows_rep8, mkVec, drows, evMk, List.length_map, take_mapF, drop_mapF, List.take_length, List.take_left, List.length_append, Nat.le_add_right, ite_self, List.take_of_length_le, evSlice, intOr, intOpd, Option.isSome_none, Option.isSome_some, Nat.sub_zero, loadQ, loadT, evBin, evUn, binT, binQ, chk, apartF, List.contains_cons, List.contains_nil, Bool.or_false, Bool.false_or, Bool.and_self, resQ, resV, resT, pickV, evCallT, evTake, evCall, fnOf, viewsT, isD, HO.drow, viewT, evInt2, evEq, eqV, eqK, eqC1, buildQ, buildT, buildRQ, buildRT, lens_I, lensA_I, lens_U, lensA_U, lens_Rat, lensA_Rat, lens_Loc, lensA_Loc, lens_Act, lensA_Act, lens_Step, lensA_Step, lens_Stamp, lensA_Stamp, List.mem_cons, List.not_mem_nil, or_false, forall_eq, putRow, dcells, get_nil, RetS, RetF, RetD, AV.frz, AV.frzL, AV.freshP, AV.freshL, DV.less, scal_int, scal_bool, scal_nil, scal_rowI, scal_rowU, scal_rowRat, scal_rowStep, Option.some.injEq, AV.tup.injEq, AV.agg.injEq, List.cons.injEq, DV.list.injEq, List.isEmpty_nil, Nat.le_refl, AV.d.injEq, DV.int.injEq, DV.bool.injEq, ↓reduceIte, Nat.reduceEqDiff, Nat.reduceAdd, Nat.reduceBEq, List.length_cons, List.length_nil, List.replicate_succ, List.replicate_zero, List.nil_append, List.cons_append, List.append_nil, List.foldl_cons, List.foldl_nil, List.map_cons, List.map_nil, List.all_cons, List.all_nil, List.set_cons_zero, List.set_cons_succ, List.getD_cons_zero, List.getD_cons_succ, List.drop_zero, List.drop_succ_cons, List.take_succ_cons, List.take_zero, List.flatten_cons, List.flatten_nil, Bool.true_and, Bool.and_true, Bool.not_true, Bool.not_false, true_and, and_true, true_or, or_true, Option.bind_some, Option.map_some, decide_true, decide_false, beq_self_eq_true, true_implies, false_implies, implies_true, not_true_eq_false, not_false_eq_true, and_self, Bool.and_false, Bool.false_and, Nat.reduceLT, Nat.reduceLeDiff, List.reverse_cons, List.reverse_nil, Nat.zero_add, Nat.add_zero, Bool.false_eq_true, List.getElem?_cons_zero, sp_Races, F1, G1, F2, G2, F3, G3, F4, G4, at_played, at_ordered, at_rplain, at_Has, loadO_vec, storeO_vec]
  refine ⟨⟨hl, hs⟩, fun he => ⟨playErr_len he, ?_⟩, fun he => by unfold racesL; rw [if_neg he]; rfl⟩
  have hs := playErr_len he
  have hm : maxLen = 9223372036854775807 := rfl
  have hRl : (ordG ss).length ≤ maxLen := Nat.le_trans ordG_le (by decide)
  have hra : racesL l t ss = pAll (rcB (ordG ss) ss) ss.length ss.length := by unfold racesL; rw [if_pos he]
  rw [hra, he]
  generalize ordG ss = R at *
  refine Loop.fam [2, 29, 30, 31, 10, 11] (raSt1 ss g R) (fun x => x.1 ≤ ss.length ∧ x.2 = pAll (rcB R ss) ss.length x.1) (fun x => ss.length - x.1) (0, []) [0] (by simp) (by simp) (by simp only [State.can, AV.can, AV.canL, HO.can, canRows, idx, get_hit, get_next, Heap.at, Nat.reduceBEq, ↓reduceIte, Nat.reduceEqDiff, Option.getD_some, Option.map_some, List.map_cons, List.map_nil, List.getD_cons_zero, List.getD_cons_succ, raSt1, accAV, accO]; rfl) ⟨Nat.zero_le _, rfl⟩ ?_
  rintro ⟨i, L⟩ ⟨hi, hL⟩
  have hi : i ≤ ss.length := hi
  have hL : L = pAll (rcB R ss) ss.length i := hL
  have hLl : L.length ≤ i * ss.length := by rw [hL]; exact pAll_len _ _ _
  have hLb : L.length ≤ 64 * 64 := Nat.le_trans hLl (Nat.mul_le_mul (by omega) hs)
  obtain _ | ⟨c0, e0⟩ := L
  case' nil =>
    simp (maxSteps := 3000000) only [↓vck_skip, ↓vck_ret, ↓vck_exit, ↓vck_region, ↓vck_nilq, ↓nilTo_to, nilG_d, nilG_r, ↓vck_seq, ↓vck_cond, ↓vck_block, ↓vck_loop, ↓vckTo_to, ↓thenK_n, ↓thenK_x, ↓thenK_r, ↓blockK_n, ↓blockK_x, ↓blockK_o, ↓blockK_r, ↓regK_to, ↓retK_r, ↓retK_n, ↓loopV_n, ↓loopV_x, ↓loopV_r, ↓famK_n, ↓famK_x, ↓famK_r, ↓boolK_true, ↓boolK_false, ↓boolK_not, ↓boolK_dec, ↓boolK_and, nf_mk, RGk_end_f, RGk_end_t, RGk_op, RGk_guard, opK_to, evN, evCallN, grow_mk, feet_f, feet_t, foot_mk, stepK_mk, stepK_v, stepK_no, guardG_t, guardG_f, guardG_no, condG_b, evT, Opd.ev, get_hit, get_next, app_to, app_no, app_up, app_skip, app_skipn, know_mk, knowO_t, knowO_c, envFrom, reserve, keeps, LOp.isNew, State.prune, cellsQ, cellsT, AV.leaf, Heap.at, evLoad_ptr, evLoad_dptr, loadO_vec, loadO_dvec1, stepK_load_map, idx_I, idx_U, idx_Rat, idx_Loc, idx_Act, idx_Step, idx_Stamp, stepK_idx_ref, evStore_ptr, storeO_vec, stepK_store_map1, loadDT_f, rowI, rowU, RatG.row, LocG.row, ActG.row, StepG.row, StampG.row, ActG.av, ActG.eta, RatG.eta, LocG.eta, beq_true, beq_false, loadDT_t, set_rowI, set_rowU, app_rowI, app_rowU, rep_rowI, rep_rowU, set_rowRat, app_rowRat, rep_rowRat, set_rowLoc, app_rowLoc, app_rowAct, app_rowStep, List.length_set, List.length_replicate, Int.toNat_natCast, Int.reduceToNat, evLen, evAppend, srcOf, Src.all, Src.len, Src.leaf, Src.leafN, evApart, aliveQ, joinV, drows_rep1, drows_rep2, drows_rep3, drows_rep4, drows_rep5, drows_rep6, drows_rep7, drows_rep8, mkVec, drows, evMk, List.length_map, take_mapF, drop_mapF, List.take_length, List.take_left, List.length_append, Nat.le_add_right, ite_self, List.take_of_length_le, evSlice, intOr, intOpd, Option.isSome_none, Option.isSome_some, Nat.sub_zero, loadQ, loadT, evBin, evUn, binT, binQ, chk, apartF, List.contains_cons, List.contains_nil, Bool.or_false, Bool.false_or, Bool.and_self, resQ, resV, resT, pickV, evCallT, evTake, evCall, fnOf, viewsT, isD, HO.drow, viewT, evInt2, evEq, eqV, eqK, eqC1, buildQ, buildT, buildRQ, buildRT, lens_I, lensA_I, lens_U, lensA_U, lens_Rat, lensA_Rat, lens_Loc, lensA_Loc, lens_Act, lensA_Act, lens_Step, lensA_Step, lens_Stamp, lensA_Stamp, List.mem_cons, List.not_mem_nil, or_false, forall_eq, putRow, dcells, get_nil, RetS, RetF, RetD, AV.frz, AV.frzL, AV.freshP, AV.freshL, DV.less, scal_int, scal_bool, scal_nil, scal_rowI, scal_rowU, scal_rowRat, scal_rowStep, Option.some.injEq, AV.tup.injEq, AV.agg.injEq, List.cons.injEq, DV.list.injEq, List.isEmpty_nil, Nat.le_refl, AV.d.injEq, DV.int.injEq, DV.bool.injEq, ↓reduceIte, Nat.reduceEqDiff, Nat.reduceAdd, Nat.reduceBEq, List.length_cons, List.length_nil, List.replicate_succ, List.replicate_zero, List.nil_append, List.cons_append, List.append_nil, List.foldl_cons, List.foldl_nil, List.map_cons, List.map_nil, List.all_cons, List.all_nil, List.set_cons_zero, List.set_cons_succ, List.getD_cons_zero, List.getD_cons_succ, List.drop_zero, List.drop_succ_cons, List.take_succ_cons, List.take_zero, List.flatten_cons, List.flatten_nil, Bool.true_and, Bool.and_true, Bool.not_true, Bool.not_false, true_and, and_true, true_or, or_true, Option.bind_some, Option.map_some, decide_true, decide_false, beq_self_eq_true, true_implies, false_implies, implies_true, not_true_eq_false, not_false_eq_true, and_self, Bool.and_false, Bool.false_and, Nat.reduceLT, Nat.reduceLeDiff, List.reverse_cons, List.reverse_nil, Nat.zero_add, Nat.add_zero, Bool.false_eq_true, List.getElem?_cons_zero, raSt1, accAV, accO, F1, G1, F2, G2, F3, G3, F4, G4, at_rplain, at_Has, loadO_vec, storeO_vec]
  case' cons =>
    simp (maxSteps := 3000000) only [↓vck_skip, ↓vck_ret, ↓vck_exit, ↓vck_region, ↓vck_nilq, ↓nilTo_to, nilG_d, nilG_r, ↓vck_seq, ↓vck_cond, ↓vck_block, ↓vck_loop, ↓vckTo_to, ↓thenK_n, ↓thenK_x, ↓thenK_r, ↓blockK_n, ↓blockK_x, ↓blockK_o, ↓blockK_r, ↓regK_to, ↓retK_r, ↓retK_n, ↓loopV_n, ↓loopV_x, ↓loopV_r, ↓famK_n, ↓famK_x, ↓famK_r, ↓boolK_true, ↓boolK_false, ↓boolK_not, ↓boolK_dec, ↓boolK_and, nf_mk, RGk_end_f, RGk_end_t, RGk_op, RGk_guard, opK_to, evN, evCallN, grow_mk, feet_f, feet_t, foot_mk, stepK_mk, stepK_v, stepK_no, guardG_t, guardG_f, guardG_no, condG_b, evT, Opd.ev, get_hit, get_next, app_to, app_no, app_up, app_skip, app_skipn, know_mk, knowO_t, knowO_c, envFrom, reserve, keeps, LOp.isNew, State.prune, cellsQ, cellsT, AV.leaf, Heap.at, evLoad_ptr, evLoad_dptr, loadO_vec, loadO_dvec1, stepK_load_map, idx_I, idx_U, idx_Rat, idx_Loc, idx_Act, idx_Step, idx_Stamp, stepK_idx_ref, evStore_ptr, storeO_vec, stepK_store_map1, loadDT_f, rowI, rowU, RatG.row, LocG.row, ActG.row, StepG.row, StampG.row, ActG.av, ActG.eta, RatG.eta, LocG.eta, beq_true, beq_false, loadDT_t, set_rowI, set_rowU, app_rowI, app_rowU, rep_rowI, rep_rowU, set_rowRat, app_rowRat, rep_rowRat, set_rowLoc, app_rowLoc, app_rowAct, app_rowStep, List.length_set, List.length_replicate, Int.toNat_natCast, Int.reduceToNat, evLen, evAppend, srcOf, Src.all, Src.len, Src.leaf, Src.leafN, evApart, aliveQ, joinV, drows_rep1, drows_rep2, drows_rep3, drows_rep4, drows_rep5, drows_rep6, drows_rep7, drows_rep8, mkVec, drows, evMk, List.length_map, take_mapF, drop_mapF, List.take_length, List.take_left, List.length_append, Nat.le_add_right, ite_self, List.take_of_length_le, evSlice, intOr, intOpd, Option.isSome_none, Option.isSome_some, Nat.sub_zero, loadQ, loadT, evBin, evUn, binT, binQ, chk, apartF, List.contains_cons, List.contains_nil, Bool.or_false, Bool.false_or, Bool.and_self, resQ, resV, resT, pickV, evCallT, evTake, evCall, fnOf, viewsT, isD, HO.drow, viewT, evInt2, evEq, eqV, eqK, eqC1, buildQ, buildT, buildRQ, buildRT, lens_I, lensA_I, lens_U, lensA_U, lens_Rat, lensA_Rat, lens_Loc, lensA_Loc, lens_Act, lensA_Act, lens_Step, lensA_Step, lens_Stamp, lensA_Stamp, List.mem_cons, List.not_mem_nil, or_false, forall_eq, putRow, dcells, get_nil, RetS, RetF, RetD, AV.frz, AV.frzL, AV.freshP, AV.freshL, DV.less, scal_int, scal_bool, scal_nil, scal_rowI, scal_rowU, scal_rowRat, scal_rowStep, Option.some.injEq, AV.tup.injEq, AV.agg.injEq, List.cons.injEq, DV.list.injEq, List.isEmpty_nil, Nat.le_refl, AV.d.injEq, DV.int.injEq, DV.bool.injEq, ↓reduceIte, Nat.reduceEqDiff, Nat.reduceAdd, Nat.reduceBEq, List.length_cons, List.length_nil, List.replicate_succ, List.replicate_zero, List.nil_append, List.cons_append, List.append_nil, List.foldl_cons, List.foldl_nil, List.map_cons, List.map_nil, List.all_cons, List.all_nil, List.set_cons_zero, List.set_cons_succ, List.getD_cons_zero, List.getD_cons_succ, List.drop_zero, List.drop_succ_cons, List.take_succ_cons, List.take_zero, List.flatten_cons, List.flatten_nil, Bool.true_and, Bool.and_true, Bool.not_true, Bool.not_false, true_and, and_true, true_or, or_true, Option.bind_some, Option.map_some, decide_true, decide_false, beq_self_eq_true, true_implies, false_implies, implies_true, not_true_eq_false, not_false_eq_true, and_self, Bool.and_false, Bool.false_and, Nat.reduceLT, Nat.reduceLeDiff, List.reverse_cons, List.reverse_nil, Nat.zero_add, Nat.add_zero, Bool.false_eq_true, List.getElem?_cons_zero, raSt1, accAV, accO, F1, G1, F2, G2, F3, G3, F4, G4, at_rplain, at_Has, loadO_vec, storeO_vec]
  case' nil =>
    refine ⟨fun c => ⟨⟨by omega, by omega⟩, ?_⟩, fun c => ?_⟩
  case' cons =>
    refine ⟨fun c => ⟨⟨by omega, by omega⟩, ?_⟩, fun c => ?_⟩
  case nil.refine_2 =>
    have hie : i = ss.length := by omega
    subst hie
    rw [← hL]; rfl
  case cons.refine_2 =>
    have hie : i = ss.length := by omega
    subst hie
    rw [← hL]; rfl
  case' nil.refine_1 =>
    refine Loop.fam [2, 29, 30, 31, 12, 13, 10, 14, 11] (raSt2 ss g R i) (fun x => i < x.1 ∧ x.1 ≤ ss.length ∧ x.2 = pAll (rcB R ss) ss.length i ++ pRow (rcB R ss) i x.1) (fun x => ss.length - x.1) (i + 1, []) [0, 1] (by simp) (by simp) (by simp only [State.can, AV.can, AV.canL, HO.can, canRows, idx, get_hit, get_next, Heap.at, Nat.reduceBEq, ↓reduceIte, Nat.reduceEqDiff, Option.getD_some, Option.map_some, List.map_cons, List.map_nil, List.getD_cons_zero, List.getD_cons_succ, raSt2, accAV, accO, wrap_succ (show i < ss.length by omega) (by omega)]) ⟨Nat.lt_succ_self _, by show i + 1 ≤ _; omega, by show [] = _; rw [pRow_start, ← hL]; rfl⟩ ?_
  case' cons.refine_1 =>
    refine Loop.fam [2, 29, 30, 31, 12, 13, 10, 14, 11] (raSt2 ss g R i) (fun x => i < x.1 ∧ x.1 ≤ ss.length ∧ x.2 = pAll (rcB R ss) ss.length i ++ pRow (rcB R ss) i x.1) (fun x => ss.length - x.1) (i + 1, c0 :: e0) [0, 2, 1] (by simp) (by simp) (by simp only [State.can, AV.can, AV.canL, HO.can, canRows, idx, get_hit, get_next, Heap.at, Nat.reduceBEq, ↓reduceIte, Nat.reduceEqDiff, Option.getD_some, Option.map_some, List.map_cons, List.map_nil, List.getD_cons_zero, List.getD_cons_succ, raSt2, accAV, accO, wrap_succ (show i < ss.length by omega) (by omega)]; rfl) ⟨Nat.lt_succ_self _, by show i + 1 ≤ _; omega, by show c0 :: e0 = _; rw [pRow_start, ← hL, List.append_nil]⟩ ?_
  all_goals
    have hi' : i < ss.length := by omega
    clear hL hLl hLb
    rintro ⟨k, M⟩ ⟨hik, hk, hM⟩
    have hik : i < k := hik
    have hk : k ≤ ss.length := hk
    have hM : M = pAll (rcB R ss) ss.length i ++ pRow (rcB R ss) i k := hM
    have hMl : M.length ≤ 4160 := by
      rw [hM, List.length_append]
      have h1 := pAll_len (rcB R ss) ss.length i
      have h2 := pRow_len (rcB R ss) i k
      have h3 : i * ss.length ≤ 64 * 64 := Nat.mul_le_mul (by omega) hs
      omega
    obtain _ | ⟨d, r⟩ := M
    case' nil =>
      simp (maxSteps := 3000000) only [↓vck_skip, ↓vck_ret, ↓vck_exit, ↓vck_region, ↓vck_nilq, ↓nilTo_to, nilG_d, nilG_r, ↓vck_seq, ↓vck_cond, ↓vck_block, ↓vck_loop, ↓vckTo_to, ↓thenK_n, ↓thenK_x, ↓thenK_r, ↓blockK_n, ↓blockK_x, ↓blockK_o, ↓blockK_r, ↓regK_to, ↓retK_r, ↓retK_n, ↓loopV_n, ↓loopV_x, ↓loopV_r, ↓famK_n, ↓famK_x, ↓famK_r, ↓boolK_true, ↓boolK_false, ↓boolK_not, ↓boolK_dec, ↓boolK_and, nf_mk, RGk_end_f, RGk_end_t, RGk_op, RGk_guard, opK_to, evN, evCallN, grow_mk, feet_f, feet_t, foot_mk, stepK_mk, stepK_v, stepK_no, guardG_t, guardG_f, guardG_no, condG_b, evT, Opd.ev, get_hit, get_next, app_to, app_no, app_up, app_skip, app_skipn, know_mk, knowO_t, knowO_c, envFrom, reserve, keeps, LOp.isNew, State.prune, cellsQ, cellsT, AV.leaf, Heap.at, evLoad_ptr, evLoad_dptr, loadO_vec, loadO_dvec1, stepK_load_map, idx_I, idx_U, idx_Rat, idx_Loc, idx_Act, idx_Step, idx_Stamp, stepK_idx_ref, evStore_ptr, storeO_vec, stepK_store_map1, loadDT_f, rowI, rowU, RatG.row, LocG.row, ActG.row, StepG.row, StampG.row, ActG.av, ActG.eta, RatG.eta, LocG.eta, beq_true, beq_false, loadDT_t, set_rowI, set_rowU, app_rowI, app_rowU, rep_rowI, rep_rowU, set_rowRat, app_rowRat, rep_rowRat, set_rowLoc, app_rowLoc, app_rowAct, app_rowStep, List.length_set, List.length_replicate, Int.toNat_natCast, Int.reduceToNat, evLen, evAppend, srcOf, Src.all, Src.len, Src.leaf, Src.leafN, evApart, aliveQ, joinV, drows_rep1, drows_rep2, drows_rep3, drows_rep4, drows_rep5, drows_rep6, drows_rep7, drows_rep8, mkVec, drows, evMk, List.length_map, take_mapF, drop_mapF, List.take_length, List.take_left, List.length_append, Nat.le_add_right, ite_self, List.take_of_length_le, evSlice, intOr, intOpd, Option.isSome_none, Option.isSome_some, Nat.sub_zero, loadQ, loadT, evBin, evUn, binT, binQ, chk, apartF, List.contains_cons, List.contains_nil, Bool.or_false, Bool.false_or, Bool.and_self, resQ, resV, resT, pickV, evCallT, evTake, evCall, fnOf, viewsT, isD, HO.drow, viewT, evInt2, evEq, eqV, eqK, eqC1, buildQ, buildT, buildRQ, buildRT, lens_I, lensA_I, lens_U, lensA_U, lens_Rat, lensA_Rat, lens_Loc, lensA_Loc, lens_Act, lensA_Act, lens_Step, lensA_Step, lens_Stamp, lensA_Stamp, List.mem_cons, List.not_mem_nil, or_false, forall_eq, putRow, dcells, get_nil, RetS, RetF, RetD, AV.frz, AV.frzL, AV.freshP, AV.freshL, DV.less, scal_int, scal_bool, scal_nil, scal_rowI, scal_rowU, scal_rowRat, scal_rowStep, Option.some.injEq, AV.tup.injEq, AV.agg.injEq, List.cons.injEq, DV.list.injEq, List.isEmpty_nil, Nat.le_refl, AV.d.injEq, DV.int.injEq, DV.bool.injEq, ↓reduceIte, Nat.reduceEqDiff, Nat.reduceAdd, Nat.reduceBEq, List.length_cons, List.length_nil, List.replicate_succ, List.replicate_zero, List.nil_append, List.cons_append, List.append_nil, List.foldl_cons, List.foldl_nil, List.map_cons, List.map_nil, List.all_cons, List.all_nil, List.set_cons_zero, List.set_cons_succ, List.getD_cons_zero, List.getD_cons_succ, List.drop_zero, List.drop_succ_cons, List.take_succ_cons, List.take_zero, List.flatten_cons, List.flatten_nil, Bool.true_and, Bool.and_true, Bool.not_true, Bool.not_false, true_and, and_true, true_or, or_true, Option.bind_some, Option.map_some, decide_true, decide_false, beq_self_eq_true, true_implies, false_implies, implies_true, not_true_eq_false, not_false_eq_true, and_self, Bool.and_false, Bool.false_and, Nat.reduceLT, Nat.reduceLeDiff, List.reverse_cons, List.reverse_nil, Nat.zero_add, Nat.add_zero, Bool.false_eq_true, List.getElem?_cons_zero, raSt2, accAV, accO, F1, G1, F2, G2, F3, G3, F4, G4, at_rplain, at_Has, loadO_vec, storeO_vec]
    case' cons =>
      simp (maxSteps := 3000000) only [↓vck_skip, ↓vck_ret, ↓vck_exit, ↓vck_region, ↓vck_nilq, ↓nilTo_to, nilG_d, nilG_r, ↓vck_seq, ↓vck_cond, ↓vck_block, ↓vck_loop, ↓vckTo_to, ↓thenK_n, ↓thenK_x, ↓thenK_r, ↓blockK_n, ↓blockK_x, ↓blockK_o, ↓blockK_r, ↓regK_to, ↓retK_r, ↓retK_n, ↓loopV_n, ↓loopV_x, ↓loopV_r, ↓famK_n, ↓famK_x, ↓famK_r, ↓boolK_true, ↓boolK_false, ↓boolK_not, ↓boolK_dec, ↓boolK_and, nf_mk, RGk_end_f, RGk_end_t, RGk_op, RGk_guard, opK_to, evN, evCallN, grow_mk, feet_f, feet_t, foot_mk, stepK_mk, stepK_v, stepK_no, guardG_t, guardG_f, guardG_no, condG_b, evT, Opd.ev, get_hit, get_next, app_to, app_no, app_up, app_skip, app_skipn, know_mk, knowO_t, knowO_c, envFrom, reserve, keeps, LOp.isNew, State.prune, cellsQ, cellsT, AV.leaf, Heap.at, evLoad_ptr, evLoad_dptr, loadO_vec, loadO_dvec1, stepK_load_map, idx_I, idx_U, idx_Rat, idx_Loc, idx_Act, idx_Step, idx_Stamp, stepK_idx_ref, evStore_ptr, storeO_vec, stepK_store_map1, loadDT_f, rowI, rowU, RatG.row, LocG.row, ActG.row, StepG.row, StampG.row, ActG.av, ActG.eta, RatG.eta, LocG.eta, beq_true, beq_false, loadDT_t, set_rowI, set_rowU, app_rowI, app_rowU, rep_rowI, rep_rowU, set_rowRat, app_rowRat, rep_rowRat, set_rowLoc, app_rowLoc, app_rowAct, app_rowStep, List.length_set, List.length_replicate, Int.toNat_natCast, Int.reduceToNat, evLen, evAppend, srcOf, Src.all, Src.len, Src.leaf, Src.leafN, evApart, aliveQ, joinV, drows_rep1, drows_rep2, drows_rep3, drows_rep4, drows_rep5, drows_rep6, drows_rep7, drows_rep8, mkVec, drows, evMk, List.length_map, take_mapF, drop_mapF, List.take_length, List.take_left, List.length_append, Nat.le_add_right, ite_self, List.take_of_length_le, evSlice, intOr, intOpd, Option.isSome_none, Option.isSome_some, Nat.sub_zero, loadQ, loadT, evBin, evUn, binT, binQ, chk, apartF, List.contains_cons, List.contains_nil, Bool.or_false, Bool.false_or, Bool.and_self, resQ, resV, resT, pickV, evCallT, evTake, evCall, fnOf, viewsT, isD, HO.drow, viewT, evInt2, evEq, eqV, eqK, eqC1, buildQ, buildT, buildRQ, buildRT, lens_I, lensA_I, lens_U, lensA_U, lens_Rat, lensA_Rat, lens_Loc, lensA_Loc, lens_Act, lensA_Act, lens_Step, lensA_Step, lens_Stamp, lensA_Stamp, List.mem_cons, List.not_mem_nil, or_false, forall_eq, putRow, dcells, get_nil, RetS, RetF, RetD, AV.frz, AV.frzL, AV.freshP, AV.freshL, DV.less, scal_int, scal_bool, scal_nil, scal_rowI, scal_rowU, scal_rowRat, scal_rowStep, Option.some.injEq, AV.tup.injEq, AV.agg.injEq, List.cons.injEq, DV.list.injEq, List.isEmpty_nil, Nat.le_refl, AV.d.injEq, DV.int.injEq, DV.bool.injEq, ↓reduceIte, Nat.reduceEqDiff, Nat.reduceAdd, Nat.reduceBEq, List.length_cons, List.length_nil, List.replicate_succ, List.replicate_zero, List.nil_append, List.cons_append, List.append_nil, List.foldl_cons, List.foldl_nil, List.map_cons, List.map_nil, List.all_cons, List.all_nil, List.set_cons_zero, List.set_cons_succ, List.getD_cons_zero, List.getD_cons_succ, List.drop_zero, List.drop_succ_cons, List.take_succ_cons, List.take_zero, List.flatten_cons, List.flatten_nil, Bool.true_and, Bool.and_true, Bool.not_true, Bool.not_false, true_and, and_true, true_or, or_true, Option.bind_some, Option.map_some, decide_true, decide_false, beq_self_eq_true, true_implies, false_implies, implies_true, not_true_eq_false, not_false_eq_true, and_self, Bool.and_false, Bool.false_and, Nat.reduceLT, Nat.reduceLeDiff, List.reverse_cons, List.reverse_nil, Nat.zero_add, Nat.add_zero, Bool.false_eq_true, List.getElem?_cons_zero, raSt2, accAV, accO, F1, G1, F2, G2, F3, G3, F4, G4, at_rplain, at_Has, loadO_vec, storeO_vec]
    case' nil =>
      refine ⟨fun c => ⟨⟨by omega, by omega⟩, ?_⟩, fun c => ?_⟩
    case' cons =>
      refine ⟨fun c => ⟨⟨by omega, by omega⟩, ?_⟩, fun c => ?_⟩
    case nil.refine_2 =>
      have hke : k = ss.length := by omega
      subst hke
      exact FamNext.mk [0] (i + 1, []) (by simp) (by simp) (by simp only [State.can, AV.can, AV.canL, HO.can, canRows, idx, get_hit, get_next, Heap.at, Nat.reduceBEq, ↓reduceIte, Nat.reduceEqDiff, Option.getD_some, Option.map_some, List.map_cons, List.map_nil, List.getD_cons_zero, List.getD_cons_succ, raSt1, accAV, accO, wrap_succ hi' (by omega)]) ⟨by show i + 1 ≤ _; omega, by show [] = _; rw [pAll_succ, ← hM]⟩ (by show _ - (i + 1) < _ - i; omega)
    case cons.refine_2 =>
      have hke : k = ss.length := by omega
      subst hke
      exact FamNext.mk [0, 2] (i + 1, d :: r) (by simp) (by simp) (by simp only [State.can, AV.can, AV.canL, HO.can, canRows, idx, get_hit, get_next, Heap.at, Nat.reduceBEq, ↓reduceIte, Nat.reduceEqDiff, Option.getD_some, Option.map_some, List.map_cons, List.map_nil, List.getD_cons_zero, List.getD_cons_succ, raSt1, accAV, accO, wrap_succ hi' (by omega)]; rfl) ⟨by show i + 1 ≤ _; omega, by show d :: r = _; rw [pAll_succ, ← hM]⟩ (by show _ - (i + 1) < _ - i; omega)
    case nil.refine_1 =>
      have hkl : k < ss.length := by omega
      have yes : rcB R ss i k = true → [⟨(i : Int), (k : Int)⟩] = pAll (rcB R ss) ss.length i ++ pRow (rcB R ss) i (k + 1) := fun h => by
        rw [pRow_succ _ hik, if_pos h, ← List.append_assoc, ← hM]; rfl
      have no : rcB R ss i k = false → [] = pAll (rcB R ss) ss.length i ++ pRow (rcB R ss) i (k + 1) := fun h => by
        rw [pRow_succ _ hik, if_neg (by rw [h]; decide), List.append_nil, ← hM]
      have hroom : roomy 1 16 := roomy_of (by decide) (by decide)
      clear hM
      have hb : (0 : Int) ≤ k ∧ (k : Int) < ss.length := ⟨by omega, by omega⟩
      refine ⟨fun c => ⟨fun c1 => ⟨fun c2 => ⟨hb, fun c3 => ?_, fun c3 => ⟨fun c4 => ⟨hRl, fun c5 => ?_, fun c5 => ⟨hroom, ?_⟩⟩, fun c4 => ⟨fun c6 => ⟨hRl, fun c5 => ?_, fun c5 => ⟨hroom, ?_⟩⟩, fun c6 => ?_⟩⟩⟩, fun c2 => ?_⟩, fun c1 => ?_⟩, fun c => ?_⟩
      all_goals first
        | exact FamNext.mk [0, 1, 5] (k + 1, [⟨(i : Int), (k : Int)⟩]) (by simp) (by simp) (by simp only [State.can, AV.can, AV.canL, HO.can, canRows, idx, get_hit, get_next, Heap.at, Nat.reduceBEq, ↓reduceIte, Nat.reduceEqDiff, Option.getD_some, Option.map_some, List.map_cons, List.map_nil, List.getD_cons_zero, List.getD_cons_succ, raSt2, accAV, accO, List.length_append, List.length_singleton, wrap_succ hkl (by omega)]; rfl) ⟨by show i < k + 1; omega, by show k + 1 ≤ _; omega, yes (by unfold rcB; simp only [*, pl2, decide_true, decide_false, Bool.and_true, Bool.true_and, Bool.and_false, Bool.false_and, Bool.or_true, Bool.true_or, Bool.not_true, Bool.not_false, Bool.or_false, Bool.false_or, reduceCtorEq])⟩ (by show _ - (k + 1) < _ - k; omega)
        | exact FamNext.mk [0, 1] (k + 1, []) (by simp) (by simp) (by simp only [State.can, AV.can, AV.canL, HO.can, canRows, idx, get_hit, get_next, Heap.at, Nat.reduceBEq, ↓reduceIte, Nat.reduceEqDiff, Option.getD_some, Option.map_some, List.map_cons, List.map_nil, List.getD_cons_zero, List.getD_cons_succ, raSt2, accAV, accO, List.length_append, List.length_singleton, wrap_succ hkl (by omega)]) ⟨by show i < k + 1; omega, by show k + 1 ≤ _; omega, no (by unfold rcB; simp only [*, pl2, decide_true, decide_false, Bool.and_true, Bool.true_and, Bool.and_false, Bool.false_and, Bool.or_true, Bool.true_or, Bool.not_true, Bool.not_false, Bool.or_false, Bool.false_or, reduceCtorEq])⟩ (by show _ - (k + 1) < _ - k; omega)
    case cons.refine_1 =>
      have hkl : k < ss.length := by omega
      have yes : rcB R ss i k = true → d :: (r ++ [⟨(i : Int), (k : Int)⟩]) = pAll (rcB R ss) ss.length i ++ pRow (rcB R ss) i (k + 1) := fun h => by
        rw [pRow_succ _ hik, if_pos h, ← List.append_assoc, ← hM]; rfl
      have no : rcB R ss i k = false → d :: r = pAll (rcB R ss) ss.length i ++ pRow (rcB R ss) i (k + 1) := fun h => by
        rw [pRow_succ _ hik, if_neg (by rw [h]; decide), List.append_nil, ← hM]
      have hroom : roomy (r.length + 1 + 1) 16 := roomy_of (by have := hMl; simp only [List.length_cons] at this; omega) (by decide)
      clear hM
      have hb : (0 : Int) ≤ k ∧ (k : Int) < ss.length := ⟨by omega, by omega⟩
      refine ⟨fun c => ⟨fun c1 => ⟨fun c2 => ⟨hb, fun c3 => ?_, fun c3 => ⟨fun c4 => ⟨hRl, fun c5 => ?_, fun c5 => ⟨hroom, ?_⟩⟩, fun c4 => ⟨fun c6 => ⟨hRl, fun c5 => ?_, fun c5 => ⟨hroom, ?_⟩⟩, fun c6 => ?_⟩⟩⟩, fun c2 => ?_⟩, fun c1 => ?_⟩, fun c => ?_⟩
      all_goals first
        | exact FamNext.mk [0, 1, 6] (k + 1, d :: (r ++ [⟨(i : Int), (k : Int)⟩])) (by simp) (by simp) (by simp only [State.can, AV.can, AV.canL, HO.can, canRows, idx, get_hit, get_next, Heap.at, Nat.reduceBEq, ↓reduceIte, Nat.reduceEqDiff, Option.getD_some, Option.map_some, List.map_cons, List.map_nil, List.getD_cons_zero, List.getD_cons_succ, raSt2, accAV, accO, List.length_append, List.length_singleton, wrap_succ hkl (by omega)]; rfl) ⟨by show i < k + 1; omega, by show k + 1 ≤ _; omega, yes (by unfold rcB; simp only [*, pl2, decide_true, decide_false, Bool.and_true, Bool.true_and, Bool.and_false, Bool.false_and, Bool.or_true, Bool.true_or, Bool.not_true, Bool.not_false, Bool.or_false, Bool.false_or, reduceCtorEq])⟩ (by show _ - (k + 1) < _ - k; omega)
        | exact FamNext.mk [0, 1, 2] (k + 1, d :: r) (by simp) (by simp) (by simp only [State.can, AV.can, AV.canL, HO.can, canRows, idx, get_hit, get_next, Heap.at, Nat.reduceBEq, ↓reduceIte, Nat.reduceEqDiff, Option.getD_some, Option.map_some, List.map_cons, List.map_nil, List.getD_cons_zero, List.getD_cons_succ, raSt2, accAV, accO, List.length_append, List.length_singleton, wrap_succ hkl (by omega)]; rfl) ⟨by show i < k + 1; omega, by show k + 1 ≤ _; omega, no (by unfold rcB; simp only [*, pl2, decide_true, decide_false, Bool.and_true, Bool.true_and, Bool.and_false, Bool.false_and, Bool.or_true, Bool.true_or, Bool.not_true, Bool.not_false, Bool.or_false, Bool.false_or, reduceCtorEq])⟩ (by show _ - (k + 1) < _ - k; omega)
end Go.Ago

/- Package race: Weak. Conditions: none. -/
set_option maxRecDepth 100000
set_option linter.unusedSimpArgs false
set_option linter.unusedVariables false
namespace Go.Ago
instance : Inhabited MemG := ⟨⟨[], false, [], false, [], false, [], false, [], false⟩⟩
end Go.Ago

/- Contracts of the reference of layer 2: its small functions, Put, Of, Lay, Then, Back. Conditions: none. -/
set_option maxRecDepth 100000
set_option linter.unusedSimpArgs false
set_option linter.unusedVariables false
namespace Go.Ago

/-! ### Put -/
end Go.Ago

/- Contracts of the reference of layer 2: most, Copy, Same, Of, Lay, Then, Back. Conditions: none. -/
set_option maxRecDepth 100000
set_option linter.unusedSimpArgs false
set_option linter.unusedVariables false
namespace Go.Ago

theorem szR_mk' {n : Nat} {p : Nat → Nat → Bool} (h : n ≤ 64) : szR (mkR n p) = n := by rw [szR_mk]; omega
end Go.Ago

/- Contracts of the reference of layer 2: Lay, Then, Back. Conditions: none. -/
set_option maxRecDepth 100000
set_option linter.unusedSimpArgs false
set_option linter.unusedVariables false
namespace Go.Ago

/-! Row by row, place by place: what lies ahead of (i, k). -/
/-! ### Lay -/
/-! ### Back -/
/-! ### Then -/
end Go.Ago

/- Ways: what is reached from where. Conditions: none. -/
set_option linter.unusedSimpArgs false
set_option linter.unusedVariables false
namespace Go.Ago

section
variable {p : Nat → Nat → Bool}
theorem way_up {m i k : Nat} (h : way p m i k = true) : way p (m + 1) i k = true := by simp only [way, h, Bool.true_or]
theorem way_mono {m m' i k : Nat} (hm : m ≤ m') (h : way p m i k = true) : way p m' i k = true := by
  induction hm with
  | refl => exact h
  | step _ ih => exact way_up ih
theorem way_of {m i k : Nat} (h : p i k = true) : way p m i k = true := way_mono (Nat.zero_le m) (by simpa only [way] using h)
theorem way_trans {m i j k : Nat} (hj : j < m) (h1 : way p m i j = true) (h2 : way p m j k = true) : way p m i k = true := by
  induction m generalizing i j k with
  | zero => omega
  | succ m ih =>
    simp only [way, Bool.or_eq_true, Bool.and_eq_true] at h1 h2 ⊢
    by_cases e : j = m
    · subst e
      have g1 : way p j i j = true := by rcases h1 with h | h; exact h; exact h.1
      have g2 : way p j j k = true := by rcases h2 with h | h; exact h; exact h.2
      exact .inr ⟨g1, g2⟩
    · have hj' : j < m := by omega
      rcases h1 with h1 | ⟨h1, h1'⟩
      · rcases h2 with h2 | ⟨h2, h2'⟩
        · exact .inl (ih hj' h1 h2)
        · exact .inr ⟨ih hj' h1 h2, h2'⟩
      · rcases h2 with h2 | ⟨h2, h2'⟩
        · exact .inr ⟨h1, ih hj' h1' h2⟩
        · exact .inr ⟨h1, h2'⟩
/-- The least that is closed. -/
theorem way_min {V : Nat → Bool} (hc : ∀ b c, V b = true → p b c = true → V c = true) {m i : Nat} (hs : ∀ b, p i b = true → V b = true) : ∀ {k : Nat}, way p m i k = true → V k = true := by
  suffices h : ∀ m a k, (V a = true ∨ a = i) → way p m a k = true → V k = true from fun {k} hk => h m i k (.inr rfl) hk
  intro m
  induction m with
  | zero =>
    intro a k ha hk
    simp only [way] at hk
    rcases ha with ha | ha
    · exact hc a k ha hk
    · subst ha; exact hs k hk
  | succ m ih =>
    intro a k ha hk
    simp only [way, Bool.or_eq_true, Bool.and_eq_true] at hk
    rcases hk with hk | ⟨h1, h2⟩
    · exact ih a k ha hk
    · exact ih m k (.inl (ih a m ha h1)) h2
theorem way_lt {n : Nat} (hp : ∀ a b, p a b = true → a < n ∧ b < n) {m i k : Nat} (h : way p m i k = true) : i < n ∧ k < n := by
  induction m generalizing i k with
  | zero => exact hp i k (by simpa only [way] using h)
  | succ m ih =>
    simp only [way, Bool.or_eq_true, Bool.and_eq_true] at h
    rcases h with h | ⟨h1, h2⟩
    · exact ih h
    · exact ⟨(ih h1).1, (ih h2).2⟩
end

/-- What the search for all that is reached from i keeps: T is still to be looked at; of the one that is looked at, the first k are done. -/
structure Seek (A : List W) (n i : Nat) (V : Nat → Bool) (T : List Nat) (q : Nat → Nat → Prop) : Prop where
  sound : ∀ b, V b = true → b < n ∧ way (hasN A) n i b = true
  start : ∀ b, hasN A i b = true → V b = true
  todo : ∀ b ∈ T, V b = true
  done : ∀ b c, V b = true → hasN A b c = true → b ∈ T ∨ V c = true ∨ q b c

theorem Seek.end {A : List W} {n i : Nat} {V : Nat → Bool} (h : Seek A n i V [] fun _ _ => False) (b : Nat) : V b = way (hasN A) n i b := by
  apply beq_of_iff
  refine ⟨fun hv => (h.sound b hv).2, fun hw => way_min (V := V) (fun b c hb hc => ?_) h.start hw⟩
  rcases h.done b c hb hc with h1 | h1 | h1
  · simp at h1
  · exact h1
  · exact h1.elim

theorem Seek.skip {A : List W} {n i j k : Nat} {V : Nat → Bool} {T : List Nat} (h : Seek A n i V T fun b c => b = j ∧ k ≤ c) (hk : hasN A j k = false ∨ V k = true) : Seek A n i V T fun b c => b = j ∧ k + 1 ≤ c :=
  ⟨h.sound, h.start, h.todo, fun b c h1 h2 => by
    rcases h.done b c h1 h2 with h3 | h3 | ⟨h3, h4⟩
    · exact .inl h3
    · exact .inr (.inl h3)
    · by_cases e : c = k
      · subst e; subst h3
        rcases hk with hk | hk
        · rw [hk] at h2; cases h2
        · exact .inr (.inl hk)
      · exact .inr (.inr ⟨h3, by omega⟩)⟩
theorem Seek.rest {A : List W} {n i j : Nat} {V : Nat → Bool} {T : List Nat} (h : Seek A n i V T fun b c => b = j ∧ n ≤ c) (hn : szR A ≤ n) : Seek A n i V T fun _ _ => False :=
  ⟨h.sound, h.start, h.todo, fun b c h1 h2 => by
    rcases h.done b c h1 h2 with h3 | h3 | ⟨h3, h4⟩
    · exact .inl h3
    · exact .inr (.inl h3)
    · have := (hasN_lt h2).2; omega⟩
end Go.Ago

/- Law 22: awake, raced, and RaceOrder. Conditions: none. -/
set_option maxRecDepth 100000
set_option linter.unusedSimpArgs false
set_option linter.unusedVariables false
namespace Go.Ago
/-! ### The order -/
def dirN (ss : List StepG) (i k : Nat) : Bool := decide (k < ss.length) && (decide (i < k) && dirQ ss i k)
theorem ofP_all {q : Nat → Nat → Bool} {n i k : Nat} (hi : i < n) (hk : k < n) : ofP (pAll q n n) i k = (decide (i < k) && q i k) := by
  rw [Bool.eq_iff_iff]
  unfold ofP
  rw [List.any_eq_true]
  constructor
  · rintro ⟨x, hx, h⟩
    obtain ⟨a, b, h1, h2, h3, h4, rfl⟩ := pAll_mem.1 hx
    simp only [Bool.and_eq_true, decide_eq_true_eq] at h ⊢
    obtain ⟨e1, e2⟩ := h
    have e1 : a = i := by omega
    have e2 : b = k := by omega
    subst e1; subst e2
    exact ⟨h3, h4⟩
  · intro h
    simp only [Bool.and_eq_true, decide_eq_true_eq] at h
    exact ⟨⟨i, k⟩, pAll_mem.2 ⟨i, k, hi, hk, h.1, h.2, rfl⟩, by simp⟩
theorem ofErr_all {q : Nat → Nat → Bool} {n : Nat} (hn : n ≤ 64) : ofErr n (pAll q n n) = 0 := by
  unfold ofErr
  rw [if_neg (by omega)]
  have : (pAll q n n).any (ofBad n) = false := by
    rw [List.any_eq_false]
    intro x hx
    obtain ⟨a, b, h1, h2, h3, h4, rfl⟩ := pAll_mem.1 hx
    simp [ofBad]; omega
  rw [this]; rfl
theorem ofG_all {q : Nat → Nat → Bool} {n : Nat} (hn : n ≤ 64) : ofG n (pAll q n n) = mkR n (fun i k => decide (i < k) && q i k) := by
  unfold ofG
  rw [if_pos (ofErr_all hn), Int.toNat_natCast]
  exact mkR_congr fun a b ha hb => ofP_all ha hb
theorem ord_len {ss : List StepG} (hn : ss.length ≤ 64) : (ordG ss).length = ss.length := by
  unfold ordG plusG
  rw [ofG_all hn, mkR_len, szR_mk' hn]
theorem ord_has {ss : List StepG} (hn : ss.length ≤ 64) {i k : Nat} : hasI (ordG ss) i k = way (dirN ss) ss.length i k := by
  have hp : ∀ a b, hasN (mkR ss.length (fun i k => decide (i < k) && dirQ ss i k)) a b = dirN ss a b := fun a b => by
    rw [hasN_mk hn]
    unfold dirN
    by_cases h : b < ss.length
    · by_cases h2 : a < b
      · have : a < ss.length := by omega
        simp [h, h2, this]
      · simp [h, h2]
    · simp [h]
  unfold ordG plusG
  rw [ofG_all hn, szR_mk' hn, hasI_nat, hasN_mk hn]
  have hw : hasN (mkR ss.length (fun i k => decide (i < k) && dirQ ss i k)) = dirN ss := by funext a b; exact hp a b
  rw [hw]
  by_cases h : way (dirN ss) ss.length i k = true
  · have := way_lt (n := ss.length) (fun a b e => by
      unfold dirN at e
      simp only [Bool.and_eq_true, decide_eq_true_eq] at e
      omega) h
    simp [h, this]
  · rw [Bool.not_eq_true] at h
    rw [h, Bool.and_false]
theorem dirN_iff {ss : List StepG} {i k : Nat} : dirN ss i k = true ↔ k < ss.length ∧ i < k ∧ dirQ ss i k = true := by unfold dirN; simp
/-- A path of the order: what is reached from a step. -/
theorem ord_min {ss : List StepG} (hn : ss.length ≤ 64) {i : Nat} {P : Nat → Prop} (hs : ∀ k, k < ss.length → i < k → dirQ ss i k = true → P k) (hc : ∀ j k, P j → i < j → j < k → k < ss.length → dirQ ss j k = true → P k) {k : Nat} (h : hasI (ordG ss) i k = true) : i < k ∧ k < ss.length ∧ P k := by
  rw [ord_has hn] at h
  classical
  have := way_min (p := dirN ss) (V := fun k => decide (i < k ∧ k < ss.length ∧ P k)) (fun b c hb hbc => by
    simp only [decide_eq_true_eq] at hb ⊢
    obtain ⟨h1, h2, h3⟩ := dirN_iff.1 hbc
    exact ⟨by omega, h1, hc b c hb.2.2 hb.1 h2 h1 h3⟩) (i := i) (fun b hb => by
    simp only [decide_eq_true_eq]
    obtain ⟨h1, h2, h3⟩ := dirN_iff.1 hb
    exact ⟨h2, h1, hs b h1 h2 h3⟩) h
  simpa using this
theorem ord_lt {ss : List StepG} (hn : ss.length ≤ 64) {i k : Nat} (h : hasI (ordG ss) i k = true) : i < k ∧ k < ss.length := by
  have := ord_min hn (P := fun _ => True) (fun _ _ _ _ => trivial) (fun _ _ _ _ _ _ _ => trivial) h
  exact ⟨this.1, this.2.1⟩
theorem ord_of {ss : List StepG} (hn : ss.length ≤ 64) {i k : Nat} (hik : i < k) (hk : k < ss.length) (h : dirQ ss i k = true) : hasI (ordG ss) i k = true := by
  rw [ord_has hn]; exact way_of (dirN_iff.2 ⟨hk, hik, h⟩)
theorem ord_trans {ss : List StepG} (hn : ss.length ≤ 64) {i j k : Nat} (h1 : hasI (ordG ss) i j = true) (h2 : hasI (ordG ss) j k = true) : hasI (ordG ss) i k = true := by
  have hj := (ord_lt hn h1).2
  rw [ord_has hn] at h1 h2 ⊢
  exact way_trans hj h1 h2
/-! ### awake -/
def aw22 : List StepG := [⟨0, ⟨2, 0, 0, 1⟩, ⟨1, 1⟩⟩, ⟨1, ⟨1, 0, 1, 0⟩, ⟨1, 1⟩⟩]
theorem aw22_err : playErr [⟨false, 0⟩] 2 aw22 = 0 := by decide +kernel
theorem aw22_races : (racesL [⟨false, 0⟩] 2 aw22).length = 1 ∧ (racesL [⟨false, 0⟩] 2 aw22).getD 0 default = ⟨0, 1⟩ := by decide +kernel
set_option maxHeartbeats 4000000 in
theorem body_law22_awake {T : Tab} {n1 : Nat} (k1 : Knows T n1 sp_Races) : sp_true.Body T V_law22_awake (L_law22_awake n1) R_law22_awake := by
  have F1 := k1.F; have G1 := k1.G
  rintro x -
  refine .inl ⟨rfl, ?_⟩
  unfold V_law22_awake L_law22_awake R_law22_awake
  obtain ⟨L, hL⟩ : ∃ L, L = racesL [⟨false, 0⟩] 2 aw22 := ⟨_, rfl⟩
  have hr : ∀ f g, sp_Races.at [.d (.list [[.bool false, .int .i64 0]] f), .d (.int .i64 2), .d (.list [[.int .i64 0, .int .i64 2, .int .i64 0, .int .i64 0, .int .i64 1, .int .i64 1, .int .i64 1], [.int .i64 1, .int .i64 1, .int .i64 0, .int .i64 1, .int .i64 0, .int .i64 1, .int .i64 1]] g)] =
      .data (1 ≤ maxLen ∧ 2 ≤ maxLen) (.tup [.d (.list (L.map RatG.row) false), .d (.int .i64 0)]) false := fun f g => by
    have := at_Races [⟨false, 0⟩] f 2 aw22 g
    rw [aw22_err, ← hL] at this
    exact this
  obtain ⟨h1, h2⟩ := aw22_races
  rw [← hL] at h1 h2
  have ht : ∀ n : Int, n.toNat = n.toNat := fun _ => rfl
  simp (maxSteps := 3000000) only [↓vck_skip, ↓vck_ret, ↓vck_exit, ↓vck_region, ↓vck_nilq, ↓nilTo_to, nilG_d, nilG_r, ↓vck_seq, ↓vck_cond, ↓vck_block, ↓vck_loop, ↓vckTo_to, ↓thenK_n, ↓thenK_x, ↓thenK_r, ↓blockK_n, ↓blockK_x, ↓blockK_o, ↓blockK_r, ↓regK_to, ↓retK_r, ↓retK_n, ↓loopV_n, ↓loopV_x, ↓loopV_r, ↓famK_n, ↓famK_x, ↓famK_r, ↓boolK_true, ↓boolK_false, ↓boolK_not, ↓boolK_dec, ↓boolK_and, nf_mk, RGk_end_f, RGk_end_t, RGk_op, RGk_guard, opK_to, evN, evCallN, grow_mk, feet_f, feet_t, foot_mk, stepK_mk, stepK_v, stepK_no, guardG_t, guardG_f, guardG_no, condG_b, evT, Opd.ev, get_hit, get_next, app_to, app_no, app_up, app_skip, app_skipn, know_mk, knowO_t, knowO_c, envFrom, reserve, keeps, LOp.isNew, State.prune, cellsQ, cellsT, AV.leaf, Heap.at, evLoad_ptr, evLoad_dptr, loadO_vec, loadO_dvec1, stepK_load_map, idx_I, idx_U, idx_Rat, idx_Loc, idx_Act, idx_Step, idx_Stamp, stepK_idx_ref, evStore_ptr, storeO_vec, stepK_store_map1, loadDT_f, rowI, rowU, RatG.row, LocG.row, ActG.row, StepG.row, StampG.row, ActG.av, ActG.eta, RatG.eta, LocG.eta, beq_true, beq_false, loadDT_t, set_rowI, set_rowU, app_rowI, app_rowU, rep_rowI, rep_rowU, set_rowRat, app_rowRat, rep_rowRat, set_rowLoc, app_rowLoc, app_rowAct, app_rowStep, List.length_set, List.length_replicate, Int.toNat_natCast, Int.reduceToNat, evLen, evAppend, srcOf, Src.all, Src.len, Src.leaf, Src.leafN, evApart, aliveQ, joinV, drows_rep1, drows_rep2, drows_rep3, drows_rep4, drows_rep5, drows_rep6, drows_rep7, drows_rep8, mkVec, drows, evMk, List.length_map, take_mapF, drop_mapF, List.take_length, List.take_left, List.length_append, Nat.le_add_right, ite_self, List.take_of_length_le, evSlice, intOr, intOpd, Option.isSome_none, Option.isSome_some, Nat.sub_zero, loadQ, loadT, evBin, evUn, binT, binQ, chk, apartF, List.contains_cons, List.contains_nil, Bool.or_false, Bool.false_or, Bool.and_self, resQ, resV, resT, pickV, evCallT, evTake, evCall, fnOf, viewsT, isD, HO.drow, viewT, evInt2, evEq, eqV, eqK, eqC1, buildQ, buildT, buildRQ, buildRT, lens_I, lensA_I, lens_U, lensA_U, lens_Rat, lensA_Rat, lens_Loc, lensA_Loc, lens_Act, lensA_Act, lens_Step, lensA_Step, lens_Stamp, lensA_Stamp, List.mem_cons, List.not_mem_nil, or_false, forall_eq, putRow, dcells, get_nil, RetS, RetF, RetD, AV.frz, AV.frzL, AV.freshP, AV.freshL, DV.less, scal_int, scal_bool, scal_nil, scal_rowI, scal_rowU, scal_rowRat, scal_rowStep, Option.some.injEq, AV.tup.injEq, AV.agg.injEq, List.cons.injEq, DV.list.injEq, List.isEmpty_nil, Nat.le_refl, AV.d.injEq, DV.int.injEq, DV.bool.injEq, ↓reduceIte, Nat.reduceEqDiff, Nat.reduceAdd, Nat.reduceBEq, List.length_cons, List.length_nil, List.replicate_succ, List.replicate_zero, List.nil_append, List.cons_append, List.append_nil, List.foldl_cons, List.foldl_nil, List.map_cons, List.map_nil, List.all_cons, List.all_nil, List.set_cons_zero, List.set_cons_succ, List.getD_cons_zero, List.getD_cons_succ, List.drop_zero, List.drop_succ_cons, List.take_succ_cons, List.take_zero, List.flatten_cons, List.flatten_nil, Bool.true_and, Bool.and_true, Bool.not_true, Bool.not_false, true_and, and_true, true_or, or_true, Option.bind_some, Option.map_some, decide_true, decide_false, beq_self_eq_true, true_implies, false_implies, implies_true, not_true_eq_false, not_false_eq_true, and_self, Bool.and_false, Bool.false_and, Nat.reduceLT, Nat.reduceLeDiff, List.reverse_cons, List.reverse_nil, Nat.zero_add, Nat.add_zero, Bool.false_eq_true, List.getElem?_cons_zero, sp_true, F1, G1, hr, h1, h2, loadO_vec, storeO_vec]
  exact ⟨⟨by decide, by decide, roomy_of (by decide) (by decide)⟩, ⟨by decide, by decide⟩, fun _ => ⟨by decide, by decide⟩, fun h => h rfl⟩
/-! ### RaceOrder -/
theorem ordL_ok {l : List LocG} {t : Int} {ss : List StepG} (h : playErr l t ss = 0) : ordL l t ss = ordG ss := if_pos h
theorem ordL_no {l : List LocG} {t : Int} {ss : List StepG} (h : ¬ playErr l t ss = 0) : ordL l t ss = [] := if_neg h
theorem dirQ_same {ss : List StepG} {i k : Nat} (h : (ss.getD i default).thread = (ss.getD k default).thread) : dirQ ss i k = true := dirB_1 h
set_option maxHeartbeats 4000000 in
theorem law_RaceOrder {T : Tab} {n1 n2 n3 : Nat} (k1 : Knows T n1 sp_true) (k2 : Knows T n2 sp_rOrder) (k3 : Knows T n3 sp_Has) (l : List LocG) (f : Bool) (t : Int) (ss : List StepG) (g : Bool) (hl : l.length ≤ maxLen) (hs : ss.length ≤ maxLen) :
    Holds T V_law22_RaceOrder (L_law22_RaceOrder n1 n2 n3) R_law22_RaceOrder [.d (.list (l.map LocG.row) f), .d (.int .i64 t), .d (.list (ss.map StepG.row) g)] := by
  have F1 := k1.F; have G1 := k1.G; have F2 := k2.F; have G2 := k2.G; have F3 := k3.F; have G3 := k3.G
  unfold V_law22_RaceOrder L_law22_RaceOrder R_law22_RaceOrder
  simp (maxSteps := 3000000) only [↓vck_skip, ↓vck_ret, ↓vck_exit, ↓vck_region, ↓vck_nilq, ↓nilTo_to, nilG_d, nilG_r, ↓vck_seq, ↓vck_cond, ↓vck_block, ↓vck_loop, ↓vckTo_to, ↓thenK_n, ↓thenK_x, ↓thenK_r, ↓blockK_n, ↓blockK_x, ↓blockK_o, ↓blockK_r, ↓regK_to, ↓retK_r, ↓retK_n, ↓loopV_n, ↓loopV_x, ↓loopV_r, ↓famK_n, ↓famK_x, ↓famK_r, ↓boolK_true, ↓boolK_false, ↓boolK_not, ↓boolK_dec, ↓boolK_and, nf_mk, RGk_end_f, RGk_end_t, RGk_op, RGk_guard, opK_to, evN, evCallN, grow_mk, feet_f, feet_t, foot_mk, stepK_mk, stepK_v, stepK_no, guardG_t, guardG_f, guardG_no, condG_b, evT, Opd.ev, get_hit, get_next, app_to, app_no, app_up, app_skip, app_skipn, know_mk, knowO_t, knowO_c, envFrom, reserve, keeps, LOp.isNew, State.prune, cellsQ, cellsT, AV.leaf, Heap.at, evLoad_ptr, evLoad_dptr, loadO_vec, loadO_dvec1, stepK_load_map, idx_I, idx_U, idx_Rat, idx_Loc, idx_Act, idx_Step, idx_Stamp, stepK_idx_ref, evStore_ptr, storeO_vec, stepK_store_map1, loadDT_f, rowI, rowU, RatG.row, LocG.row, ActG.row, StepG.row, StampG.row, ActG.av, ActG.eta, RatG.eta, LocG.eta, beq_true, beq_false, loadDT_t, set_rowI, set_rowU, app_rowI, app_rowU, rep_rowI, rep_rowU, set_rowRat, app_rowRat, rep_rowRat, set_rowLoc, app_rowLoc, app_rowAct, app_rowStep, List.length_set, List.length_replicate, Int.toNat_natCast, Int.reduceToNat, evLen, evAppend, srcOf, Src.all, Src.len, Src.leaf, Src.leafN, evApart, aliveQ, joinV, drows_rep1, drows_rep2, drows_rep3, drows_rep4, drows_rep5, drows_rep6, drows_rep7, drows_rep8, mkVec, drows, evMk, List.length_map, take_mapF, drop_mapF, List.take_length, List.take_left, List.length_append, Nat.le_add_right, ite_self, List.take_of_length_le, evSlice, intOr, intOpd, Option.isSome_none, Option.isSome_some, Nat.sub_zero, loadQ, loadT, evBin, evUn, binT, binQ, chk, apartF, List.contains_cons, List.contains_nil, Bool.or_false, Bool.false_or, Bool.and_self, resQ, resV, resT, pickV, evCallT, evTake, evCall, fnOf, viewsT, isD, HO.drow, viewT, evInt2, evEq, eqV, eqK, eqC1, buildQ, buildT, buildRQ, buildRT, lens_I, lensA_I, lens_U, lensA_U, lens_Rat, lensA_Rat, lens_Loc, lensA_Loc, lens_Act, lensA_Act, lens_Step, lensA_Step, lens_Stamp, lensA_Stamp, List.mem_cons, List.not_mem_nil, or_false, forall_eq, putRow, dcells, get_nil, RetS, RetF, RetD, AV.frz, AV.frzL, AV.freshP, AV.freshL, DV.less, scal_int, scal_bool, scal_nil, scal_rowI, scal_rowU, scal_rowRat, scal_rowStep, Option.some.injEq, AV.tup.injEq, AV.agg.injEq, List.cons.injEq, DV.list.injEq, List.isEmpty_nil, Nat.le_refl, AV.d.injEq, DV.int.injEq, DV.bool.injEq, ↓reduceIte, Nat.reduceEqDiff, Nat.reduceAdd, Nat.reduceBEq, List.length_cons, List.length_nil, List.replicate_succ, List.replicate_zero, List.nil_append, List.cons_append, List.append_nil, List.foldl_cons, List.foldl_nil, List.map_cons, List.map_nil, List.all_cons, List.all_nil, List.set_cons_zero, List.set_cons_succ, List.getD_cons_zero, List.getD_cons_succ, List.drop_zero, List.drop_succ_cons, List.take_succ_cons, List.take_zero, List.flatten_cons, List.flatten_nil, Bool.true_and, Bool.and_true, Bool.not_true, Bool.not_false, true_and, and_true, true_or, or_true, Option.bind_some, Option.map_some, decide_true, decide_false, beq_self_eq_true, true_implies, false_implies, implies_true, not_true_eq_false, not_false_eq_true, and_self, Bool.and_false, Bool.false_and, Nat.reduceLT, Nat.reduceLeDiff, List.reverse_cons, List.reverse_nil, Nat.zero_add, Nat.add_zero, Bool.false_eq_true, List.getElem?_cons_zero, F1, G1, F2, G2, F3, G3, at_true, at_rOrder, at_Has, loadO_vec, storeO_vec]
  refine fun _ => ⟨⟨hl, hs⟩, fun he => ?_, fun he => by rw [ordL_no he]; rfl⟩
  have hn := playErr_len he
  have hR := ord_len hn
  have hlt : ∀ {i k : Nat}, hasI (ordG ss) i k = true → i < k := fun h => (ord_lt hn h).1
  have htr : ∀ {i j k : Nat}, hasI (ordG ss) i j = true → hasI (ordG ss) j k = true → hasI (ordG ss) i k = true := ord_trans hn
  have hsm : ∀ {i k : Nat}, i < k → k < ss.length → (ss.getD i default).thread = (ss.getD k default).thread → hasI (ordG ss) i k = true := fun h1 h2 h3 => ord_of hn h1 h2 (dirQ_same h3)
  rw [ordL_ok he]
  generalize ordG ss = R at *
  have hm : maxLen = 9223372036854775807 := rfl
  have hRl : R.length ≤ maxLen := by omega
  refine Loop.fam [2, 7, 9] (fun i : Nat => ⟨[(2, .d (.list (ss.map StepG.row) g)), (7, .d (.list (R.map rowW) false)), (9, .d (.int .i64 i))], []⟩) (fun i => i ≤ ss.length) (fun i => ss.length - i) 0 [] (by simp) (by simp) (by simp only [State.can, AV.can, AV.canL, HO.can, canRows, idx, get_hit, get_next, Heap.at, Nat.reduceBEq, ↓reduceIte, Nat.reduceEqDiff, Option.getD_some, Option.map_some, List.map_cons, List.map_nil, List.getD_cons_zero, List.getD_cons_succ]; rfl) (Nat.zero_le _) ?_
  intro i hi
  have hi : i ≤ ss.length := hi
  simp (maxSteps := 3000000) only [↓vck_skip, ↓vck_ret, ↓vck_exit, ↓vck_region, ↓vck_nilq, ↓nilTo_to, nilG_d, nilG_r, ↓vck_seq, ↓vck_cond, ↓vck_block, ↓vck_loop, ↓vckTo_to, ↓thenK_n, ↓thenK_x, ↓thenK_r, ↓blockK_n, ↓blockK_x, ↓blockK_o, ↓blockK_r, ↓regK_to, ↓retK_r, ↓retK_n, ↓loopV_n, ↓loopV_x, ↓loopV_r, ↓famK_n, ↓famK_x, ↓famK_r, ↓boolK_true, ↓boolK_false, ↓boolK_not, ↓boolK_dec, ↓boolK_and, nf_mk, RGk_end_f, RGk_end_t, RGk_op, RGk_guard, opK_to, evN, evCallN, grow_mk, feet_f, feet_t, foot_mk, stepK_mk, stepK_v, stepK_no, guardG_t, guardG_f, guardG_no, condG_b, evT, Opd.ev, get_hit, get_next, app_to, app_no, app_up, app_skip, app_skipn, know_mk, knowO_t, knowO_c, envFrom, reserve, keeps, LOp.isNew, State.prune, cellsQ, cellsT, AV.leaf, Heap.at, evLoad_ptr, evLoad_dptr, loadO_vec, loadO_dvec1, stepK_load_map, idx_I, idx_U, idx_Rat, idx_Loc, idx_Act, idx_Step, idx_Stamp, stepK_idx_ref, evStore_ptr, storeO_vec, stepK_store_map1, loadDT_f, rowI, rowU, RatG.row, LocG.row, ActG.row, StepG.row, StampG.row, ActG.av, ActG.eta, RatG.eta, LocG.eta, beq_true, beq_false, loadDT_t, set_rowI, set_rowU, app_rowI, app_rowU, rep_rowI, rep_rowU, set_rowRat, app_rowRat, rep_rowRat, set_rowLoc, app_rowLoc, app_rowAct, app_rowStep, List.length_set, List.length_replicate, Int.toNat_natCast, Int.reduceToNat, evLen, evAppend, srcOf, Src.all, Src.len, Src.leaf, Src.leafN, evApart, aliveQ, joinV, drows_rep1, drows_rep2, drows_rep3, drows_rep4, drows_rep5, drows_rep6, drows_rep7, drows_rep8, mkVec, drows, evMk, List.length_map, take_mapF, drop_mapF, List.take_length, List.take_left, List.length_append, Nat.le_add_right, ite_self, List.take_of_length_le, evSlice, intOr, intOpd, Option.isSome_none, Option.isSome_some, Nat.sub_zero, loadQ, loadT, evBin, evUn, binT, binQ, chk, apartF, List.contains_cons, List.contains_nil, Bool.or_false, Bool.false_or, Bool.and_self, resQ, resV, resT, pickV, evCallT, evTake, evCall, fnOf, viewsT, isD, HO.drow, viewT, evInt2, evEq, eqV, eqK, eqC1, buildQ, buildT, buildRQ, buildRT, lens_I, lensA_I, lens_U, lensA_U, lens_Rat, lensA_Rat, lens_Loc, lensA_Loc, lens_Act, lensA_Act, lens_Step, lensA_Step, lens_Stamp, lensA_Stamp, List.mem_cons, List.not_mem_nil, or_false, forall_eq, putRow, dcells, get_nil, RetS, RetF, RetD, AV.frz, AV.frzL, AV.freshP, AV.freshL, DV.less, scal_int, scal_bool, scal_nil, scal_rowI, scal_rowU, scal_rowRat, scal_rowStep, Option.some.injEq, AV.tup.injEq, AV.agg.injEq, List.cons.injEq, DV.list.injEq, List.isEmpty_nil, Nat.le_refl, AV.d.injEq, DV.int.injEq, DV.bool.injEq, ↓reduceIte, Nat.reduceEqDiff, Nat.reduceAdd, Nat.reduceBEq, List.length_cons, List.length_nil, List.replicate_succ, List.replicate_zero, List.nil_append, List.cons_append, List.append_nil, List.foldl_cons, List.foldl_nil, List.map_cons, List.map_nil, List.all_cons, List.all_nil, List.set_cons_zero, List.set_cons_succ, List.getD_cons_zero, List.getD_cons_succ, List.drop_zero, List.drop_succ_cons, List.take_succ_cons, List.take_zero, List.flatten_cons, List.flatten_nil, Bool.true_and, Bool.and_true, Bool.not_true, Bool.not_false, true_and, and_true, true_or, or_true, Option.bind_some, Option.map_some, decide_true, decide_false, beq_self_eq_true, true_implies, false_implies, implies_true, not_true_eq_false, not_false_eq_true, and_self, Bool.and_false, Bool.false_and, Nat.reduceLT, Nat.reduceLeDiff, List.reverse_cons, List.reverse_nil, Nat.zero_add, Nat.add_zero, Bool.false_eq_true, List.getElem?_cons_zero, F1, G1, F2, G2, F3, G3, at_Has, loadO_vec, storeO_vec]
  refine fun c => ?_
  have hi' : i < ss.length := by omega
  refine Loop.fam [2, 7, 9, 10] (fun k : Nat => ⟨[(2, .d (.list (ss.map StepG.row) g)), (7, .d (.list (R.map rowW) false)), (9, .d (.int .i64 i)), (10, .d (.int .i64 k))], []⟩) (fun k => k ≤ ss.length) (fun k => ss.length - k) 0 [] (by simp) (by simp) (by simp only [State.can, AV.can, AV.canL, HO.can, canRows, idx, get_hit, get_next, Heap.at, Nat.reduceBEq, ↓reduceIte, Nat.reduceEqDiff, Option.getD_some, Option.map_some, List.map_cons, List.map_nil, List.getD_cons_zero, List.getD_cons_succ]; rfl) (Nat.zero_le _) ?_
  intro k hk
  have hk : k ≤ ss.length := hk
  simp (maxSteps := 3000000) only [↓vck_skip, ↓vck_ret, ↓vck_exit, ↓vck_region, ↓vck_nilq, ↓nilTo_to, nilG_d, nilG_r, ↓vck_seq, ↓vck_cond, ↓vck_block, ↓vck_loop, ↓vckTo_to, ↓thenK_n, ↓thenK_x, ↓thenK_r, ↓blockK_n, ↓blockK_x, ↓blockK_o, ↓blockK_r, ↓regK_to, ↓retK_r, ↓retK_n, ↓loopV_n, ↓loopV_x, ↓loopV_r, ↓famK_n, ↓famK_x, ↓famK_r, ↓boolK_true, ↓boolK_false, ↓boolK_not, ↓boolK_dec, ↓boolK_and, nf_mk, RGk_end_f, RGk_end_t, RGk_op, RGk_guard, opK_to, evN, evCallN, grow_mk, feet_f, feet_t, foot_mk, stepK_mk, stepK_v, stepK_no, guardG_t, guardG_f, guardG_no, condG_b, evT, Opd.ev, get_hit, get_next, app_to, app_no, app_up, app_skip, app_skipn, know_mk, knowO_t, knowO_c, envFrom, reserve, keeps, LOp.isNew, State.prune, cellsQ, cellsT, AV.leaf, Heap.at, evLoad_ptr, evLoad_dptr, loadO_vec, loadO_dvec1, stepK_load_map, idx_I, idx_U, idx_Rat, idx_Loc, idx_Act, idx_Step, idx_Stamp, stepK_idx_ref, evStore_ptr, storeO_vec, stepK_store_map1, loadDT_f, rowI, rowU, RatG.row, LocG.row, ActG.row, StepG.row, StampG.row, ActG.av, ActG.eta, RatG.eta, LocG.eta, beq_true, beq_false, loadDT_t, set_rowI, set_rowU, app_rowI, app_rowU, rep_rowI, rep_rowU, set_rowRat, app_rowRat, rep_rowRat, set_rowLoc, app_rowLoc, app_rowAct, app_rowStep, List.length_set, List.length_replicate, Int.toNat_natCast, Int.reduceToNat, evLen, evAppend, srcOf, Src.all, Src.len, Src.leaf, Src.leafN, evApart, aliveQ, joinV, drows_rep1, drows_rep2, drows_rep3, drows_rep4, drows_rep5, drows_rep6, drows_rep7, drows_rep8, mkVec, drows, evMk, List.length_map, take_mapF, drop_mapF, List.take_length, List.take_left, List.length_append, Nat.le_add_right, ite_self, List.take_of_length_le, evSlice, intOr, intOpd, Option.isSome_none, Option.isSome_some, Nat.sub_zero, loadQ, loadT, evBin, evUn, binT, binQ, chk, apartF, List.contains_cons, List.contains_nil, Bool.or_false, Bool.false_or, Bool.and_self, resQ, resV, resT, pickV, evCallT, evTake, evCall, fnOf, viewsT, isD, HO.drow, viewT, evInt2, evEq, eqV, eqK, eqC1, buildQ, buildT, buildRQ, buildRT, lens_I, lensA_I, lens_U, lensA_U, lens_Rat, lensA_Rat, lens_Loc, lensA_Loc, lens_Act, lensA_Act, lens_Step, lensA_Step, lens_Stamp, lensA_Stamp, List.mem_cons, List.not_mem_nil, or_false, forall_eq, putRow, dcells, get_nil, RetS, RetF, RetD, AV.frz, AV.frzL, AV.freshP, AV.freshL, DV.less, scal_int, scal_bool, scal_nil, scal_rowI, scal_rowU, scal_rowRat, scal_rowStep, Option.some.injEq, AV.tup.injEq, AV.agg.injEq, List.cons.injEq, DV.list.injEq, List.isEmpty_nil, Nat.le_refl, AV.d.injEq, DV.int.injEq, DV.bool.injEq, ↓reduceIte, Nat.reduceEqDiff, Nat.reduceAdd, Nat.reduceBEq, List.length_cons, List.length_nil, List.replicate_succ, List.replicate_zero, List.nil_append, List.cons_append, List.append_nil, List.foldl_cons, List.foldl_nil, List.map_cons, List.map_nil, List.all_cons, List.all_nil, List.set_cons_zero, List.set_cons_succ, List.getD_cons_zero, List.getD_cons_succ, List.drop_zero, List.drop_succ_cons, List.take_succ_cons, List.take_zero, List.flatten_cons, List.flatten_nil, Bool.true_and, Bool.and_true, Bool.not_true, Bool.not_false, true_and, and_true, true_or, or_true, Option.bind_some, Option.map_some, decide_true, decide_false, beq_self_eq_true, true_implies, false_implies, implies_true, not_true_eq_false, not_false_eq_true, and_self, Bool.and_false, Bool.false_and, Nat.reduceLT, Nat.reduceLeDiff, List.reverse_cons, List.reverse_nil, Nat.zero_add, Nat.add_zero, Bool.false_eq_true, List.getElem?_cons_zero, F1, G1, F2, G2, F3, G3, at_Has, loadO_vec, storeO_vec]
  have hb : ∀ {a : Nat}, a < ss.length → (0 : Int) ≤ a ∧ (a : Int) < ss.length := fun h => ⟨by omega, by omega⟩
  refine ⟨fun c => ⟨hRl, fun c1 => ⟨fun c2 => absurd (hlt c1) (by omega), fun c2 => ⟨fun c3 => ⟨hb hi', hb (by omega), fun c4 => ⟨hRl, fun c5 => ?_, fun c5 => absurd (hsm (by omega) (by omega) c4) (by rw [c5]; decide)⟩, fun c4 => ?_⟩, fun c3 => ?_⟩⟩,
    fun c1 => ⟨fun c3 => ⟨hb hi', hb (by omega), fun c4 => ⟨hRl, fun c5 => ?_, fun c5 => absurd (hsm (by omega) (by omega) c4) (by rw [c5]; decide)⟩, fun c4 => ?_⟩, fun c3 => ?_⟩⟩, fun c => ?_⟩
  case refine_7 =>
    exact FamNext.mk [] (i + 1) (by simp) (by simp) (by simp only [State.can, AV.can, AV.canL, HO.can, canRows, idx, get_hit, get_next, Heap.at, Nat.reduceBEq, ↓reduceIte, Nat.reduceEqDiff, Option.getD_some, Option.map_some, List.map_cons, List.map_nil, List.getD_cons_zero, List.getD_cons_succ, wrap_succ hi' (by omega)]) (by show i + 1 ≤ _; omega) (by show _ - (i + 1) < _ - i; omega)
  all_goals
    have hk' : k < ss.length := by omega
    clear c1
    refine Loop.fam [2, 7, 9, 10, 11] (fun j : Nat => ⟨[(2, .d (.list (ss.map StepG.row) g)), (7, .d (.list (R.map rowW) false)), (9, .d (.int .i64 i)), (10, .d (.int .i64 k)), (11, .d (.int .i64 j))], []⟩) (fun j => j ≤ ss.length) (fun j => ss.length - j) 0 [] (by simp) (by simp) (by simp only [State.can, AV.can, AV.canL, HO.can, canRows, idx, get_hit, get_next, Heap.at, Nat.reduceBEq, ↓reduceIte, Nat.reduceEqDiff, Option.getD_some, Option.map_some, List.map_cons, List.map_nil, List.getD_cons_zero, List.getD_cons_succ]; rfl) (Nat.zero_le _) ?_
    intro j hj
    have hj : j ≤ ss.length := hj
    simp (maxSteps := 3000000) only [↓vck_skip, ↓vck_ret, ↓vck_exit, ↓vck_region, ↓vck_nilq, ↓nilTo_to, nilG_d, nilG_r, ↓vck_seq, ↓vck_cond, ↓vck_block, ↓vck_loop, ↓vckTo_to, ↓thenK_n, ↓thenK_x, ↓thenK_r, ↓blockK_n, ↓blockK_x, ↓blockK_o, ↓blockK_r, ↓regK_to, ↓retK_r, ↓retK_n, ↓loopV_n, ↓loopV_x, ↓loopV_r, ↓famK_n, ↓famK_x, ↓famK_r, ↓boolK_true, ↓boolK_false, ↓boolK_not, ↓boolK_dec, ↓boolK_and, nf_mk, RGk_end_f, RGk_end_t, RGk_op, RGk_guard, opK_to, evN, evCallN, grow_mk, feet_f, feet_t, foot_mk, stepK_mk, stepK_v, stepK_no, guardG_t, guardG_f, guardG_no, condG_b, evT, Opd.ev, get_hit, get_next, app_to, app_no, app_up, app_skip, app_skipn, know_mk, knowO_t, knowO_c, envFrom, reserve, keeps, LOp.isNew, State.prune, cellsQ, cellsT, AV.leaf, Heap.at, evLoad_ptr, evLoad_dptr, loadO_vec, loadO_dvec1, stepK_load_map, idx_I, idx_U, idx_Rat, idx_Loc, idx_Act, idx_Step, idx_Stamp, stepK_idx_ref, evStore_ptr, storeO_vec, stepK_store_map1, loadDT_f, rowI, rowU, RatG.row, LocG.row, ActG.row, StepG.row, StampG.row, ActG.av, ActG.eta, RatG.eta, LocG.eta, beq_true, beq_false, loadDT_t, set_rowI, set_rowU, app_rowI, app_rowU, rep_rowI, rep_rowU, set_rowRat, app_rowRat, rep_rowRat, set_rowLoc, app_rowLoc, app_rowAct, app_rowStep, List.length_set, List.length_replicate, Int.toNat_natCast, Int.reduceToNat, evLen, evAppend, srcOf, Src.all, Src.len, Src.leaf, Src.leafN, evApart, aliveQ, joinV, drows_rep1, drows_rep2, drows_rep3, drows_rep4, drows_rep5, drows_rep6, drows_rep7, drows_rep8, mkVec, drows, evMk, List.length_map, take_mapF, drop_mapF, List.take_length, List.take_left, List.length_append, Nat.le_add_right, ite_self, List.take_of_length_le, evSlice, intOr, intOpd, Option.isSome_none, Option.isSome_some, Nat.sub_zero, loadQ, loadT, evBin, evUn, binT, binQ, chk, apartF, List.contains_cons, List.contains_nil, Bool.or_false, Bool.false_or, Bool.and_self, resQ, resV, resT, pickV, evCallT, evTake, evCall, fnOf, viewsT, isD, HO.drow, viewT, evInt2, evEq, eqV, eqK, eqC1, buildQ, buildT, buildRQ, buildRT, lens_I, lensA_I, lens_U, lensA_U, lens_Rat, lensA_Rat, lens_Loc, lensA_Loc, lens_Act, lensA_Act, lens_Step, lensA_Step, lens_Stamp, lensA_Stamp, List.mem_cons, List.not_mem_nil, or_false, forall_eq, putRow, dcells, get_nil, RetS, RetF, RetD, AV.frz, AV.frzL, AV.freshP, AV.freshL, DV.less, scal_int, scal_bool, scal_nil, scal_rowI, scal_rowU, scal_rowRat, scal_rowStep, Option.some.injEq, AV.tup.injEq, AV.agg.injEq, List.cons.injEq, DV.list.injEq, List.isEmpty_nil, Nat.le_refl, AV.d.injEq, DV.int.injEq, DV.bool.injEq, ↓reduceIte, Nat.reduceEqDiff, Nat.reduceAdd, Nat.reduceBEq, List.length_cons, List.length_nil, List.replicate_succ, List.replicate_zero, List.nil_append, List.cons_append, List.append_nil, List.foldl_cons, List.foldl_nil, List.map_cons, List.map_nil, List.all_cons, List.all_nil, List.set_cons_zero, List.set_cons_succ, List.getD_cons_zero, List.getD_cons_succ, List.drop_zero, List.drop_succ_cons, List.take_succ_cons, List.take_zero, List.flatten_cons, List.flatten_nil, Bool.true_and, Bool.and_true, Bool.not_true, Bool.not_false, true_and, and_true, true_or, or_true, Option.bind_some, Option.map_some, decide_true, decide_false, beq_self_eq_true, true_implies, false_implies, implies_true, not_true_eq_false, not_false_eq_true, and_self, Bool.and_false, Bool.false_and, Nat.reduceLT, Nat.reduceLeDiff, List.reverse_cons, List.reverse_nil, Nat.zero_add, Nat.add_zero, Bool.false_eq_true, List.getElem?_cons_zero, F1, G1, F2, G2, F3, G3, at_Has, loadO_vec, storeO_vec]
    refine ⟨fun d => ⟨hRl, fun d1 => ⟨hRl, fun d2 => ⟨hRl, fun d3 => ?_, fun d3 => absurd (htr d1 d2) (by rw [d3]; decide)⟩, fun d2 => ?_⟩, fun d1 => ?_⟩, fun d => ?_⟩
    case refine_4 => exact FamNext.mk [] (k + 1) (by simp) (by simp) (by simp only [State.can, AV.can, AV.canL, HO.can, canRows, idx, get_hit, get_next, Heap.at, Nat.reduceBEq, ↓reduceIte, Nat.reduceEqDiff, Option.getD_some, Option.map_some, List.map_cons, List.map_nil, List.getD_cons_zero, List.getD_cons_succ, wrap_succ hk' (by omega)]) (by show k + 1 ≤ _; omega) (by show _ - (k + 1) < _ - k; omega)
    all_goals
      have hj' : j < ss.length := by omega
      exact FamNext.mk [] (j + 1) (by simp) (by simp) (by simp only [State.can, AV.can, AV.canL, HO.can, canRows, idx, get_hit, get_next, Heap.at, Nat.reduceBEq, ↓reduceIte, Nat.reduceEqDiff, Option.getD_some, Option.map_some, List.map_cons, List.map_nil, List.getD_cons_zero, List.getD_cons_succ, wrap_succ hj' (by omega)]) (by show j + 1 ≤ _; omega) (by show _ - (j + 1) < _ - j; omega)
end Go.Ago
