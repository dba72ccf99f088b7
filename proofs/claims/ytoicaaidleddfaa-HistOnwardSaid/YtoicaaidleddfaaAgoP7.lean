/- Law 20: awake, done, onward. Conditions: none. -/
import Derived.Test.YtoicaaidleddfaaAgoP6
import Derived.Test.YtoicaaidleddfaaAgoP4
set_option maxRecDepth 100000
set_option linter.unusedSimpArgs false
set_option linter.unusedVariables false
namespace Go.Ago
theorem plain_av (m : Mem) : m.av.plain = m := by
  have h : ∀ {α : Type} (L : List (List α)), inn (L.map (·, false)) = L := fun L => by rw [inn_map]; exact List.map_id _
  unfold Mem.av MemG.plain
  simp only [h]
theorem at_Last (a1 : List LocG) (a2 : Bool) (a3 : List StampsF) (a4 : Bool) (a5 : List Int) (a6 : Bool) (a7 : List RatsF) (a8 : Bool) (a9 : List RatsF) (a10 : Bool) (l : Int) :
    sp_Last.at [.agg [.d (.list (a1.map LocG.row) a2), .d (.list (a3.map rowStamps) a4), .d (.list (a5.map rowI) a6), .d (.list (a7.map rowRats) a8), .d (.list (a9.map rowRats) a10)], .d (.int .i64 l)] =
      .data (∀ r ∈ a3, r.1.length ≤ maxLen) (lastAV (lastG ⟨a1, a2, a3, a4, a5, a6, a7, a8, a9, a10⟩ l)) true :=
  Sp.at_enc (s := sp_Last) (fun x y h => by
    obtain ⟨m, l⟩ := x; obtain ⟨m', l'⟩ := y
    simp only [sp_Last, List.cons.injEq, AV.d.injEq, DV.int.injEq, and_true, true_and] at h
    obtain ⟨h1, h2⟩ := h
    rw [MemG.av_inj _ _ h1, h2]) (⟨a1, a2, a3, a4, a5, a6, a7, a8, a9, a10⟩, l)
theorem at_DoM (m : MemG) (s : StepG) :
    sp_Do.at [.agg [.d (.list (m.locs.map LocG.row) m.lf), .d (.list (m.past.map rowStamps) m.pf), .d (.list (m.vals.map rowI) m.vf), .d (.list (m.marks.map rowRats) m.mf), .d (.list (m.fronts.map rowRats) m.ff)], .agg [.d (.int .i64 s.thread), .d (.int .i64 s.act.kind), .d (.int .i64 s.act.loc), .d (.int .i64 s.act.old), .d (.int .i64 s.act.new), .d (.int .i64 s.when.num), .d (.int .i64 s.when.den)]] =
      .data (m.plain.Wf 1000000) (.tup [(resM m.plain s).av, .d (.int .i64 (doErr m.plain s))]) false := at_Do _ _ _ _ _ _ _ _ _ _ _ _ _ _ _ _ _
theorem at_SeesM (m : MemG) (t l : Int) :
    sp_Sees.at [.agg [.d (.list (m.locs.map LocG.row) m.lf), .d (.list (m.past.map rowStamps) m.pf), .d (.list (m.vals.map rowI) m.vf), .d (.list (m.marks.map rowRats) m.mf), .d (.list (m.fronts.map rowRats) m.ff)], .d (.int .i64 t), .d (.int .i64 l)] =
      .data (m.plain.Wf 1000000) (.d (.list ((seesG m.plain t l).map StampG.row) false)) false := at_Sees _ _ _ _ _ _ _ _ _ _ _ _
theorem at_LastM (m : MemG) (l : Int) :
    sp_Last.at [.agg [.d (.list (m.locs.map LocG.row) m.lf), .d (.list (m.past.map rowStamps) m.pf), .d (.list (m.vals.map rowI) m.vf), .d (.list (m.marks.map rowRats) m.mf), .d (.list (m.fronts.map rowRats) m.ff)], .d (.int .i64 l)] =
      .data (∀ r ∈ m.past, r.1.length ≤ maxLen) (lastAV (lastG m l)) true := at_Last _ _ _ _ _ _ _ _ _ _ _
theorem wfM {m : MemG} {b : Nat} (h : m.plain.Good b) (hb : b ≤ 1000000) : m.plain.Wf 1000000 := h.wf.mono hb
def stepM (m : MemG) (s : StepG) : MemG := if doErr m.plain s = 0 then (doMem m.plain s).av else m
theorem stepM_good {m : MemG} {s : StepG} {b : Nat} (h : m.plain.Good b) : (stepM m s).plain.Good (b + 1) := by
  unfold stepM
  split
  · rename_i he; rw [plain_av]; exact doMem_good h he
  · exact h.mono (Nat.le_succ b)
def goM (m : MemG) (ss : List StepG) (n : Nat) : MemG := (ss.take n).foldl stepM m
theorem goM_succ (m : MemG) {ss : List StepG} {n : Nat} (h : n < ss.length) : goM m ss (n + 1) = stepM (goM m ss n) (ss.getD n default) := by
  unfold goM; rw [List.take_add_one, List.getElem?_eq_getElem h, List.foldl_append, getD_lt h]; rfl
theorem goM_good {m : MemG} {b : Nat} (h : m.plain.Good b) (ss : List StepG) : ∀ n, (goM m ss n).plain.Good (b + n) := by
  intro n
  induction n with
  | zero => exact h
  | succ n ih =>
    by_cases hn : n < ss.length
    · rw [goM_succ m hn]; exact stepM_good ih
    · have : goM m ss (n + 1) = goM m ss n := by unfold goM; rw [List.take_of_length_le (by omega), List.take_of_length_le (by omega)]
      rw [this]; exact ih.mono (Nat.le_succ _)
def doneQ (l : List LocG) (t : Int) : Bool := decide (l.length ≤ 10) && decide (newErr l t = 0)
def doneM (l : List LocG) (t : Int) (ss : List StepG) : MemG := if doneQ l t = true then goM (newM l t) ss 40 else .nil
theorem doneM_good {l : List LocG} {t : Int} {ss : List StepG} (h : doneQ l t = true) : (doneM l t ss).plain.Good 41 := by
  unfold doneM
  rw [if_pos h]
  unfold doneQ at h
  simp only [Bool.and_eq_true, decide_eq_true_eq] at h
  exact (goM_good (newM_good h.2) ss 40).mono (by omega)
structure MemG.Flat (m : MemG) : Prop where
  lf : m.lf = false
  pf : m.pf = false
  vf : m.vf = false
  mf : m.mf = false
  ff : m.ff = false
theorem stepM_flat {m : MemG} {s : StepG} (h : m.Flat) : (stepM m s).Flat := by
  unfold stepM; split
  · exact ⟨rfl, rfl, rfl, rfl, rfl⟩
  · exact h
theorem newM_flat (l : List LocG) (t : Int) : (newM l t).Flat := by unfold newM; split <;> exact ⟨rfl, rfl, rfl, rfl, rfl⟩
theorem goM_flat {m : MemG} (h : m.Flat) (ss : List StepG) : ∀ n, (goM m ss n).Flat := by
  intro n
  unfold goM
  generalize ss.take n = l
  induction l generalizing m with
  | nil => exact h
  | cons s l ih => exact ih (stepM_flat h)
def MemG.row (m : MemG) : List AV := [.d (.list (m.locs.map LocG.row) m.lf), .d (.list (m.past.map rowStamps) m.pf), .d (.list (m.vals.map rowI) m.vf), .d (.list (m.marks.map rowRats) m.mf), .d (.list (m.fronts.map rowRats) m.ff)]
def doneSt (l : List LocG) (f : Bool) (t : Int) (ss : List StepG) (g : Bool) (x : Nat × MemG) : State :=
  ⟨[(6, .ptr 0 5 0 0), (8, .ptr 1 5 0 0), (10, .d (.int .i64 x.1)), (2, .d (.list (ss.map StepG.row) g))],
    [nobj, .vec 5 [x.2.row]]⟩
def sp_done : Sp := ⟨List LocG × Bool × Int × List StepG × Bool, fun x => [.d (.list (x.1.map LocG.row) x.2.1), .d (.int .i64 x.2.2.1), .d (.list (x.2.2.2.1.map StepG.row) x.2.2.2.2)],
  fun x => .data (x.1.length ≤ maxLen ∧ x.2.2.2.1.length ≤ maxLen) (.tup [(doneM x.1 x.2.2.1 x.2.2.2.1).av, .d (.bool (doneQ x.1 x.2.2.1))]) false⟩
theorem at_done (l : List LocG) (f : Bool) (t : Int) (ss : List StepG) (g : Bool) : sp_done.at [.d (.list (l.map LocG.row) f), .d (.int .i64 t), .d (.list (ss.map StepG.row) g)] =
    .data (l.length ≤ maxLen ∧ ss.length ≤ maxLen) (.tup [(doneM l t ss).av, .d (.bool (doneQ l t))]) false :=
  Sp.at_enc (s := sp_done) (fun x y h => by
    obtain ⟨l, f, t, ss, g⟩ := x; obtain ⟨l', f', t', ss', g'⟩ := y
    simp only [sp_done, List.cons.injEq, AV.d.injEq, DV.list.injEq, DV.int.injEq, and_true, true_and] at h
    obtain ⟨⟨h1, h2⟩, h3, h4, h5⟩ := h
    rw [rows_inj LocG.row_inj h1, h2, h3, rows_inj StepG.row_inj h4, h5]) (l, f, t, ss, g)
set_option maxHeartbeats 4000000 in
theorem body_law20_done {T : Tab} {n1 n2 : Nat} (k1 : Knows T n1 sp_New) (k2 : Knows T n2 sp_Do) : sp_done.Body T V_law20_done (L_law20_done n1 n2) R_law20_done := by
  have F1 := k1.F; have G1 := k1.G; have F2 := k2.F; have G2 := k2.G
  rintro ⟨l, f, t, ss, g⟩ ⟨hl, hs⟩
  have hl : l.length ≤ maxLen := hl
  have hs : ss.length ≤ maxLen := hs
  refine ⟨rfl, ?_⟩
  unfold V_law20_done L_law20_done R_law20_done
  simp (maxSteps := 3000000) only [↓vck_skip, ↓vck_ret, ↓vck_exit, ↓vck_region, ↓vck_nilq, ↓nilTo_to, nilG_d, nilG_r, ↓vck_seq, ↓vck_cond, ↓vck_block, ↓vck_loop, ↓vckTo_to, ↓thenK_n, ↓thenK_x, ↓thenK_r, ↓blockK_n, ↓blockK_x, ↓blockK_o, ↓blockK_r, ↓regK_to, ↓retK_r, ↓retK_n, ↓loopV_n, ↓loopV_x, ↓loopV_r, ↓famK_n, ↓famK_x, ↓famK_r, ↓boolK_true, ↓boolK_false, ↓boolK_not, ↓boolK_dec, ↓boolK_and, nf_mk, RGk_end_f, RGk_end_t, RGk_op, RGk_guard, opK_to, evN, evCallN, grow_mk, feet_f, feet_t, foot_mk, stepK_mk, stepK_v, stepK_no, guardG_t, guardG_f, guardG_no, condG_b, evT, Opd.ev, get_hit, get_next, app_to, app_no, app_up, app_skip, app_skipn, know_mk, knowO_t, knowO_c, envFrom, reserve, keeps, LOp.isNew, State.prune, cellsQ, cellsT, AV.leaf, Heap.at, evLoad_ptr, evLoad_dptr, loadO_vec, loadO_dvec1, stepK_load_map, idx_I, idx_U, idx_Rat, idx_Loc, idx_Act, idx_Step, idx_Stamp, stepK_idx_ref, evStore_ptr, storeO_vec, stepK_store_map1, loadDT_f, rowI, rowU, RatG.row, LocG.row, ActG.row, StepG.row, StampG.row, ActG.av, ActG.eta, RatG.eta, LocG.eta, beq_true, beq_false, loadDT_t, set_rowI, set_rowU, app_rowI, app_rowU, rep_rowI, rep_rowU, set_rowRat, app_rowRat, rep_rowRat, set_rowLoc, app_rowLoc, app_rowAct, app_rowStep, List.length_set, List.length_replicate, Int.toNat_natCast, Int.reduceToNat, evLen, evAppend, srcOf, Src.all, Src.len, Src.leaf, Src.leafN, evApart, aliveQ, joinV, drows_rep1, drows_rep2, drows_rep3, drows_rep4, drows_rep5, drows_rep6, drows_rep7, drows_rep8, mkVec, drows, evMk, List.length_map, take_mapF, drop_mapF, List.take_length, List.take_left, List.length_append, Nat.le_add_right, ite_self, List.take_of_length_le, evSlice, intOr, intOpd, Option.isSome_none, Option.isSome_some, Nat.sub_zero, loadQ, loadT, evBin, evUn, binT, binQ, chk, apartF, List.contains_cons, List.contains_nil, Bool.or_false, Bool.false_or, Bool.and_self, resQ, resV, resT, pickV, evCallT, evTake, evCall, fnOf, viewsT, isD, HO.drow, viewT, evInt2, evEq, eqV, eqK, eqC1, buildQ, buildT, buildRQ, buildRT, lens_I, lensA_I, lens_U, lensA_U, lens_Rat, lensA_Rat, lens_Loc, lensA_Loc, lens_Act, lensA_Act, lens_Step, lensA_Step, lens_Stamp, lensA_Stamp, List.mem_cons, List.not_mem_nil, or_false, forall_eq, putRow, dcells, get_nil, RetS, RetF, RetD, AV.frz, AV.frzL, AV.freshP, AV.freshL, DV.less, scal_int, scal_bool, scal_nil, scal_rowI, scal_rowU, scal_rowRat, scal_rowStep, Option.some.injEq, AV.tup.injEq, AV.agg.injEq, List.cons.injEq, DV.list.injEq, List.isEmpty_nil, Nat.le_refl, AV.d.injEq, DV.int.injEq, DV.bool.injEq, ↓reduceIte, Nat.reduceEqDiff, Nat.reduceAdd, Nat.reduceBEq, List.length_cons, List.length_nil, List.replicate_succ, List.replicate_zero, List.nil_append, List.cons_append, List.append_nil, List.foldl_cons, List.foldl_nil, List.map_cons, List.map_nil, List.all_cons, List.all_nil, List.set_cons_zero, List.set_cons_succ, List.getD_cons_zero, List.getD_cons_succ, List.drop_zero, List.drop_succ_cons, List.take_succ_cons, List.take_zero, List.flatten_cons, List.flatten_nil, Bool.true_and, Bool.and_true, Bool.not_true, Bool.not_false, true_and, and_true, true_or, or_true, Option.bind_some, Option.map_some, decide_true, decide_false, beq_self_eq_true, true_implies, false_implies, implies_true, not_true_eq_false, not_false_eq_true, and_self, Bool.and_false, Bool.false_and, Nat.reduceLT, Nat.reduceLeDiff, List.reverse_cons, List.reverse_nil, Nat.zero_add, Nat.add_zero, Bool.false_eq_true, List.getElem?_cons_zero, sp_done, F1, G1, F2, G2, at_New, at_DoM, MemG.av, loadO_vec, storeO_vec]
  have eM : ∀ {m : MemG}, m.Flat → ∀ {m' : MemG}, m = m' → ((m.locs.map LocG.row = m'.locs.map LocG.row ∧ false = m'.lf) ∧ (m.past.map rowStamps = m'.past.map rowStamps ∧ false = m'.pf) ∧ (m.vals.map rowI = m'.vals.map rowI ∧ false = m'.vf) ∧ (m.marks.map rowRats = m'.marks.map rowRats ∧ false = m'.mf) ∧ m.fronts.map rowRats = m'.fronts.map rowRats ∧ false = m'.ff) := by
    rintro m h m' rfl
    exact ⟨⟨rfl, h.lf.symm⟩, ⟨rfl, h.pf.symm⟩, ⟨rfl, h.vf.symm⟩, ⟨rfl, h.mf.symm⟩, rfl, h.ff.symm⟩
  have fn : MemG.nil.Flat := ⟨rfl, rfl, rfl, rfl, rfl⟩
  have bad : doneQ l t = false → doneM l t ss = .nil := fun h => by unfold doneM; rw [h]; rfl
  refine ⟨fun c => ?_, fun c => ⟨hl, fun c2 => ?_, fun c2 => ?_⟩⟩
  · have hq : doneQ l t = false := by unfold doneQ; rw [decide_eq_false (by omega)]; rfl
    exact ⟨eM fn (bad hq).symm, hq.symm⟩
  · have hq : doneQ l t = true := by unfold doneQ; rw [decide_eq_true (by omega), decide_eq_true c2]; rfl
    have hd : doneM l t ss = goM (newM l t) ss 40 := by unfold doneM; rw [if_pos hq]
    refine Loop.fam [6, 8, 10, 2] (doneSt l f t ss g) (fun x => x.1 ≤ ss.length ∧ x.1 ≤ 40 ∧ x.2 = goM (newM l t) ss x.1) (fun x => 40 - x.1) (0, newM l t) [0, 1] (by simp) (by simp) (by simp only [State.can, AV.can, AV.canL, HO.can, canRows, idx, get_hit, get_next, Heap.at, Nat.reduceBEq, ↓reduceIte, Nat.reduceEqDiff, Option.getD_some, Option.map_some, List.map_cons, List.map_nil, List.getD_cons_zero, List.getD_cons_succ, doneSt, nobj, MemG.row]; rfl) ⟨Nat.zero_le _, Nat.zero_le _, rfl⟩ ?_
    rintro ⟨i, m⟩ ⟨i1, i2, hm⟩
    have i1 : i ≤ ss.length := i1
    have i2 : i ≤ 40 := i2
    have hm : m = goM (newM l t) ss i := hm
    have hgood : m.plain.Good (1 + i) := by rw [hm]; exact goM_good (newM_good c2) ss i
    have hflat : m.Flat := by rw [hm]; exact goM_flat (newM_flat l t) ss i
    simp (maxSteps := 3000000) only [↓vck_skip, ↓vck_ret, ↓vck_exit, ↓vck_region, ↓vck_nilq, ↓nilTo_to, nilG_d, nilG_r, ↓vck_seq, ↓vck_cond, ↓vck_block, ↓vck_loop, ↓vckTo_to, ↓thenK_n, ↓thenK_x, ↓thenK_r, ↓blockK_n, ↓blockK_x, ↓blockK_o, ↓blockK_r, ↓regK_to, ↓retK_r, ↓retK_n, ↓loopV_n, ↓loopV_x, ↓loopV_r, ↓famK_n, ↓famK_x, ↓famK_r, ↓boolK_true, ↓boolK_false, ↓boolK_not, ↓boolK_dec, ↓boolK_and, nf_mk, RGk_end_f, RGk_end_t, RGk_op, RGk_guard, opK_to, evN, evCallN, grow_mk, feet_f, feet_t, foot_mk, stepK_mk, stepK_v, stepK_no, guardG_t, guardG_f, guardG_no, condG_b, evT, Opd.ev, get_hit, get_next, app_to, app_no, app_up, app_skip, app_skipn, know_mk, knowO_t, knowO_c, envFrom, reserve, keeps, LOp.isNew, State.prune, cellsQ, cellsT, AV.leaf, Heap.at, evLoad_ptr, evLoad_dptr, loadO_vec, loadO_dvec1, stepK_load_map, idx_I, idx_U, idx_Rat, idx_Loc, idx_Act, idx_Step, idx_Stamp, stepK_idx_ref, evStore_ptr, storeO_vec, stepK_store_map1, loadDT_f, rowI, rowU, RatG.row, LocG.row, ActG.row, StepG.row, StampG.row, ActG.av, ActG.eta, RatG.eta, LocG.eta, beq_true, beq_false, loadDT_t, set_rowI, set_rowU, app_rowI, app_rowU, rep_rowI, rep_rowU, set_rowRat, app_rowRat, rep_rowRat, set_rowLoc, app_rowLoc, app_rowAct, app_rowStep, List.length_set, List.length_replicate, Int.toNat_natCast, Int.reduceToNat, evLen, evAppend, srcOf, Src.all, Src.len, Src.leaf, Src.leafN, evApart, aliveQ, joinV, drows_rep1, drows_rep2, drows_rep3, drows_rep4, drows_rep5, drows_rep6, drows_rep7, drows_rep8, mkVec, drows, evMk, List.length_map, take_mapF, drop_mapF, List.take_length, List.take_left, List.length_append, Nat.le_add_right, ite_self, List.take_of_length_le, evSlice, intOr, intOpd, Option.isSome_none, Option.isSome_some, Nat.sub_zero, loadQ, loadT, evBin, evUn, binT, binQ, chk, apartF, List.contains_cons, List.contains_nil, Bool.or_false, Bool.false_or, Bool.and_self, resQ, resV, resT, pickV, evCallT, evTake, evCall, fnOf, viewsT, isD, HO.drow, viewT, evInt2, evEq, eqV, eqK, eqC1, buildQ, buildT, buildRQ, buildRT, lens_I, lensA_I, lens_U, lensA_U, lens_Rat, lensA_Rat, lens_Loc, lensA_Loc, lens_Act, lensA_Act, lens_Step, lensA_Step, lens_Stamp, lensA_Stamp, List.mem_cons, List.not_mem_nil, or_false, forall_eq, putRow, dcells, get_nil, RetS, RetF, RetD, AV.frz, AV.frzL, AV.freshP, AV.freshL, DV.less, scal_int, scal_bool, scal_nil, scal_rowI, scal_rowU, scal_rowRat, scal_rowStep, Option.some.injEq, AV.tup.injEq, AV.agg.injEq, List.cons.injEq, DV.list.injEq, List.isEmpty_nil, Nat.le_refl, AV.d.injEq, DV.int.injEq, DV.bool.injEq, ↓reduceIte, Nat.reduceEqDiff, Nat.reduceAdd, Nat.reduceBEq, List.length_cons, List.length_nil, List.replicate_succ, List.replicate_zero, List.nil_append, List.cons_append, List.append_nil, List.foldl_cons, List.foldl_nil, List.map_cons, List.map_nil, List.all_cons, List.all_nil, List.set_cons_zero, List.set_cons_succ, List.getD_cons_zero, List.getD_cons_succ, List.drop_zero, List.drop_succ_cons, List.take_succ_cons, List.take_zero, List.flatten_cons, List.flatten_nil, Bool.true_and, Bool.and_true, Bool.not_true, Bool.not_false, true_and, and_true, true_or, or_true, Option.bind_some, Option.map_some, decide_true, decide_false, beq_self_eq_true, true_implies, false_implies, implies_true, not_true_eq_false, not_false_eq_true, and_self, Bool.and_false, Bool.false_and, Nat.reduceLT, Nat.reduceLeDiff, List.reverse_cons, List.reverse_nil, Nat.zero_add, Nat.add_zero, Bool.false_eq_true, List.getElem?_cons_zero, doneSt, nobj, MemG.row, sp_done, F1, G1, F2, G2, at_New, at_DoM, MemG.av, loadO_vec, storeO_vec]
    refine ⟨fun c3 => ⟨fun c4 => ⟨⟨by omega, by omega⟩, wfM hgood (by omega), fun e => ?_, fun e => ?_⟩, fun c4 => ?_⟩, fun c3 => ?_⟩
    · have hi : i < ss.length := by omega
      have es : goM (newM l t) ss (i + 1) = resM m.plain (ss.getD i default) := by
        rw [goM_succ _ hi, ← hm]; unfold stepM resM; rw [if_pos e, if_pos e]
      rw [wrap_succ hi hs]
      refine FamNext.mk [0, 1] (i + 1, resM m.plain (ss.getD i default)) (by simp) (by simp) (by simp only [State.can, AV.can, AV.canL, HO.can, canRows, idx, get_hit, get_next, Heap.at, Nat.reduceBEq, ↓reduceIte, Nat.reduceEqDiff, Option.getD_some, Option.map_some, List.map_cons, List.map_nil, List.getD_cons_zero, List.getD_cons_succ, doneSt, nobj, MemG.row]) ⟨by show i + 1 ≤ _; omega, by show i + 1 ≤ 40; omega, es.symm⟩ (by show 40 - (i + 1) < 40 - i; omega)
    · have hi : i < ss.length := by omega
      have es : goM (newM l t) ss (i + 1) = m := by
        rw [goM_succ _ hi, ← hm]; unfold stepM; rw [if_neg e]
      rw [wrap_succ hi hs]
      refine FamNext.mk [0, 1] (i + 1, m) (by simp) (by simp) (by simp only [State.can, AV.can, AV.canL, HO.can, canRows, idx, get_hit, get_next, Heap.at, Nat.reduceBEq, ↓reduceIte, Nat.reduceEqDiff, Option.getD_some, Option.map_some, List.map_cons, List.map_nil, List.getD_cons_zero, List.getD_cons_succ, doneSt, nobj, MemG.row]) ⟨by show i + 1 ≤ _; omega, by show i + 1 ≤ 40; omega, es.symm⟩ (by show 40 - (i + 1) < 40 - i; omega)
    · have : i = 40 := by omega
      subst this
      exact ⟨eM hflat (by rw [hd, hm]), hq.symm⟩
    · have e : goM (newM l t) ss 40 = m := by
        rw [hm]; unfold goM
        rw [List.take_of_length_le (by omega), List.take_of_length_le (by omega)]
      exact ⟨eM hflat (by rw [hd, e]), hq.symm⟩
  · have hq : doneQ l t = false := by unfold doneQ; rw [decide_eq_false c2, Bool.and_false]
    have e : newM l t = .nil := by unfold newM; rw [if_neg c2]
    exact ⟨eM (newM_flat l t) (by rw [bad hq, e]), hq.symm⟩
/-! ### onward -/
def GoesOn (a b : List (List RatG)) : Prop := a.length = b.length ∧ ∀ i, i < a.length → (a.getD i []).length = (b.getD i []).length ∧ ∀ k, k < (a.getD i []).length → cmpQ' ((a.getD i []).getD k default) ((b.getD i []).getD k default) ≤ 0 ∧ rightQ ((b.getD i []).getD k default) = true
open Classical in
noncomputable def onwardB (a b : List (List RatG)) : Bool := decide (GoesOn a b)
noncomputable def sp_onward : Sp := ⟨List RatsF × Bool × List RatsF × Bool, fun x => [.d (.list (x.1.map rowRats) x.2.1), .d (.list (x.2.2.1.map rowRats) x.2.2.2)],
  fun x => .data (x.1.length ≤ maxLen ∧ (∀ r ∈ x.1, r.1.length ≤ maxLen)) (.d (.bool (onwardB (inn x.1) (inn x.2.2.1)))) true⟩
theorem at_onward (a : List RatsF) (f : Bool) (b : List RatsF) (g : Bool) : sp_onward.at [.d (.list (a.map rowRats) f), .d (.list (b.map rowRats) g)] = .data (a.length ≤ maxLen ∧ (∀ r ∈ a, r.1.length ≤ maxLen)) (.d (.bool (onwardB (inn a) (inn b)))) true :=
  Sp.at_enc (s := sp_onward) (fun x y h => by
    obtain ⟨a, f, b, g⟩ := x; obtain ⟨a', f', b', g'⟩ := y
    simp only [sp_onward, List.cons.injEq, AV.d.injEq, DV.list.injEq, and_true] at h
    obtain ⟨⟨h1, h2⟩, h3, h4⟩ := h
    rw [rows_inj rowRats_inj h1, h2, rows_inj rowRats_inj h3, h4]) (a, f, b, g)
def onSt (a : List RatsF) (f : Bool) (b : List RatsF) (g : Bool) (i : Nat) : State := ⟨[(0, .d (.list (a.map rowRats) f)), (1, .d (.list (b.map rowRats) g)), (5, .d (.int .i64 i))], []⟩
def onSt2 (a : List RatsF) (f : Bool) (b : List RatsF) (g : Bool) (i : Nat) (k : Nat) : State := ⟨[(0, .d (.list (a.map rowRats) f)), (1, .d (.list (b.map rowRats) g)), (5, .d (.int .i64 i)), (6, .d (.int .i64 k))], []⟩
set_option maxHeartbeats 4000000 in
theorem body_law20_onward {T : Tab} {n1 n2 : Nat} (k1 : Knows T n1 sp_rat_Cmp) (k2 : Knows T n2 sp_rat_Right) : sp_onward.Body T V_law20_onward (L_law20_onward n1 n2) R_law20_onward := by
  have F1 := k1.F; have G1 := k1.G; have F2 := k2.F; have G2 := k2.G
  rintro ⟨a, f, b, g⟩ ⟨ha, har⟩
  have ha : a.length ≤ maxLen := ha
  have har : ∀ r ∈ a, r.1.length ≤ maxLen := har
  refine .inl ⟨rfl, ?_⟩
  unfold V_law20_onward L_law20_onward R_law20_onward
  simp (maxSteps := 3000000) only [↓vck_skip, ↓vck_ret, ↓vck_exit, ↓vck_region, ↓vck_nilq, ↓nilTo_to, nilG_d, nilG_r, ↓vck_seq, ↓vck_cond, ↓vck_block, ↓vck_loop, ↓vckTo_to, ↓thenK_n, ↓thenK_x, ↓thenK_r, ↓blockK_n, ↓blockK_x, ↓blockK_o, ↓blockK_r, ↓regK_to, ↓retK_r, ↓retK_n, ↓loopV_n, ↓loopV_x, ↓loopV_r, ↓famK_n, ↓famK_x, ↓famK_r, ↓boolK_true, ↓boolK_false, ↓boolK_not, ↓boolK_dec, ↓boolK_and, nf_mk, RGk_end_f, RGk_end_t, RGk_op, RGk_guard, opK_to, evN, evCallN, grow_mk, feet_f, feet_t, foot_mk, stepK_mk, stepK_v, stepK_no, guardG_t, guardG_f, guardG_no, condG_b, evT, Opd.ev, get_hit, get_next, app_to, app_no, app_up, app_skip, app_skipn, know_mk, knowO_t, knowO_c, envFrom, reserve, keeps, LOp.isNew, State.prune, cellsQ, cellsT, AV.leaf, Heap.at, evLoad_ptr, evLoad_dptr, loadO_vec, loadO_dvec1, stepK_load_map, idx_I, idx_U, idx_Rat, idx_Loc, idx_Act, idx_Step, idx_Stamp, stepK_idx_ref, evStore_ptr, storeO_vec, stepK_store_map1, loadDT_f, rowI, rowU, RatG.row, LocG.row, ActG.row, StepG.row, StampG.row, ActG.av, ActG.eta, RatG.eta, LocG.eta, beq_true, beq_false, loadDT_t, set_rowI, set_rowU, app_rowI, app_rowU, rep_rowI, rep_rowU, set_rowRat, app_rowRat, rep_rowRat, set_rowLoc, app_rowLoc, app_rowAct, app_rowStep, List.length_set, List.length_replicate, Int.toNat_natCast, Int.reduceToNat, evLen, evAppend, srcOf, Src.all, Src.len, Src.leaf, Src.leafN, evApart, aliveQ, joinV, drows_rep1, drows_rep2, drows_rep3, drows_rep4, drows_rep5, drows_rep6, drows_rep7, drows_rep8, mkVec, drows, evMk, List.length_map, take_mapF, drop_mapF, List.take_length, List.take_left, List.length_append, Nat.le_add_right, ite_self, List.take_of_length_le, evSlice, intOr, intOpd, Option.isSome_none, Option.isSome_some, Nat.sub_zero, loadQ, loadT, evBin, evUn, binT, binQ, chk, apartF, List.contains_cons, List.contains_nil, Bool.or_false, Bool.false_or, Bool.and_self, resQ, resV, resT, pickV, evCallT, evTake, evCall, fnOf, viewsT, isD, HO.drow, viewT, evInt2, evEq, eqV, eqK, eqC1, buildQ, buildT, buildRQ, buildRT, lens_I, lensA_I, lens_U, lensA_U, lens_Rat, lensA_Rat, lens_Loc, lensA_Loc, lens_Act, lensA_Act, lens_Step, lensA_Step, lens_Stamp, lensA_Stamp, List.mem_cons, List.not_mem_nil, or_false, forall_eq, putRow, dcells, get_nil, RetS, RetF, RetD, AV.frz, AV.frzL, AV.freshP, AV.freshL, DV.less, scal_int, scal_bool, scal_nil, scal_rowI, scal_rowU, scal_rowRat, scal_rowStep, Option.some.injEq, AV.tup.injEq, AV.agg.injEq, List.cons.injEq, DV.list.injEq, List.isEmpty_nil, Nat.le_refl, AV.d.injEq, DV.int.injEq, DV.bool.injEq, ↓reduceIte, Nat.reduceEqDiff, Nat.reduceAdd, Nat.reduceBEq, List.length_cons, List.length_nil, List.replicate_succ, List.replicate_zero, List.nil_append, List.cons_append, List.append_nil, List.foldl_cons, List.foldl_nil, List.map_cons, List.map_nil, List.all_cons, List.all_nil, List.set_cons_zero, List.set_cons_succ, List.getD_cons_zero, List.getD_cons_succ, List.drop_zero, List.drop_succ_cons, List.take_succ_cons, List.take_zero, List.flatten_cons, List.flatten_nil, Bool.true_and, Bool.and_true, Bool.not_true, Bool.not_false, true_and, and_true, true_or, or_true, Option.bind_some, Option.map_some, decide_true, decide_false, beq_self_eq_true, true_implies, false_implies, implies_true, not_true_eq_false, not_false_eq_true, and_self, Bool.and_false, Bool.false_and, Nat.reduceLT, Nat.reduceLeDiff, List.reverse_cons, List.reverse_nil, Nat.zero_add, Nat.add_zero, Bool.false_eq_true, List.getElem?_cons_zero, sp_onward, F1, G1, F2, G2, at_rat_Cmp, at_rat_Right]
  have no : ¬ GoesOn (inn a) (inn b) → false = onwardB (inn a) (inn b) := fun h => by unfold onwardB; exact (@decide_eq_false _ (Classical.propDecidable _) h).symm
  have yes : GoesOn (inn a) (inn b) → true = onwardB (inn a) (inn b) := fun h => by unfold onwardB; exact (@decide_eq_true _ (Classical.propDecidable _) h).symm
  refine ⟨fun c => ?_, fun c => no fun h => c (by have := h.1; rw [inn_len, inn_len] at this; omega)⟩
  have hab : a.length = b.length := by omega
  refine Loop.fam [0, 1, 5] (onSt a f b g) (fun i => i ≤ a.length ∧ ∀ j, j < i → ((inn a).getD j []).length = ((inn b).getD j []).length ∧ ∀ k, k < ((inn a).getD j []).length → cmpQ' (((inn a).getD j []).getD k default) (((inn b).getD j []).getD k default) ≤ 0 ∧ rightQ (((inn b).getD j []).getD k default) = true) (fun i => a.length - i) 0 [] (by simp) (by simp) (by simp only [State.can, AV.can, AV.canL, HO.can, canRows, idx, get_hit, get_next, Heap.at, Nat.reduceBEq, ↓reduceIte, Nat.reduceEqDiff, Option.getD_some, Option.map_some, List.map_cons, List.map_nil, List.getD_cons_zero, List.getD_cons_succ, onSt]; rfl) ⟨Nat.zero_le _, fun j hj => absurd hj (by omega)⟩ ?_
  rintro i ⟨hi, hj⟩
  simp (maxSteps := 3000000) only [↓vck_skip, ↓vck_ret, ↓vck_exit, ↓vck_region, ↓vck_nilq, ↓nilTo_to, nilG_d, nilG_r, ↓vck_seq, ↓vck_cond, ↓vck_block, ↓vck_loop, ↓vckTo_to, ↓thenK_n, ↓thenK_x, ↓thenK_r, ↓blockK_n, ↓blockK_x, ↓blockK_o, ↓blockK_r, ↓regK_to, ↓retK_r, ↓retK_n, ↓loopV_n, ↓loopV_x, ↓loopV_r, ↓famK_n, ↓famK_x, ↓famK_r, ↓boolK_true, ↓boolK_false, ↓boolK_not, ↓boolK_dec, ↓boolK_and, nf_mk, RGk_end_f, RGk_end_t, RGk_op, RGk_guard, opK_to, evN, evCallN, grow_mk, feet_f, feet_t, foot_mk, stepK_mk, stepK_v, stepK_no, guardG_t, guardG_f, guardG_no, condG_b, evT, Opd.ev, get_hit, get_next, app_to, app_no, app_up, app_skip, app_skipn, know_mk, knowO_t, knowO_c, envFrom, reserve, keeps, LOp.isNew, State.prune, cellsQ, cellsT, AV.leaf, Heap.at, evLoad_ptr, evLoad_dptr, loadO_vec, loadO_dvec1, stepK_load_map, idx_I, idx_U, idx_Rat, idx_Loc, idx_Act, idx_Step, idx_Stamp, stepK_idx_ref, evStore_ptr, storeO_vec, stepK_store_map1, loadDT_f, rowI, rowU, RatG.row, LocG.row, ActG.row, StepG.row, StampG.row, ActG.av, ActG.eta, RatG.eta, LocG.eta, beq_true, beq_false, loadDT_t, set_rowI, set_rowU, app_rowI, app_rowU, rep_rowI, rep_rowU, set_rowRat, app_rowRat, rep_rowRat, set_rowLoc, app_rowLoc, app_rowAct, app_rowStep, List.length_set, List.length_replicate, Int.toNat_natCast, Int.reduceToNat, evLen, evAppend, srcOf, Src.all, Src.len, Src.leaf, Src.leafN, evApart, aliveQ, joinV, drows_rep1, drows_rep2, drows_rep3, drows_rep4, drows_rep5, drows_rep6, drows_rep7, drows_rep8, mkVec, drows, evMk, List.length_map, take_mapF, drop_mapF, List.take_length, List.take_left, List.length_append, Nat.le_add_right, ite_self, List.take_of_length_le, evSlice, intOr, intOpd, Option.isSome_none, Option.isSome_some, Nat.sub_zero, loadQ, loadT, evBin, evUn, binT, binQ, chk, apartF, List.contains_cons, List.contains_nil, Bool.or_false, Bool.false_or, Bool.and_self, resQ, resV, resT, pickV, evCallT, evTake, evCall, fnOf, viewsT, isD, HO.drow, viewT, evInt2, evEq, eqV, eqK, eqC1, buildQ, buildT, buildRQ, buildRT, lens_I, lensA_I, lens_U, lensA_U, lens_Rat, lensA_Rat, lens_Loc, lensA_Loc, lens_Act, lensA_Act, lens_Step, lensA_Step, lens_Stamp, lensA_Stamp, List.mem_cons, List.not_mem_nil, or_false, forall_eq, putRow, dcells, get_nil, RetS, RetF, RetD, AV.frz, AV.frzL, AV.freshP, AV.freshL, DV.less, scal_int, scal_bool, scal_nil, scal_rowI, scal_rowU, scal_rowRat, scal_rowStep, Option.some.injEq, AV.tup.injEq, AV.agg.injEq, List.cons.injEq, DV.list.injEq, List.isEmpty_nil, Nat.le_refl, AV.d.injEq, DV.int.injEq, DV.bool.injEq, ↓reduceIte, Nat.reduceEqDiff, Nat.reduceAdd, Nat.reduceBEq, List.length_cons, List.length_nil, List.replicate_succ, List.replicate_zero, List.nil_append, List.cons_append, List.append_nil, List.foldl_cons, List.foldl_nil, List.map_cons, List.map_nil, List.all_cons, List.all_nil, List.set_cons_zero, List.set_cons_succ, List.getD_cons_zero, List.getD_cons_succ, List.drop_zero, List.drop_succ_cons, List.take_succ_cons, List.take_zero, List.flatten_cons, List.flatten_nil, Bool.true_and, Bool.and_true, Bool.not_true, Bool.not_false, true_and, and_true, true_or, or_true, Option.bind_some, Option.map_some, decide_true, decide_false, beq_self_eq_true, true_implies, false_implies, implies_true, not_true_eq_false, not_false_eq_true, and_self, Bool.and_false, Bool.false_and, Nat.reduceLT, Nat.reduceLeDiff, List.reverse_cons, List.reverse_nil, Nat.zero_add, Nat.add_zero, Bool.false_eq_true, List.getElem?_cons_zero, onSt, sp_onward, F1, G1, F2, G2, at_rat_Cmp, at_rat_Right, idx_Rats, getRats, rowRats_len]
  refine ⟨fun c1 => ⟨⟨by omega, by omega⟩, ⟨by omega, by omega⟩, fun c2 => ?_, fun c2 => no fun h => c2 ?_⟩, fun c1 => yes ⟨by rw [inn_len, inn_len, hab], fun j hj2 => hj j (by rw [inn_len] at hj2; omega)⟩⟩
  · have hil : i < a.length := by omega
    refine Loop.fam [0, 1, 5, 6] (onSt2 a f b g i) (fun k => k ≤ (a.getD i default).1.length ∧ ∀ j, j < k → cmpQ' (((inn a).getD i []).getD j default) (((inn b).getD i []).getD j default) ≤ 0 ∧ rightQ (((inn b).getD i []).getD j default) = true) (fun k => (a.getD i default).1.length - k) 0 [] (by simp) (by simp) (by simp only [State.can, AV.can, AV.canL, HO.can, canRows, idx, get_hit, get_next, Heap.at, Nat.reduceBEq, ↓reduceIte, Nat.reduceEqDiff, Option.getD_some, Option.map_some, List.map_cons, List.map_nil, List.getD_cons_zero, List.getD_cons_succ, onSt2]; rfl) ⟨Nat.zero_le _, fun j hj => absurd hj (by omega)⟩ ?_
    rintro k ⟨hk, hkj⟩
    have hk : k ≤ (a.getD i default).1.length := hk
    have hal : (a.getD i default).1.length ≤ maxLen := har _ (by rw [getD_lt hil]; exact List.getElem_mem _)
    simp (maxSteps := 3000000) only [↓vck_skip, ↓vck_ret, ↓vck_exit, ↓vck_region, ↓vck_nilq, ↓nilTo_to, nilG_d, nilG_r, ↓vck_seq, ↓vck_cond, ↓vck_block, ↓vck_loop, ↓vckTo_to, ↓thenK_n, ↓thenK_x, ↓thenK_r, ↓blockK_n, ↓blockK_x, ↓blockK_o, ↓blockK_r, ↓regK_to, ↓retK_r, ↓retK_n, ↓loopV_n, ↓loopV_x, ↓loopV_r, ↓famK_n, ↓famK_x, ↓famK_r, ↓boolK_true, ↓boolK_false, ↓boolK_not, ↓boolK_dec, ↓boolK_and, nf_mk, RGk_end_f, RGk_end_t, RGk_op, RGk_guard, opK_to, evN, evCallN, grow_mk, feet_f, feet_t, foot_mk, stepK_mk, stepK_v, stepK_no, guardG_t, guardG_f, guardG_no, condG_b, evT, Opd.ev, get_hit, get_next, app_to, app_no, app_up, app_skip, app_skipn, know_mk, knowO_t, knowO_c, envFrom, reserve, keeps, LOp.isNew, State.prune, cellsQ, cellsT, AV.leaf, Heap.at, evLoad_ptr, evLoad_dptr, loadO_vec, loadO_dvec1, stepK_load_map, idx_I, idx_U, idx_Rat, idx_Loc, idx_Act, idx_Step, idx_Stamp, stepK_idx_ref, evStore_ptr, storeO_vec, stepK_store_map1, loadDT_f, rowI, rowU, RatG.row, LocG.row, ActG.row, StepG.row, StampG.row, ActG.av, ActG.eta, RatG.eta, LocG.eta, beq_true, beq_false, loadDT_t, set_rowI, set_rowU, app_rowI, app_rowU, rep_rowI, rep_rowU, set_rowRat, app_rowRat, rep_rowRat, set_rowLoc, app_rowLoc, app_rowAct, app_rowStep, List.length_set, List.length_replicate, Int.toNat_natCast, Int.reduceToNat, evLen, evAppend, srcOf, Src.all, Src.len, Src.leaf, Src.leafN, evApart, aliveQ, joinV, drows_rep1, drows_rep2, drows_rep3, drows_rep4, drows_rep5, drows_rep6, drows_rep7, drows_rep8, mkVec, drows, evMk, List.length_map, take_mapF, drop_mapF, List.take_length, List.take_left, List.length_append, Nat.le_add_right, ite_self, List.take_of_length_le, evSlice, intOr, intOpd, Option.isSome_none, Option.isSome_some, Nat.sub_zero, loadQ, loadT, evBin, evUn, binT, binQ, chk, apartF, List.contains_cons, List.contains_nil, Bool.or_false, Bool.false_or, Bool.and_self, resQ, resV, resT, pickV, evCallT, evTake, evCall, fnOf, viewsT, isD, HO.drow, viewT, evInt2, evEq, eqV, eqK, eqC1, buildQ, buildT, buildRQ, buildRT, lens_I, lensA_I, lens_U, lensA_U, lens_Rat, lensA_Rat, lens_Loc, lensA_Loc, lens_Act, lensA_Act, lens_Step, lensA_Step, lens_Stamp, lensA_Stamp, List.mem_cons, List.not_mem_nil, or_false, forall_eq, putRow, dcells, get_nil, RetS, RetF, RetD, AV.frz, AV.frzL, AV.freshP, AV.freshL, DV.less, scal_int, scal_bool, scal_nil, scal_rowI, scal_rowU, scal_rowRat, scal_rowStep, Option.some.injEq, AV.tup.injEq, AV.agg.injEq, List.cons.injEq, DV.list.injEq, List.isEmpty_nil, Nat.le_refl, AV.d.injEq, DV.int.injEq, DV.bool.injEq, ↓reduceIte, Nat.reduceEqDiff, Nat.reduceAdd, Nat.reduceBEq, List.length_cons, List.length_nil, List.replicate_succ, List.replicate_zero, List.nil_append, List.cons_append, List.append_nil, List.foldl_cons, List.foldl_nil, List.map_cons, List.map_nil, List.all_cons, List.all_nil, List.set_cons_zero, List.set_cons_succ, List.getD_cons_zero, List.getD_cons_succ, List.drop_zero, List.drop_succ_cons, List.take_succ_cons, List.take_zero, List.flatten_cons, List.flatten_nil, Bool.true_and, Bool.and_true, Bool.not_true, Bool.not_false, true_and, and_true, true_or, or_true, Option.bind_some, Option.map_some, decide_true, decide_false, beq_self_eq_true, true_implies, false_implies, implies_true, not_true_eq_false, not_false_eq_true, and_self, Bool.and_false, Bool.false_and, Nat.reduceLT, Nat.reduceLeDiff, List.reverse_cons, List.reverse_nil, Nat.zero_add, Nat.add_zero, Bool.false_eq_true, List.getElem?_cons_zero, onSt2, sp_onward, F1, G1, F2, G2, at_rat_Cmp, at_rat_Right, idx_Rats, getRats, rowRats_len]
    have row : GoesOn (inn a) (inn b) → k < (a.getD i default).1.length → cmpQ' ((a.getD i default).1.getD k default) ((b.getD i default).1.getD k default) ≤ 0 ∧ rightQ ((b.getD i default).1.getD k default) = true := fun h hlt => by
      have := (h.2 i (by rw [inn_len]; omega)).2 k (by rw [← inn_at]; exact hlt)
      rw [inn_at, inn_at]; exact this
    refine ⟨⟨by omega, by omega⟩, fun c3 => ⟨⟨by omega, by omega⟩, ⟨by omega, by omega⟩, ⟨by omega, by omega⟩, ⟨by omega, by omega⟩, fun c4 => no fun h => ?_, fun c4 => ⟨⟨by omega, by omega⟩, ⟨by omega, by omega⟩, fun c5 => ?_, fun c5 => no fun h => ?_⟩⟩, fun c3 => ?_⟩
    · have := (row h (by omega)).1
      unfold cmpQ' at this; omega
    · rw [wrap_succ (show k < (a.getD i default).1.length by omega) hal]
      refine FamNext.mk [] (k + 1) (by simp) (by simp) (by simp only [State.can, AV.can, AV.canL, HO.can, canRows, idx, get_hit, get_next, Heap.at, Nat.reduceBEq, ↓reduceIte, Nat.reduceEqDiff, Option.getD_some, Option.map_some, List.map_cons, List.map_nil, List.getD_cons_zero, List.getD_cons_succ, onSt2]) ⟨by show k + 1 ≤ _; omega, fun j hj2 => ?_⟩ (by show _ - (k + 1) < _ - k; omega)
      rcases Nat.lt_or_eq_of_le (Nat.le_of_lt_succ hj2) with h | rfl
      · exact hkj j h
      · rw [← inn_at, ← inn_at]
        exact ⟨by unfold cmpQ'; omega, c5⟩
    · have := (row h (by omega)).2
      unfold rightQ at this; rw [c5] at this; cases this
    · have hke : k = (a.getD i default).1.length := by omega
      rw [wrap_succ hil ha]
      refine FamNext.mk [] (i + 1) (by simp) (by simp) (by simp only [State.can, AV.can, AV.canL, HO.can, canRows, idx, get_hit, get_next, Heap.at, Nat.reduceBEq, ↓reduceIte, Nat.reduceEqDiff, Option.getD_some, Option.map_some, List.map_cons, List.map_nil, List.getD_cons_zero, List.getD_cons_succ, onSt]) ⟨by show i + 1 ≤ _; omega, fun j hj2 => ?_⟩ (by show _ - (i + 1) < _ - i; omega)
      rcases Nat.lt_or_eq_of_le (Nat.le_of_lt_succ hj2) with h | rfl
      · exact hj j h
      · refine ⟨by rw [← inn_at, ← inn_at]; omega, fun q hq => hkj q (by rw [← inn_at] at hq; omega)⟩
  · have := (h.2 i (by rw [inn_len]; omega)).1
    rw [← inn_at, ← inn_at] at this
    omega
/-! ### awake -/
set_option maxHeartbeats 4000000 in
theorem body_law20_awake {T : Tab} {n1 n2 n3 : Nat} (k1 : Knows T n1 sp_New) (k2 : Knows T n2 sp_Do) (k3 : Knows T n3 sp_Sees) : sp_true.Body T V_law20_awake (L_law20_awake n1 n2 n3) R_law20_awake := by
  have F1 := k1.F; have G1 := k1.G; have F2 := k2.F; have G2 := k2.G; have F3 := k3.F; have G3 := k3.G
  rintro ⟨⟩ -
  refine .inl ⟨rfl, ?_⟩
  unfold V_law20_awake L_law20_awake R_law20_awake
  have hN : sp_New.at [.d (.list [[.bool false, .int .i64 0]] false), .d (.int .i64 2)] = .data (1 ≤ maxLen) (.tup [(newM [⟨false, 0⟩] 2).av, .d (.int .i64 0)]) false := at_New [⟨false, 0⟩] false 2
  have hW : (newM [⟨false, 0⟩] 2).plain.Good 1 := newM_good (by decide)
  have eD : doErr (newM [⟨false, 0⟩] 2).plain ⟨0, ⟨2, 0, 0, 1⟩, ⟨1, 1⟩⟩ = 0 := by decide +kernel
  have eS0 : (seesG (resM (newM [⟨false, 0⟩] 2).plain ⟨0, ⟨2, 0, 0, 1⟩, ⟨1, 1⟩⟩).plain 0 0).length = 1 := by decide +kernel
  have eS1 : (seesG (resM (newM [⟨false, 0⟩] 2).plain ⟨0, ⟨2, 0, 0, 1⟩, ⟨1, 1⟩⟩).plain 1 0).length = 2 := by decide +kernel
  have hR : (resM (newM [⟨false, 0⟩] 2).plain ⟨0, ⟨2, 0, 0, 1⟩, ⟨1, 1⟩⟩).plain.Good 2 := by unfold resM; rw [if_pos eD, plain_av]; exact doMem_good hW eD
  generalize newM [⟨false, 0⟩] 2 = m1 at *
  have hD : sp_Do.at [.agg [.d (.list (m1.locs.map LocG.row) m1.lf), .d (.list (m1.past.map rowStamps) m1.pf), .d (.list (m1.vals.map rowI) m1.vf), .d (.list (m1.marks.map rowRats) m1.mf), .d (.list (m1.fronts.map rowRats) m1.ff)], .agg [.d (.int .i64 0), .d (.int .i64 2), .d (.int .i64 0), .d (.int .i64 0), .d (.int .i64 1), .d (.int .i64 1), .d (.int .i64 1)]] =
      .data (m1.plain.Wf 1000000) (.tup [(resM m1.plain ⟨0, ⟨2, 0, 0, 1⟩, ⟨1, 1⟩⟩).av, .d (.int .i64 0)]) false := by
    have := at_DoM m1 ⟨0, ⟨2, 0, 0, 1⟩, ⟨1, 1⟩⟩
    rw [eD] at this; exact this
  generalize resM m1.plain ⟨0, ⟨2, 0, 0, 1⟩, ⟨1, 1⟩⟩ = m2 at *
  simp (maxSteps := 3000000) only [↓vck_skip, ↓vck_ret, ↓vck_exit, ↓vck_region, ↓vck_nilq, ↓nilTo_to, nilG_d, nilG_r, ↓vck_seq, ↓vck_cond, ↓vck_block, ↓vck_loop, ↓vckTo_to, ↓thenK_n, ↓thenK_x, ↓thenK_r, ↓blockK_n, ↓blockK_x, ↓blockK_o, ↓blockK_r, ↓regK_to, ↓retK_r, ↓retK_n, ↓loopV_n, ↓loopV_x, ↓loopV_r, ↓famK_n, ↓famK_x, ↓famK_r, ↓boolK_true, ↓boolK_false, ↓boolK_not, ↓boolK_dec, ↓boolK_and, nf_mk, RGk_end_f, RGk_end_t, RGk_op, RGk_guard, opK_to, evN, evCallN, grow_mk, feet_f, feet_t, foot_mk, stepK_mk, stepK_v, stepK_no, guardG_t, guardG_f, guardG_no, condG_b, evT, Opd.ev, get_hit, get_next, app_to, app_no, app_up, app_skip, app_skipn, know_mk, knowO_t, knowO_c, envFrom, reserve, keeps, LOp.isNew, State.prune, cellsQ, cellsT, AV.leaf, Heap.at, evLoad_ptr, evLoad_dptr, loadO_vec, loadO_dvec1, stepK_load_map, idx_I, idx_U, idx_Rat, idx_Loc, idx_Act, idx_Step, idx_Stamp, stepK_idx_ref, evStore_ptr, storeO_vec, stepK_store_map1, loadDT_f, rowI, rowU, RatG.row, LocG.row, ActG.row, StepG.row, StampG.row, ActG.av, ActG.eta, RatG.eta, LocG.eta, beq_true, beq_false, loadDT_t, set_rowI, set_rowU, app_rowI, app_rowU, rep_rowI, rep_rowU, set_rowRat, app_rowRat, rep_rowRat, set_rowLoc, app_rowLoc, app_rowAct, app_rowStep, List.length_set, List.length_replicate, Int.toNat_natCast, Int.reduceToNat, evLen, evAppend, srcOf, Src.all, Src.len, Src.leaf, Src.leafN, evApart, aliveQ, joinV, drows_rep1, drows_rep2, drows_rep3, drows_rep4, drows_rep5, drows_rep6, drows_rep7, drows_rep8, mkVec, drows, evMk, List.length_map, take_mapF, drop_mapF, List.take_length, List.take_left, List.length_append, Nat.le_add_right, ite_self, List.take_of_length_le, evSlice, intOr, intOpd, Option.isSome_none, Option.isSome_some, Nat.sub_zero, loadQ, loadT, evBin, evUn, binT, binQ, chk, apartF, List.contains_cons, List.contains_nil, Bool.or_false, Bool.false_or, Bool.and_self, resQ, resV, resT, pickV, evCallT, evTake, evCall, fnOf, viewsT, isD, HO.drow, viewT, evInt2, evEq, eqV, eqK, eqC1, buildQ, buildT, buildRQ, buildRT, lens_I, lensA_I, lens_U, lensA_U, lens_Rat, lensA_Rat, lens_Loc, lensA_Loc, lens_Act, lensA_Act, lens_Step, lensA_Step, lens_Stamp, lensA_Stamp, List.mem_cons, List.not_mem_nil, or_false, forall_eq, putRow, dcells, get_nil, RetS, RetF, RetD, AV.frz, AV.frzL, AV.freshP, AV.freshL, DV.less, scal_int, scal_bool, scal_nil, scal_rowI, scal_rowU, scal_rowRat, scal_rowStep, Option.some.injEq, AV.tup.injEq, AV.agg.injEq, List.cons.injEq, DV.list.injEq, List.isEmpty_nil, Nat.le_refl, AV.d.injEq, DV.int.injEq, DV.bool.injEq, ↓reduceIte, Nat.reduceEqDiff, Nat.reduceAdd, Nat.reduceBEq, List.length_cons, List.length_nil, List.replicate_succ, List.replicate_zero, List.nil_append, List.cons_append, List.append_nil, List.foldl_cons, List.foldl_nil, List.map_cons, List.map_nil, List.all_cons, List.all_nil, List.set_cons_zero, List.set_cons_succ, List.getD_cons_zero, List.getD_cons_succ, List.drop_zero, List.drop_succ_cons, List.take_succ_cons, List.take_zero, List.flatten_cons, List.flatten_nil, Bool.true_and, Bool.and_true, Bool.not_true, Bool.not_false, true_and, and_true, true_or, or_true, Option.bind_some, Option.map_some, decide_true, decide_false, beq_self_eq_true, true_implies, false_implies, implies_true, not_true_eq_false, not_false_eq_true, and_self, Bool.and_false, Bool.false_and, Nat.reduceLT, Nat.reduceLeDiff, List.reverse_cons, List.reverse_nil, Nat.zero_add, Nat.add_zero, Bool.false_eq_true, List.getElem?_cons_zero, sp_true, F1, G1, F2, G2, F3, G3, MemG.av, loadO_vec, storeO_vec, hN, hD, at_SeesM, eS0, eS1]
  exact ⟨⟨by decide, by decide, roomy_of (by decide) (by decide)⟩, by decide, wfM hW (by decide), wfM hR (by decide), fun _ => ⟨wfM hR (by decide), by decide⟩, fun h => h rfl⟩
end Go.Ago

/- HistSwap: two plain acts of unlike threads on unlike locations change places. Conditions: none. -/
set_option maxRecDepth 100000
set_option linter.unusedSimpArgs false
set_option linter.unusedVariables false
namespace Go.Ago
theorem small_of {m : MemG} {b : Nat} (h : m.plain.Good b) (hb : b ≤ 1000000) : m.small := by
  have hl : m.locs.length ≤ 16 := h.wf.locs
  have h2 : m.vals.length = m.locs.length := h.wf.vals
  have h3 : m.marks.length = m.locs.length := by have := h.wf.marks; simpa [MemG.plain, inn_len] using this
  have h4 : m.fronts.length ≤ 3 := by have := h.wf.fronts; simpa [MemG.plain, inn_len] using this
  have hm : maxLen = 9223372036854775807 := rfl
  have h1 : m.past.length = m.locs.length := by have := h.wf.past; simpa [MemG.plain, inn_len] using this
  refine ⟨by omega, by omega, ⟨by omega, fun r hr => ?_⟩, ⟨by omega, fun r hr => ?_⟩, by omega, fun r hr => ?_⟩
  · have : r.1.length ≤ m.locs.length := h.wf.marksL r.1 (inn_mem hr)
    omega
  · have : r.1.length = m.locs.length := h.wf.frontsL r.1 (inn_mem hr)
    omega
  · have : r.1.length ≤ b := h.wf.pasts r.1 (inn_mem hr)
    omega
theorem resM_ok {m : Mem} {s : StepG} (h : doErr m s = 0) : resM m s = (doMem m s).av := by unfold resM; rw [if_pos h]
theorem resM_good {m : Mem} {s : StepG} {b : Nat} (hg : m.Good b) (h : doErr m s = 0) : (resM m s).plain.Good (b + 1) := by rw [resM_ok h, plain_av]; exact doMem_good hg h
/-- What a plain act leaves. -/
theorem doMem_pl {m : Mem} {s : StepG} (hk : isPl s.act.kind = true) : doMem m s = if s.act.kind = 2 then { m with past := m.past.set s.act.loc.toNat (insG (pastOf m s) (bsAt (pastOf m s) s.when) ⟨leastQ s.when, s.act.new⟩), fronts := m.fronts.set s.thread.toNat ((frontOf m s).set s.act.loc.toNat (leastQ s.when)) } else m := by
  have ha : isAt s.act.kind = false := by rw [isPl_iff] at hk; unfold isAt; simp; omega
  unfold doMem
  rw [ha]; simp
theorem doMem_lens {m : Mem} {s : StepG} : (doMem m s).locs = m.locs ∧ (doMem m s).fronts.length = m.fronts.length := by
  unfold doMem
  split
  · exact ⟨rfl, List.length_set⟩
  · split
    · split
      · exact ⟨rfl, List.length_set⟩
      · exact ⟨rfl, List.length_set⟩
    · exact ⟨rfl, rfl⟩
end Go.Ago

/- HistOwn: a thread reads what it wrote itself, or what stands later. Conditions: none. -/
set_option maxRecDepth 100000
set_option linter.unusedSimpArgs false
set_option linter.unusedVariables false
namespace Go.Ago
theorem seesG_in {m : Mem} {t l : Int} (h : ¬ (t < 0 ∨ (m.fronts.length : Int) ≤ t ∨ l < 0 ∨ (m.past.length : Int) ≤ l)) : seesG m t l = (m.past.getD l.toNat []).filter fun s => decide (0 ≤ cmpQ' s.when ((m.fronts.getD t.toNat []).getD l.toNat default)) := if_neg h
theorem seesG_out {m : Mem} {t l : Int} (h : t < 0 ∨ (m.fronts.length : Int) ≤ t ∨ l < 0 ∨ (m.past.length : Int) ≤ l) : seesG m t l = [] := if_pos h
theorem getD_set_self {α : Type} {l : List α} {i : Nat} {d x : α} (h : i < l.length) : (l.set i x).getD i d = x := by rw [getD_set, if_pos ⟨rfl, h⟩]
theorem sees_own {m : Mem} {w : StepG} {b : Nat} (h : m.Good b) (he : doErr m w = 0) (hk : w.act.kind = 2) : ∃ r, seesG (doMem m w) w.thread w.act.loc = ⟨leastQ w.when, w.act.new⟩ :: r := by
  have ht := taken he
  have t0 := ht.t0
  have t1 := ht.t1
  have hl := ht.loc (.inl (by rw [hk]; rfl))
  have hw := ht.when (by rw [hk]; rfl)
  have hp := h.wf.past
  have hfl := h.wf.frontsL _ (getD_mem (l := m.fronts) (i := w.thread.toNat) (d := []) (by omega))
  have hb := (ht.write hk).1
  have hr := h.rising _ (getD_mem (l := m.past) (i := w.act.loc.toNat) (d := []) (by omega))
  have hrr := ins_rising (v := w.act.new) hr hw hb
  rw [doMem_pl (by rw [hk]; rfl), if_pos hk, seesG_in (by simp only [List.length_set]; omega)]
  simp only
  rw [getD_set_self (by omega : w.act.loc.toNat < m.past.length), getD_set_self (by omega : w.thread.toNat < m.fronts.length), getD_set_self (by show _ < (m.fronts.getD w.thread.toNat []).length; omega)]
  have hrr : Rising (insG (pastOf m w) (bsAt (pastOf m w) w.when) ⟨leastQ w.when, w.act.new⟩) := hrr
  unfold insG at hrr ⊢
  rw [List.filter_append, List.filter_cons_of_pos (by simp only [cmpQ_self]; decide)]
  have : List.filter (fun s : StampG => decide (0 ≤ cmpQ' s.when (leastQ w.when))) (List.take (bsAt (pastOf m w) w.when) (pastOf m w)) = [] := by
    rw [List.filter_eq_nil_iff]
    intro s hs
    have := (List.pairwise_append.1 hrr.rise).2.2 s hs _ (List.mem_cons_self)
    simp only [decide_eq_true_eq]
    have e : cmpQ' s.when (leastQ w.when) < 0 := this
    omega
  rw [this]
  exact ⟨_, rfl⟩
theorem sees_more {m : Mem} {w : StepG} {b : Nat} (h : m.Good b) (he : doErr m w = 0) (hk : w.act.kind = 2) {t : Int} (htn : t ≠ w.thread) : (seesG m t w.act.loc).length ≤ (seesG (doMem m w) t w.act.loc).length := by
  have ht := taken he
  have t0 := ht.t0
  have hl := ht.loc (.inl (by rw [hk]; rfl))
  have hp := h.wf.past
  by_cases hc : t < 0 ∨ (m.fronts.length : Int) ≤ t ∨ w.act.loc < 0 ∨ (m.past.length : Int) ≤ w.act.loc
  · rw [seesG_out hc]; exact Nat.zero_le _
  · rw [seesG_in hc, doMem_pl (by rw [hk]; rfl), if_pos hk, seesG_in (by simp only [List.length_set]; omega)]
    simp only
    rw [getD_set_self (by omega), getD_set, if_neg (by omega)]
    show _ ≤ (List.filter _ (insG (m.past.getD w.act.loc.toNat []) _ _)).length
    unfold insG
    generalize bsAt (pastOf m w) w.when = i
    generalize m.past.getD w.act.loc.toNat [] = P
    conv => lhs; rw [← List.take_append_drop i P]
    rw [List.filter_append, List.filter_append, List.length_append, List.length_append]
    have : ∀ (q : StampG → Bool) (x : StampG) (L : List StampG), (L.filter q).length ≤ ((x :: L).filter q).length := fun q x L => by
      rw [List.filter_cons]; split <;> simp
    have := this (fun s : StampG => decide (0 ≤ cmpQ' s.when ((m.fronts.getD t.toNat []).getD w.act.loc.toNat default))) ⟨leastQ w.when, w.act.new⟩ (P.drop i)
    omega
def ownSt (t : Int) (z : StepG) (m M : MemG) (i : Nat) : State :=
  ⟨[(1, .d (.int .i64 t)), (7, .ptr 0 7 0 0), (9, .ptr 1 5 0 0), (11, .ptr 2 5 0 0), (14, .d (.int .i64 i))],
    [.vec 7 [[.d (.int .i64 z.thread), .d (.int .i64 2), .d (.int .i64 z.act.loc), .d (.int .i64 z.act.old), .d (.int .i64 z.act.new), .d (.int .i64 z.when.num), .d (.int .i64 z.when.den)]], .vec 5 [m.row], .vec 5 [M.row]]⟩
set_option maxHeartbeats 4000000 in
theorem law_HistOwn {T : Tab} {n1 n2 n3 n4 n5 : Nat} (k1 : Knows T n1 sp_true) (k2 : Knows T n2 sp_Do) (k3 : Knows T n3 sp_done) (k4 : Knows T n4 sp_rat_Cmp) (k5 : Knows T n5 sp_Sees) (l : List LocG) (f : Bool) (t : Int) (ss : List StepG) (g : Bool) (z : StepG) (hl : l.length ≤ maxLen) (hs : ss.length ≤ maxLen) :
    Holds T V_law20_HistOwn (L_law20_HistOwn n1 n2 n3 n4 n5) R_law20_HistOwn [.d (.list (l.map LocG.row) f), .d (.int .i64 t), .d (.list (ss.map StepG.row) g), z.av7] := by
  have F1 := k1.F; have G1 := k1.G; have F2 := k2.F; have G2 := k2.G; have F3 := k3.F; have G3 := k3.G; have F4 := k4.F; have G4 := k4.G; have F5 := k5.F; have G5 := k5.G
  have hgd : doneQ l t = true → (doneM l t ss).plain.Good 41 := doneM_good
  generalize hm : doneM l t ss = m at hgd
  generalize hqq : doneQ l t = q at hgd
  have hD : sp_Do.at [.agg [.d (.list (m.locs.map LocG.row) m.lf), .d (.list (m.past.map rowStamps) m.pf), .d (.list (m.vals.map rowI) m.vf), .d (.list (m.marks.map rowRats) m.mf), .d (.list (m.fronts.map rowRats) m.ff)], .agg [.d (.int .i64 z.thread), .d (.int .i64 2), .d (.int .i64 z.act.loc), .d (.int .i64 z.act.old), .d (.int .i64 z.act.new), .d (.int .i64 z.when.num), .d (.int .i64 z.when.den)]] =
      .data (m.plain.Wf 1000000) (.tup [(resM m.plain ⟨z.thread, ⟨2, z.act.loc, z.act.old, z.act.new⟩, z.when⟩).av, .d (.int .i64 (doErr m.plain ⟨z.thread, ⟨2, z.act.loc, z.act.old, z.act.new⟩, z.when⟩))]) false :=
    at_DoM m ⟨z.thread, ⟨2, z.act.loc, z.act.old, z.act.new⟩, z.when⟩
  generalize hw : (⟨z.thread, ⟨2, z.act.loc, z.act.old, z.act.new⟩, z.when⟩ : StepG) = w at hD
  unfold V_law20_HistOwn L_law20_HistOwn R_law20_HistOwn
  simp (maxSteps := 3000000) only [↓vck_skip, ↓vck_ret, ↓vck_exit, ↓vck_region, ↓vck_nilq, ↓nilTo_to, nilG_d, nilG_r, ↓vck_seq, ↓vck_cond, ↓vck_block, ↓vck_loop, ↓vckTo_to, ↓thenK_n, ↓thenK_x, ↓thenK_r, ↓blockK_n, ↓blockK_x, ↓blockK_o, ↓blockK_r, ↓regK_to, ↓retK_r, ↓retK_n, ↓loopV_n, ↓loopV_x, ↓loopV_r, ↓famK_n, ↓famK_x, ↓famK_r, ↓boolK_true, ↓boolK_false, ↓boolK_not, ↓boolK_dec, ↓boolK_and, nf_mk, RGk_end_f, RGk_end_t, RGk_op, RGk_guard, opK_to, evN, evCallN, grow_mk, feet_f, feet_t, foot_mk, stepK_mk, stepK_v, stepK_no, guardG_t, guardG_f, guardG_no, condG_b, evT, Opd.ev, get_hit, get_next, app_to, app_no, app_up, app_skip, app_skipn, know_mk, knowO_t, knowO_c, envFrom, reserve, keeps, LOp.isNew, State.prune, cellsQ, cellsT, AV.leaf, Heap.at, evLoad_ptr, evLoad_dptr, loadO_vec, loadO_dvec1, stepK_load_map, idx_I, idx_U, idx_Rat, idx_Loc, idx_Act, idx_Step, idx_Stamp, stepK_idx_ref, evStore_ptr, storeO_vec, stepK_store_map1, loadDT_f, rowI, rowU, RatG.row, LocG.row, ActG.row, StepG.row, StampG.row, ActG.av, ActG.eta, RatG.eta, LocG.eta, beq_true, beq_false, loadDT_t, set_rowI, set_rowU, app_rowI, app_rowU, rep_rowI, rep_rowU, set_rowRat, app_rowRat, rep_rowRat, set_rowLoc, app_rowLoc, app_rowAct, app_rowStep, List.length_set, List.length_replicate, Int.toNat_natCast, Int.reduceToNat, evLen, evAppend, srcOf, Src.all, Src.len, Src.leaf, Src.leafN, evApart, aliveQ, joinV, drows_rep1, drows_rep2, drows_rep3, drows_rep4, drows_rep5, drows_rep6, drows_rep7, drows_rep8, mkVec, drows, evMk, List.length_map, take_mapF, drop_mapF, List.take_length, List.take_left, List.length_append, Nat.le_add_right, ite_self, List.take_of_length_le, evSlice, intOr, intOpd, Option.isSome_none, Option.isSome_some, Nat.sub_zero, loadQ, loadT, evBin, evUn, binT, binQ, chk, apartF, List.contains_cons, List.contains_nil, Bool.or_false, Bool.false_or, Bool.and_self, resQ, resV, resT, pickV, evCallT, evTake, evCall, fnOf, viewsT, isD, HO.drow, viewT, evInt2, evEq, eqV, eqK, eqC1, buildQ, buildT, buildRQ, buildRT, lens_I, lensA_I, lens_U, lensA_U, lens_Rat, lensA_Rat, lens_Loc, lensA_Loc, lens_Act, lensA_Act, lens_Step, lensA_Step, lens_Stamp, lensA_Stamp, List.mem_cons, List.not_mem_nil, or_false, forall_eq, putRow, dcells, get_nil, RetS, RetF, RetD, AV.frz, AV.frzL, AV.freshP, AV.freshL, DV.less, scal_int, scal_bool, scal_nil, scal_rowI, scal_rowU, scal_rowRat, scal_rowStep, Option.some.injEq, AV.tup.injEq, AV.agg.injEq, List.cons.injEq, DV.list.injEq, List.isEmpty_nil, Nat.le_refl, AV.d.injEq, DV.int.injEq, DV.bool.injEq, ↓reduceIte, Nat.reduceEqDiff, Nat.reduceAdd, Nat.reduceBEq, List.length_cons, List.length_nil, List.replicate_succ, List.replicate_zero, List.nil_append, List.cons_append, List.append_nil, List.foldl_cons, List.foldl_nil, List.map_cons, List.map_nil, List.all_cons, List.all_nil, List.set_cons_zero, List.set_cons_succ, List.getD_cons_zero, List.getD_cons_succ, List.drop_zero, List.drop_succ_cons, List.take_succ_cons, List.take_zero, List.flatten_cons, List.flatten_nil, Bool.true_and, Bool.and_true, Bool.not_true, Bool.not_false, true_and, and_true, true_or, or_true, Option.bind_some, Option.map_some, decide_true, decide_false, beq_self_eq_true, true_implies, false_implies, implies_true, not_true_eq_false, not_false_eq_true, and_self, Bool.and_false, Bool.false_and, Nat.reduceLT, Nat.reduceLeDiff, List.reverse_cons, List.reverse_nil, Nat.zero_add, Nat.add_zero, Bool.false_eq_true, List.getElem?_cons_zero, F1, G1, F2, G2, F3, G3, F4, G4, F5, G5, at_true, at_done, hm, hqq, hD, at_SeesM, idx_Stamp, at_rat_Cmp, MemG.av, StepG.av7, loadO_vec, storeO_vec]
  refine ⟨⟨hl, hs⟩, fun hq => ?_, fun _ => trivial⟩
  have hg := hgd hq
  refine ⟨wfM hg (by omega), fun ea => ?_⟩
  have hk : w.act.kind = 2 := by rw [← hw]
  have ezt : z.thread = w.thread := by rw [← hw]
  have ezl : z.act.loc = w.act.loc := by rw [← hw]
  have ezn : z.act.new = w.act.new := by rw [← hw]
  have ezw : z.when = w.when := by rw [← hw]
  have ga := resM_good hg ea
  have wr : rightQ w.when = true := (taken ea).when (by rw [hk]; rfl)
  obtain ⟨r, hr⟩ := sees_own hg ea hk
  have eM : (resM m.plain w).plain = doMem m.plain w := by rw [resM_ok ea, plain_av]
  have hr' : seesG (resM m.plain w).plain z.thread z.act.loc = ⟨leastQ w.when, w.act.new⟩ :: r := by rw [eM, ezt, ezl, hr]
  have hmore : ∀ i : Int, ¬ i = z.thread → (seesG m.plain i z.act.loc).length ≤ (seesG (resM m.plain w).plain i z.act.loc).length := fun i hi => by
    rw [eM, ezl]; exact sees_more hg ea hk (by rw [← ezt]; exact hi)
  generalize resM m.plain w = M at *
  refine ⟨wfM ga (by omega), fun h => ?_, fun h => ⟨⟨by omega, by omega⟩, fun h2 => ⟨⟨by omega, by omega⟩, fun h3 => ?_, fun h3 => ?_⟩, fun h2 => ?_⟩⟩
  · rw [hr'] at h; simp only [List.length_cons] at h; omega
  · clear hr hr' h h2 h3
    have htp : 1 ≤ t ∧ t ≤ 3 := by
      have := hqq.trans hq
      unfold doneQ newErr at this
      simp only [Bool.and_eq_true, decide_eq_true_eq] at this
      have h2 := this.2
      split at h2
      · cases h2
      · omega
    refine Loop.fam [1, 7, 9, 11, 14] (ownSt t z m M) (fun i => (i : Int) ≤ t) (fun i => t.toNat - i) 0 [0, 1, 2] (by simp) (by simp) (by simp only [State.can, AV.can, AV.canL, HO.can, canRows, idx, get_hit, get_next, Heap.at, Nat.reduceBEq, ↓reduceIte, Nat.reduceEqDiff, Option.getD_some, Option.map_some, List.map_cons, List.map_nil, List.getD_cons_zero, List.getD_cons_succ, ownSt, MemG.row]; rfl) (by show ((0 : Nat) : Int) ≤ t; omega) ?_
    intro i hi
    have hi : (i : Int) ≤ t := hi
    simp (maxSteps := 3000000) only [↓vck_skip, ↓vck_ret, ↓vck_exit, ↓vck_region, ↓vck_nilq, ↓nilTo_to, nilG_d, nilG_r, ↓vck_seq, ↓vck_cond, ↓vck_block, ↓vck_loop, ↓vckTo_to, ↓thenK_n, ↓thenK_x, ↓thenK_r, ↓blockK_n, ↓blockK_x, ↓blockK_o, ↓blockK_r, ↓regK_to, ↓retK_r, ↓retK_n, ↓loopV_n, ↓loopV_x, ↓loopV_r, ↓famK_n, ↓famK_x, ↓famK_r, ↓boolK_true, ↓boolK_false, ↓boolK_not, ↓boolK_dec, ↓boolK_and, nf_mk, RGk_end_f, RGk_end_t, RGk_op, RGk_guard, opK_to, evN, evCallN, grow_mk, feet_f, feet_t, foot_mk, stepK_mk, stepK_v, stepK_no, guardG_t, guardG_f, guardG_no, condG_b, evT, Opd.ev, get_hit, get_next, app_to, app_no, app_up, app_skip, app_skipn, know_mk, knowO_t, knowO_c, envFrom, reserve, keeps, LOp.isNew, State.prune, cellsQ, cellsT, AV.leaf, Heap.at, evLoad_ptr, evLoad_dptr, loadO_vec, loadO_dvec1, stepK_load_map, idx_I, idx_U, idx_Rat, idx_Loc, idx_Act, idx_Step, idx_Stamp, stepK_idx_ref, evStore_ptr, storeO_vec, stepK_store_map1, loadDT_f, rowI, rowU, RatG.row, LocG.row, ActG.row, StepG.row, StampG.row, ActG.av, ActG.eta, RatG.eta, LocG.eta, beq_true, beq_false, loadDT_t, set_rowI, set_rowU, app_rowI, app_rowU, rep_rowI, rep_rowU, set_rowRat, app_rowRat, rep_rowRat, set_rowLoc, app_rowLoc, app_rowAct, app_rowStep, List.length_set, List.length_replicate, Int.toNat_natCast, Int.reduceToNat, evLen, evAppend, srcOf, Src.all, Src.len, Src.leaf, Src.leafN, evApart, aliveQ, joinV, drows_rep1, drows_rep2, drows_rep3, drows_rep4, drows_rep5, drows_rep6, drows_rep7, drows_rep8, mkVec, drows, evMk, List.length_map, take_mapF, drop_mapF, List.take_length, List.take_left, List.length_append, Nat.le_add_right, ite_self, List.take_of_length_le, evSlice, intOr, intOpd, Option.isSome_none, Option.isSome_some, Nat.sub_zero, loadQ, loadT, evBin, evUn, binT, binQ, chk, apartF, List.contains_cons, List.contains_nil, Bool.or_false, Bool.false_or, Bool.and_self, resQ, resV, resT, pickV, evCallT, evTake, evCall, fnOf, viewsT, isD, HO.drow, viewT, evInt2, evEq, eqV, eqK, eqC1, buildQ, buildT, buildRQ, buildRT, lens_I, lensA_I, lens_U, lensA_U, lens_Rat, lensA_Rat, lens_Loc, lensA_Loc, lens_Act, lensA_Act, lens_Step, lensA_Step, lens_Stamp, lensA_Stamp, List.mem_cons, List.not_mem_nil, or_false, forall_eq, putRow, dcells, get_nil, RetS, RetF, RetD, AV.frz, AV.frzL, AV.freshP, AV.freshL, DV.less, scal_int, scal_bool, scal_nil, scal_rowI, scal_rowU, scal_rowRat, scal_rowStep, Option.some.injEq, AV.tup.injEq, AV.agg.injEq, List.cons.injEq, DV.list.injEq, List.isEmpty_nil, Nat.le_refl, AV.d.injEq, DV.int.injEq, DV.bool.injEq, ↓reduceIte, Nat.reduceEqDiff, Nat.reduceAdd, Nat.reduceBEq, List.length_cons, List.length_nil, List.replicate_succ, List.replicate_zero, List.nil_append, List.cons_append, List.append_nil, List.foldl_cons, List.foldl_nil, List.map_cons, List.map_nil, List.all_cons, List.all_nil, List.set_cons_zero, List.set_cons_succ, List.getD_cons_zero, List.getD_cons_succ, List.drop_zero, List.drop_succ_cons, List.take_succ_cons, List.take_zero, List.flatten_cons, List.flatten_nil, Bool.true_and, Bool.and_true, Bool.not_true, Bool.not_false, true_and, and_true, true_or, or_true, Option.bind_some, Option.map_some, decide_true, decide_false, beq_self_eq_true, true_implies, false_implies, implies_true, not_true_eq_false, not_false_eq_true, and_self, Bool.and_false, Bool.false_and, Nat.reduceLT, Nat.reduceLeDiff, List.reverse_cons, List.reverse_nil, Nat.zero_add, Nat.add_zero, Bool.false_eq_true, List.getElem?_cons_zero, ownSt, MemG.row, F1, G1, F2, G2, F3, G3, F4, G4, F5, G5, at_SeesM, MemG.av, loadO_vec, storeO_vec]
    have step : ∀ {E : Env} {H : Heap}, (i : Int) < t → (⟨E, H⟩ : State).can [0, 1, 2] [1, 7, 9, 11, 14] = ownSt t z m M (i + 1) → 3 ≤ H.length → FamNext [1, 7, 9, 11, 14] (ownSt t z m M) (fun i => (i : Int) ≤ t) (fun i => t.toNat - i) (t.toNat - i) ⟨E, H⟩ := fun {E H} hlt hc hH =>
      FamNext.mk [0, 1, 2] (i + 1) (by simp) (by simp; omega) hc (by show ((i + 1 : Nat) : Int) ≤ t; omega) (by show t.toNat - (i + 1) < t.toNat - i; omega)
    refine fun hlt => ?_
    rw [wrap_succ (show i < t.toNat by omega) (by have : maxLen = 9223372036854775807 := rfl; omega)]
    refine ⟨fun h => step hlt (by simp only [State.can, AV.can, AV.canL, HO.can, canRows, idx, get_hit, get_next, Heap.at, Nat.reduceBEq, ↓reduceIte, Nat.reduceEqDiff, Option.getD_some, Option.map_some, List.map_cons, List.map_nil, List.getD_cons_zero, List.getD_cons_succ, ownSt, MemG.row]) (by simp), fun h => ⟨wfM ga (by omega), wfM hg (by omega), fun h2 => ?_, fun h2 => step hlt (by simp only [State.can, AV.can, AV.canL, HO.can, canRows, idx, get_hit, get_next, Heap.at, Nat.reduceBEq, ↓reduceIte, Nat.reduceEqDiff, Option.getD_some, Option.map_some, List.map_cons, List.map_nil, List.getD_cons_zero, List.getD_cons_succ, ownSt, MemG.row]) (by simp)⟩⟩
    have := hmore i h
    omega
  · rw [hr'] at h3; exact h3 ezn.symm
  · rw [hr'] at h2
    exact h2 (by rw [ezw]; exact leastQ_cmp wr)
end Go.Ago

/- HistOnward: fronts and marks never go back, and what was written stays. Conditions: none. -/
set_option maxRecDepth 100000
set_option linter.unusedSimpArgs false
set_option linter.unusedVariables false
namespace Go.Ago
/-- A list, and what it has grown to at place i. -/
structure Grown (P Q : List StampG) (i : Nat) : Prop where
  len : (Q.length = P.length ∧ P.length < i) ∨ (Q.length = P.length + 1 ∧ i ≤ P.length)
  lo : ∀ j, j < Q.length → j < i → j < P.length ∧ Q.getD j default = P.getD j default
  mid : i < P.length → Q.getD i default ≠ P.getD i default
  hi : ∀ j, j < Q.length → i < j → j - 1 < P.length ∧ Q.getD j default = P.getD (j - 1) default
def atG (i j : Nat) : Nat := if j ≤ i then j else j - 1
theorem grown_self (P : List StampG) : Grown P P (P.length + 1) := ⟨.inl ⟨rfl, Nat.lt_succ_self _⟩, fun j h _ => ⟨h, rfl⟩, fun h => absurd h (by omega), fun j h h2 => absurd h (by omega)⟩
theorem insG_get {P : List StampG} {i j : Nat} {x : StampG} (hi : i ≤ P.length) : (insG P i x).getD j default = if j < i then P.getD j default else if j = i then x else P.getD (j - 1) default := by
  unfold insG
  rw [List.getD_eq_getElem?_getD, List.getElem?_append]
  rw [List.length_take, Nat.min_eq_left hi]
  split
  · rename_i h
    rw [List.getElem?_take, if_pos h, ← List.getD_eq_getElem?_getD]
  · rename_i h
    split
    · rename_i e; subst e; simp
    · rename_i e
      obtain ⟨d, rfl⟩ : ∃ d, j = i + (d + 1) := ⟨j - i - 1, by omega⟩
      rw [show i + (d + 1) - i = d + 1 by omega, List.getElem?_cons_succ, List.getElem?_drop, ← List.getD_eq_getElem?_getD, show i + (d + 1) - 1 = i + d by omega]
theorem grown_ins {P : List StampG} {i : Nat} {x : StampG} (hi : i ≤ P.length) (hx : ∀ k, k < P.length → P.getD k default ≠ x) : Grown P (insG P i x) i := by
  have hl := insG_len (v := x) hi
  refine ⟨.inr ⟨hl, hi⟩, fun j h h2 => ⟨by omega, ?_⟩, fun h => ?_, fun j h h2 => ⟨by omega, ?_⟩⟩
  · rw [insG_get hi, if_pos h2]
  · rw [insG_get hi, if_neg (by omega), if_pos rfl]
    exact fun e => hx i h e.symm
  · rw [insG_get hi, if_neg (by omega), if_neg (by omega)]
theorem goesOn_self {L : List (List RatG)} (h : ∀ r ∈ L, ∀ q ∈ r, rightQ q = true) : GoesOn L L :=
  ⟨rfl, fun i hi => ⟨rfl, fun k hk => ⟨by rw [cmpQ_self]; omega, h _ (getD_mem hi) _ (by rw [getD_lt hk]; exact List.getElem_mem _)⟩⟩⟩
theorem goesOn_set {L : List (List RatG)} {i : Nat} {r : List RatG} (h : ∀ r ∈ L, ∀ q ∈ r, rightQ q = true) (hl : (L.getD i []).length = r.length) (hr : ∀ k, k < r.length → cmpQ' ((L.getD i []).getD k default) (r.getD k default) ≤ 0 ∧ rightQ (r.getD k default) = true) : GoesOn L (L.set i r) := by
  refine ⟨List.length_set.symm, fun j hj => ?_⟩
  rw [getD_set]
  by_cases e : i = j
  · subst e
    rw [if_pos ⟨rfl, hj⟩]
    exact ⟨hl, fun k hk => hr k (by omega)⟩
  · rw [if_neg (by omega)]
    exact (goesOn_self h).2 j hj
/-- What a step leaves goes on from what was. -/
structure Onwards (m n : Mem) : Prop where
  fronts : GoesOn m.fronts n.fronts
  marks : GoesOn m.marks n.marks
  past : n.past.length = m.past.length
  grown : ∀ k, k < m.past.length → ∃ i, Grown (m.past.getD k []) (n.past.getD k []) i
theorem do_onwards {m : Mem} {s : StepG} {b : Nat} (h : m.Good b) (he : doErr m s = 0) : Onwards m (doMem m s) := by
  have ht := taken he
  have t0 := ht.t0
  have t1 := ht.t1
  have hfm : frontOf m s ∈ m.fronts := getD_mem (by omega)
  have hfl : (frontOf m s).length = m.locs.length := h.wf.frontsL _ hfm
  have hfr := h.frontsR _ hfm
  have self : ∀ k, k < m.past.length → ∃ i, Grown (m.past.getD k []) (m.past.getD k []) i := fun k _ => ⟨_, grown_self _⟩
  unfold doMem
  split
  · rename_i hk
    have hl := ht.loc (.inl (by rw [hk]; rfl))
    have hw := ht.when (by rw [hk]; rfl)
    obtain ⟨hb, hf⟩ := ht.write hk
    have hpm : pastOf m s ∈ m.past := getD_mem (by rw [h.wf.past]; omega)
    have hpr := h.rising _ hpm
    refine ⟨goesOn_set h.frontsR (by rw [List.length_set]; rfl) fun k hk2 => ?_, goesOn_self h.marksR, List.length_set, fun k hk2 => ?_⟩
    · rw [List.length_set] at hk2
      have r0 : rightQ ((frontOf m s).getD k default) = true := hfr _ (by rw [getD_lt hk2]; exact List.getElem_mem _)
      show cmpQ' ((frontOf m s).getD k default) (((frontOf m s).set s.act.loc.toNat (leastQ s.when)).getD k default) ≤ 0 ∧ _
      rw [getD_set]
      split
      · rename_i e
        refine ⟨?_, leastQ_right hw⟩
        rw [← e.1, cmpQ_alike' (leastQ_right hw) hw (by rw [e.1]; exact r0) (leastQ_cmp hw), cmpQ_anti]
        omega
      · exact ⟨by rw [cmpQ_self]; omega, r0⟩
    · show ∃ i, Grown (m.past.getD k []) ((m.past.set s.act.loc.toNat _).getD k []) i
      rw [getD_set]
      split
      · rename_i e
        refine ⟨bsAt (pastOf m s) s.when, ?_⟩
        rw [← e.1]
        refine grown_ins (bsAt_le _ _) fun q hq e2 => ?_
        have := bsHas_false hpr hw hb hq
        have e3 : (pastOf m s).getD q default = ⟨leastQ s.when, s.act.new⟩ := e2
        rw [e3] at this
        exact this (leastQ_cmp hw)
      · exact self k hk2
  · split
    · rename_i hk2 hk
      have hl := ht.loc (.inr hk)
      have hmm : markOf m s ∈ m.marks := getD_mem (by rw [h.wf.marks]; omega)
      have hml : (markOf m s).length = m.locs.length := h.wf.marksA _ (by omega) (by
        have := ht.right
        obtain ⟨t, ⟨k, o, q, v⟩, w⟩ := s
        exact right_atom hk this)
      have hmr := h.marksR _ hmm
      have hbl : (joinG (frontOf m s) (markOf m s)).length = m.locs.length := by rw [joinG_len]; exact hfl
      have hbr := joinG_right (show (frontOf m s).length ≤ (markOf m s).length by omega) hfr (h.marksR _ hmm)
      have each : ∀ k, k < (joinG (frontOf m s) (markOf m s)).length → cmpQ' ((frontOf m s).getD k default) ((joinG (frontOf m s) (markOf m s)).getD k default) ≤ 0 ∧ cmpQ' ((markOf m s).getD k default) ((joinG (frontOf m s) (markOf m s)).getD k default) ≤ 0 ∧ rightQ ((joinG (frontOf m s) (markOf m s)).getD k default) = true := fun k hk => by
        refine ⟨?_, ?_, hbr _ (by rw [getD_lt hk]; exact List.getElem_mem _)⟩
        · rw [joinG_get (by omega)]; exact ratMaxG_left
        · rw [joinG_get (by omega)]; exact ratMaxG_rgt
      have GF : GoesOn m.fronts (m.fronts.set s.thread.toNat (joinG (frontOf m s) (markOf m s))) := goesOn_set h.frontsR (by rw [hbl]; exact hfl) fun k hk => ⟨(each k hk).1, (each k hk).2.2⟩
      split
      · exact ⟨GF, goesOn_self h.marksR, rfl, self⟩
      · exact ⟨GF, goesOn_set h.marksR (by rw [hbl]; exact hml) fun k hk => ⟨(each k hk).2.1, (each k hk).2.2⟩, rfl, self⟩
    · exact ⟨goesOn_self h.frontsR, goesOn_self h.marksR, rfl, self⟩
theorem onward_true {a b : List (List RatG)} (h : GoesOn a b) : onwardB a b = true := @decide_eq_true _ (Classical.propDecidable _) h
def onwSt (ss : List StepG) (g : Bool) (x : Nat × MemG) : State := ⟨[(2, .d (.list (ss.map StepG.row) g)), (7, .ptr 0 5 0 0), (9, .d (.int .i64 x.1))], [.vec 5 [x.2.row]]⟩
def onwSt2 (ss : List StepG) (g : Bool) (i : Nat) (m n : MemG) (k : Nat) : State := ⟨[(2, .d (.list (ss.map StepG.row) g)), (7, .ptr 0 5 0 0), (9, .d (.int .i64 i)), (10, .ptr 1 5 0 0), (12, .d (.int .i64 k))], [.vec 5 [m.row], .vec 5 [n.row]]⟩
def onwSt3 (ss : List StepG) (g : Bool) (i : Nat) (m n : MemG) (k : Nat) (q : Nat) (j : Nat) : State := ⟨[(2, .d (.list (ss.map StepG.row) g)), (7, .ptr 0 5 0 0), (9, .d (.int .i64 i)), (10, .ptr 1 5 0 0), (12, .d (.int .i64 k)), (13, .d (.int .i64 (atG q j))), (14, .d (.int .i64 j))], [.vec 5 [m.row], .vec 5 [n.row]]⟩
set_option maxHeartbeats 4000000 in
theorem law_HistOnward {T : Tab} {n1 n2 n3 n4 n5 : Nat} (k1 : Knows T n1 sp_true) (k2 : Knows T n2 sp_Do) (k3 : Knows T n3 sp_done) (k4 : Knows T n4 sp_onward) (k5 : Knows T n5 sp_rat_Cmp) (l : List LocG) (f : Bool) (t : Int) (ss : List StepG) (g : Bool) (hl : l.length ≤ maxLen) (hs : ss.length ≤ maxLen) :
    Holds T V_law20_HistOnward (L_law20_HistOnward n1 n2 n3 n4 n5) R_law20_HistOnward [.d (.list (l.map LocG.row) f), .d (.int .i64 t), .d (.list (ss.map StepG.row) g)] := by
  have F1 := k1.F; have G1 := k1.G; have F2 := k2.F; have G2 := k2.G; have F3 := k3.F; have G3 := k3.G; have F4 := k4.F; have G4 := k4.G; have F5 := k5.F; have G5 := k5.G
  have hgd : doneQ l t = true → (doneM l t []).plain.Good 41 := doneM_good
  generalize hm : doneM l t [] = m at hgd
  generalize hqq : doneQ l t = q at hgd
  unfold V_law20_HistOnward L_law20_HistOnward R_law20_HistOnward
  have hDn : sp_done.at [.d (.list (l.map LocG.row) f), .d (.int .i64 t), .d (.list [] true)] = .data (l.length ≤ maxLen ∧ 0 ≤ maxLen) (.tup [m.av, .d (.bool q)]) false := by
    rw [← hm, ← hqq]; exact at_done l f t [] true
  simp (maxSteps := 3000000) only [↓vck_skip, ↓vck_ret, ↓vck_exit, ↓vck_region, ↓vck_nilq, ↓nilTo_to, nilG_d, nilG_r, ↓vck_seq, ↓vck_cond, ↓vck_block, ↓vck_loop, ↓vckTo_to, ↓thenK_n, ↓thenK_x, ↓thenK_r, ↓blockK_n, ↓blockK_x, ↓blockK_o, ↓blockK_r, ↓regK_to, ↓retK_r, ↓retK_n, ↓loopV_n, ↓loopV_x, ↓loopV_r, ↓famK_n, ↓famK_x, ↓famK_r, ↓boolK_true, ↓boolK_false, ↓boolK_not, ↓boolK_dec, ↓boolK_and, nf_mk, RGk_end_f, RGk_end_t, RGk_op, RGk_guard, opK_to, evN, evCallN, grow_mk, feet_f, feet_t, foot_mk, stepK_mk, stepK_v, stepK_no, guardG_t, guardG_f, guardG_no, condG_b, evT, Opd.ev, get_hit, get_next, app_to, app_no, app_up, app_skip, app_skipn, know_mk, knowO_t, knowO_c, envFrom, reserve, keeps, LOp.isNew, State.prune, cellsQ, cellsT, AV.leaf, Heap.at, evLoad_ptr, evLoad_dptr, loadO_vec, loadO_dvec1, stepK_load_map, idx_I, idx_U, idx_Rat, idx_Loc, idx_Act, idx_Step, idx_Stamp, stepK_idx_ref, evStore_ptr, storeO_vec, stepK_store_map1, loadDT_f, rowI, rowU, RatG.row, LocG.row, ActG.row, StepG.row, StampG.row, ActG.av, ActG.eta, RatG.eta, LocG.eta, beq_true, beq_false, loadDT_t, set_rowI, set_rowU, app_rowI, app_rowU, rep_rowI, rep_rowU, set_rowRat, app_rowRat, rep_rowRat, set_rowLoc, app_rowLoc, app_rowAct, app_rowStep, List.length_set, List.length_replicate, Int.toNat_natCast, Int.reduceToNat, evLen, evAppend, srcOf, Src.all, Src.len, Src.leaf, Src.leafN, evApart, aliveQ, joinV, drows_rep1, drows_rep2, drows_rep3, drows_rep4, drows_rep5, drows_rep6, drows_rep7, drows_rep8, mkVec, drows, evMk, List.length_map, take_mapF, drop_mapF, List.take_length, List.take_left, List.length_append, Nat.le_add_right, ite_self, List.take_of_length_le, evSlice, intOr, intOpd, Option.isSome_none, Option.isSome_some, Nat.sub_zero, loadQ, loadT, evBin, evUn, binT, binQ, chk, apartF, List.contains_cons, List.contains_nil, Bool.or_false, Bool.false_or, Bool.and_self, resQ, resV, resT, pickV, evCallT, evTake, evCall, fnOf, viewsT, isD, HO.drow, viewT, evInt2, evEq, eqV, eqK, eqC1, buildQ, buildT, buildRQ, buildRT, lens_I, lensA_I, lens_U, lensA_U, lens_Rat, lensA_Rat, lens_Loc, lensA_Loc, lens_Act, lensA_Act, lens_Step, lensA_Step, lens_Stamp, lensA_Stamp, List.mem_cons, List.not_mem_nil, or_false, forall_eq, putRow, dcells, get_nil, RetS, RetF, RetD, AV.frz, AV.frzL, AV.freshP, AV.freshL, DV.less, scal_int, scal_bool, scal_nil, scal_rowI, scal_rowU, scal_rowRat, scal_rowStep, Option.some.injEq, AV.tup.injEq, AV.agg.injEq, List.cons.injEq, DV.list.injEq, List.isEmpty_nil, Nat.le_refl, AV.d.injEq, DV.int.injEq, DV.bool.injEq, ↓reduceIte, Nat.reduceEqDiff, Nat.reduceAdd, Nat.reduceBEq, List.length_cons, List.length_nil, List.replicate_succ, List.replicate_zero, List.nil_append, List.cons_append, List.append_nil, List.foldl_cons, List.foldl_nil, List.map_cons, List.map_nil, List.all_cons, List.all_nil, List.set_cons_zero, List.set_cons_succ, List.getD_cons_zero, List.getD_cons_succ, List.drop_zero, List.drop_succ_cons, List.take_succ_cons, List.take_zero, List.flatten_cons, List.flatten_nil, Bool.true_and, Bool.and_true, Bool.not_true, Bool.not_false, true_and, and_true, true_or, or_true, Option.bind_some, Option.map_some, decide_true, decide_false, beq_self_eq_true, true_implies, false_implies, implies_true, not_true_eq_false, not_false_eq_true, and_self, Bool.and_false, Bool.false_and, Nat.reduceLT, Nat.reduceLeDiff, List.reverse_cons, List.reverse_nil, Nat.zero_add, Nat.add_zero, Bool.false_eq_true, List.getElem?_cons_zero, F1, G1, F2, G2, F3, G3, F4, G4, F5, G5, at_true, hDn, at_DoM, at_onward, at_rat_Cmp, MemG.av, StepG.av7, loadO_vec, storeO_vec]
  refine ⟨⟨hl, by decide⟩, fun hq => ?_, fun _ => trivial⟩
  have hg := hgd hq
  refine Loop.fam [2, 7, 9] (onwSt ss g) (fun x => x.1 ≤ ss.length ∧ x.1 ≤ 40 ∧ x.2.plain.Good (41 + x.1)) (fun x => 40 - x.1) (0, m) [0] (by simp) (by simp) (by simp only [State.can, AV.can, AV.canL, HO.can, canRows, idx, get_hit, get_next, Heap.at, Nat.reduceBEq, ↓reduceIte, Nat.reduceEqDiff, Option.getD_some, Option.map_some, List.map_cons, List.map_nil, List.getD_cons_zero, List.getD_cons_succ, onwSt, MemG.row]; rfl) ⟨Nat.zero_le _, Nat.zero_le _, hg⟩ ?_
  clear hDn hg hgd hm
  rintro ⟨i, m⟩ ⟨i1, i2, hg⟩
  have i1 : i ≤ ss.length := i1
  have i2 : i ≤ 40 := i2
  have hg : m.plain.Good (41 + i) := hg
  simp (maxSteps := 3000000) only [↓vck_skip, ↓vck_ret, ↓vck_exit, ↓vck_region, ↓vck_nilq, ↓nilTo_to, nilG_d, nilG_r, ↓vck_seq, ↓vck_cond, ↓vck_block, ↓vck_loop, ↓vckTo_to, ↓thenK_n, ↓thenK_x, ↓thenK_r, ↓blockK_n, ↓blockK_x, ↓blockK_o, ↓blockK_r, ↓regK_to, ↓retK_r, ↓retK_n, ↓loopV_n, ↓loopV_x, ↓loopV_r, ↓famK_n, ↓famK_x, ↓famK_r, ↓boolK_true, ↓boolK_false, ↓boolK_not, ↓boolK_dec, ↓boolK_and, nf_mk, RGk_end_f, RGk_end_t, RGk_op, RGk_guard, opK_to, evN, evCallN, grow_mk, feet_f, feet_t, foot_mk, stepK_mk, stepK_v, stepK_no, guardG_t, guardG_f, guardG_no, condG_b, evT, Opd.ev, get_hit, get_next, app_to, app_no, app_up, app_skip, app_skipn, know_mk, knowO_t, knowO_c, envFrom, reserve, keeps, LOp.isNew, State.prune, cellsQ, cellsT, AV.leaf, Heap.at, evLoad_ptr, evLoad_dptr, loadO_vec, loadO_dvec1, stepK_load_map, idx_I, idx_U, idx_Rat, idx_Loc, idx_Act, idx_Step, idx_Stamp, stepK_idx_ref, evStore_ptr, storeO_vec, stepK_store_map1, loadDT_f, rowI, rowU, RatG.row, LocG.row, ActG.row, StepG.row, StampG.row, ActG.av, ActG.eta, RatG.eta, LocG.eta, beq_true, beq_false, loadDT_t, set_rowI, set_rowU, app_rowI, app_rowU, rep_rowI, rep_rowU, set_rowRat, app_rowRat, rep_rowRat, set_rowLoc, app_rowLoc, app_rowAct, app_rowStep, List.length_set, List.length_replicate, Int.toNat_natCast, Int.reduceToNat, evLen, evAppend, srcOf, Src.all, Src.len, Src.leaf, Src.leafN, evApart, aliveQ, joinV, drows_rep1, drows_rep2, drows_rep3, drows_rep4, drows_rep5, drows_rep6, drows_rep7, drows_rep8, mkVec, drows, evMk, List.length_map, take_mapF, drop_mapF, List.take_length, List.take_left, List.length_append, Nat.le_add_right, ite_self, List.take_of_length_le, evSlice, intOr, intOpd, Option.isSome_none, Option.isSome_some, Nat.sub_zero, loadQ, loadT, evBin, evUn, binT, binQ, chk, apartF, List.contains_cons, List.contains_nil, Bool.or_false, Bool.false_or, Bool.and_self, resQ, resV, resT, pickV, evCallT, evTake, evCall, fnOf, viewsT, isD, HO.drow, viewT, evInt2, evEq, eqV, eqK, eqC1, buildQ, buildT, buildRQ, buildRT, lens_I, lensA_I, lens_U, lensA_U, lens_Rat, lensA_Rat, lens_Loc, lensA_Loc, lens_Act, lensA_Act, lens_Step, lensA_Step, lens_Stamp, lensA_Stamp, List.mem_cons, List.not_mem_nil, or_false, forall_eq, putRow, dcells, get_nil, RetS, RetF, RetD, AV.frz, AV.frzL, AV.freshP, AV.freshL, DV.less, scal_int, scal_bool, scal_nil, scal_rowI, scal_rowU, scal_rowRat, scal_rowStep, Option.some.injEq, AV.tup.injEq, AV.agg.injEq, List.cons.injEq, DV.list.injEq, List.isEmpty_nil, Nat.le_refl, AV.d.injEq, DV.int.injEq, DV.bool.injEq, ↓reduceIte, Nat.reduceEqDiff, Nat.reduceAdd, Nat.reduceBEq, List.length_cons, List.length_nil, List.replicate_succ, List.replicate_zero, List.nil_append, List.cons_append, List.append_nil, List.foldl_cons, List.foldl_nil, List.map_cons, List.map_nil, List.all_cons, List.all_nil, List.set_cons_zero, List.set_cons_succ, List.getD_cons_zero, List.getD_cons_succ, List.drop_zero, List.drop_succ_cons, List.take_succ_cons, List.take_zero, List.flatten_cons, List.flatten_nil, Bool.true_and, Bool.and_true, Bool.not_true, Bool.not_false, true_and, and_true, true_or, or_true, Option.bind_some, Option.map_some, decide_true, decide_false, beq_self_eq_true, true_implies, false_implies, implies_true, not_true_eq_false, not_false_eq_true, and_self, Bool.and_false, Bool.false_and, Nat.reduceLT, Nat.reduceLeDiff, List.reverse_cons, List.reverse_nil, Nat.zero_add, Nat.add_zero, Bool.false_eq_true, List.getElem?_cons_zero, onwSt, MemG.row, F1, G1, F2, G2, F3, G3, F4, G4, F5, G5, at_true, at_DoM, at_onward, at_rat_Cmp, MemG.av, StepG.av7, loadO_vec, storeO_vec, getStamps, rowStamps_len, idx_Stamps]
  have hsm := small_of hg (by omega)
  obtain ⟨-, -, hsk, hsf, hsp, hspp⟩ := hsm
  refine fun c1 c2 => ⟨⟨by omega, by omega⟩, wfM hg (by omega), fun ea => ?_, fun ea => ?_⟩
  case refine_2 =>
    rw [wrap_succ (show i < ss.length by omega) hs]
    exact FamNext.mk [0] (i + 1, m) (by simp) (by simp) (by simp only [State.can, AV.can, AV.canL, HO.can, canRows, idx, get_hit, get_next, Heap.at, Nat.reduceBEq, ↓reduceIte, Nat.reduceEqDiff, Option.getD_some, Option.map_some, List.map_cons, List.map_nil, List.getD_cons_zero, List.getD_cons_succ, onwSt, MemG.row]) ⟨by show i + 1 ≤ _; omega, by show i + 1 ≤ 40; omega, hg.mono (by omega)⟩ (by show 40 - (i + 1) < 40 - i; omega)
  have ga : (resM m.plain (ss.getD i default)).plain.Good (41 + (i + 1)) := resM_good hg ea
  have eN : (resM m.plain (ss.getD i default)).plain = doMem m.plain (ss.getD i default) := by rw [resM_ok ea, plain_av]
  have ho : Onwards m.plain (resM m.plain (ss.getD i default)).plain := by rw [eN]; exact do_onwards hg ea
  generalize resM m.plain (ss.getD i default) = n at *
  have t1 : onwardB (inn m.fronts) (inn n.fronts) = true := onward_true ho.fronts
  have t2 : onwardB (inn m.marks) (inn n.marks) = true := onward_true ho.marks
  rw [t1, t2]
  refine ⟨hsf, fun _ => ⟨hsk, fun _ => ?_, fun h => by cases h⟩, fun h => by cases h⟩
  refine Loop.fam [2, 7, 9, 10, 12] (onwSt2 ss g i m n) (fun k => k ≤ m.past.length) (fun k => m.past.length - k) 0 [0, 1] (by simp) (by simp) (by simp only [State.can, AV.can, AV.canL, HO.can, canRows, idx, get_hit, get_next, Heap.at, Nat.reduceBEq, ↓reduceIte, Nat.reduceEqDiff, Option.getD_some, Option.map_some, List.map_cons, List.map_nil, List.getD_cons_zero, List.getD_cons_succ, onwSt2, MemG.row]; rfl) (Nat.zero_le _) ?_
  intro k hk
  have hk : k ≤ m.past.length := hk
  simp (maxSteps := 3000000) only [↓vck_skip, ↓vck_ret, ↓vck_exit, ↓vck_region, ↓vck_nilq, ↓nilTo_to, nilG_d, nilG_r, ↓vck_seq, ↓vck_cond, ↓vck_block, ↓vck_loop, ↓vckTo_to, ↓thenK_n, ↓thenK_x, ↓thenK_r, ↓blockK_n, ↓blockK_x, ↓blockK_o, ↓blockK_r, ↓regK_to, ↓retK_r, ↓retK_n, ↓loopV_n, ↓loopV_x, ↓loopV_r, ↓famK_n, ↓famK_x, ↓famK_r, ↓boolK_true, ↓boolK_false, ↓boolK_not, ↓boolK_dec, ↓boolK_and, nf_mk, RGk_end_f, RGk_end_t, RGk_op, RGk_guard, opK_to, evN, evCallN, grow_mk, feet_f, feet_t, foot_mk, stepK_mk, stepK_v, stepK_no, guardG_t, guardG_f, guardG_no, condG_b, evT, Opd.ev, get_hit, get_next, app_to, app_no, app_up, app_skip, app_skipn, know_mk, knowO_t, knowO_c, envFrom, reserve, keeps, LOp.isNew, State.prune, cellsQ, cellsT, AV.leaf, Heap.at, evLoad_ptr, evLoad_dptr, loadO_vec, loadO_dvec1, stepK_load_map, idx_I, idx_U, idx_Rat, idx_Loc, idx_Act, idx_Step, idx_Stamp, stepK_idx_ref, evStore_ptr, storeO_vec, stepK_store_map1, loadDT_f, rowI, rowU, RatG.row, LocG.row, ActG.row, StepG.row, StampG.row, ActG.av, ActG.eta, RatG.eta, LocG.eta, beq_true, beq_false, loadDT_t, set_rowI, set_rowU, app_rowI, app_rowU, rep_rowI, rep_rowU, set_rowRat, app_rowRat, rep_rowRat, set_rowLoc, app_rowLoc, app_rowAct, app_rowStep, List.length_set, List.length_replicate, Int.toNat_natCast, Int.reduceToNat, evLen, evAppend, srcOf, Src.all, Src.len, Src.leaf, Src.leafN, evApart, aliveQ, joinV, drows_rep1, drows_rep2, drows_rep3, drows_rep4, drows_rep5, drows_rep6, drows_rep7, drows_rep8, mkVec, drows, evMk, List.length_map, take_mapF, drop_mapF, List.take_length, List.take_left, List.length_append, Nat.le_add_right, ite_self, List.take_of_length_le, evSlice, intOr, intOpd, Option.isSome_none, Option.isSome_some, Nat.sub_zero, loadQ, loadT, evBin, evUn, binT, binQ, chk, apartF, List.contains_cons, List.contains_nil, Bool.or_false, Bool.false_or, Bool.and_self, resQ, resV, resT, pickV, evCallT, evTake, evCall, fnOf, viewsT, isD, HO.drow, viewT, evInt2, evEq, eqV, eqK, eqC1, buildQ, buildT, buildRQ, buildRT, lens_I, lensA_I, lens_U, lensA_U, lens_Rat, lensA_Rat, lens_Loc, lensA_Loc, lens_Act, lensA_Act, lens_Step, lensA_Step, lens_Stamp, lensA_Stamp, List.mem_cons, List.not_mem_nil, or_false, forall_eq, putRow, dcells, get_nil, RetS, RetF, RetD, AV.frz, AV.frzL, AV.freshP, AV.freshL, DV.less, scal_int, scal_bool, scal_nil, scal_rowI, scal_rowU, scal_rowRat, scal_rowStep, Option.some.injEq, AV.tup.injEq, AV.agg.injEq, List.cons.injEq, DV.list.injEq, List.isEmpty_nil, Nat.le_refl, AV.d.injEq, DV.int.injEq, DV.bool.injEq, ↓reduceIte, Nat.reduceEqDiff, Nat.reduceAdd, Nat.reduceBEq, List.length_cons, List.length_nil, List.replicate_succ, List.replicate_zero, List.nil_append, List.cons_append, List.append_nil, List.foldl_cons, List.foldl_nil, List.map_cons, List.map_nil, List.all_cons, List.all_nil, List.set_cons_zero, List.set_cons_succ, List.getD_cons_zero, List.getD_cons_succ, List.drop_zero, List.drop_succ_cons, List.take_succ_cons, List.take_zero, List.flatten_cons, List.flatten_nil, Bool.true_and, Bool.and_true, Bool.not_true, Bool.not_false, true_and, and_true, true_or, or_true, Option.bind_some, Option.map_some, decide_true, decide_false, beq_self_eq_true, true_implies, false_implies, implies_true, not_true_eq_false, not_false_eq_true, and_self, Bool.and_false, Bool.false_and, Nat.reduceLT, Nat.reduceLeDiff, List.reverse_cons, List.reverse_nil, Nat.zero_add, Nat.add_zero, Bool.false_eq_true, List.getElem?_cons_zero, onwSt2, MemG.row, F1, G1, F2, G2, F3, G3, F4, G4, F5, G5, at_true, at_DoM, at_onward, at_rat_Cmp, MemG.av, StepG.av7, loadO_vec, storeO_vec, getStamps, rowStamps_len, idx_Stamps]
  have hlen : n.past.length = m.past.length := by have := ho.past; simpa [MemG.plain, inn_len] using this
  refine ⟨fun c3 => ?_, fun c3 => ?_⟩
  case refine_2 =>
    rw [wrap_succ (show i < ss.length by omega) hs]
    exact FamNext.mk [0] (i + 1, n) (by simp) (by simp) (by simp only [State.can, AV.can, AV.canL, HO.can, canRows, idx, get_hit, get_next, Heap.at, Nat.reduceBEq, ↓reduceIte, Nat.reduceEqDiff, Option.getD_some, Option.map_some, List.map_cons, List.map_nil, List.getD_cons_zero, List.getD_cons_succ, onwSt, MemG.row]) ⟨by show i + 1 ≤ _; omega, by show i + 1 ≤ 40; omega, ga⟩ (by show 40 - (i + 1) < 40 - i; omega)
  have hkl : k < m.past.length := by omega
  obtain ⟨q, hgr⟩ := ho.grown k (by show k < (inn m.past).length; rw [inn_len]; omega)
  have hri : Rising (n.past.getD k default).1 := by rw [inn_at]; exact ga.rising _ (inn_get (by omega))
  have hgr : Grown (m.past.getD k default).1 (n.past.getD k default).1 q := by rw [inn_at, inn_at]; exact hgr
  have hpl : (m.past.getD k default).1.length ≤ 41 + i := by rw [inn_at]; exact hg.wf.pasts _ (inn_get hkl)
  have ew : IntKind.i64.wrap (((m.past.getD k default).1.length : Int) + 1) = (((m.past.getD k default).1.length + 1 : Nat) : Int) := wrap_succ (n := (m.past.getD k default).1.length + 1) (by omega) (by have : maxLen = 9223372036854775807 := rfl; omega)
  rw [ew]
  have hle := hgr.len
  refine ⟨⟨by omega, by omega⟩, ⟨by omega, by omega⟩, fun h => by omega, fun _ => ⟨⟨by omega, by omega⟩, ⟨by omega, by omega⟩, fun h => by omega, fun _ => ?_⟩⟩
  refine Loop.fam [2, 7, 9, 10, 12, 13, 14] (onwSt3 ss g i m n k q) (fun j => j ≤ (n.past.getD k default).1.length) (fun j => (n.past.getD k default).1.length - j) 0 [0, 1] (by simp) (by simp) (by simp only [State.can, AV.can, AV.canL, HO.can, canRows, idx, get_hit, get_next, Heap.at, Nat.reduceBEq, ↓reduceIte, Nat.reduceEqDiff, Option.getD_some, Option.map_some, List.map_cons, List.map_nil, List.getD_cons_zero, List.getD_cons_succ, onwSt3, MemG.row, atG]; rfl) (Nat.zero_le _) ?_
  intro j hj
  have hj : j ≤ (n.past.getD k default).1.length := hj
  simp (maxSteps := 3000000) only [↓vck_skip, ↓vck_ret, ↓vck_exit, ↓vck_region, ↓vck_nilq, ↓nilTo_to, nilG_d, nilG_r, ↓vck_seq, ↓vck_cond, ↓vck_block, ↓vck_loop, ↓vckTo_to, ↓thenK_n, ↓thenK_x, ↓thenK_r, ↓blockK_n, ↓blockK_x, ↓blockK_o, ↓blockK_r, ↓regK_to, ↓retK_r, ↓retK_n, ↓loopV_n, ↓loopV_x, ↓loopV_r, ↓famK_n, ↓famK_x, ↓famK_r, ↓boolK_true, ↓boolK_false, ↓boolK_not, ↓boolK_dec, ↓boolK_and, nf_mk, RGk_end_f, RGk_end_t, RGk_op, RGk_guard, opK_to, evN, evCallN, grow_mk, feet_f, feet_t, foot_mk, stepK_mk, stepK_v, stepK_no, guardG_t, guardG_f, guardG_no, condG_b, evT, Opd.ev, get_hit, get_next, app_to, app_no, app_up, app_skip, app_skipn, know_mk, knowO_t, knowO_c, envFrom, reserve, keeps, LOp.isNew, State.prune, cellsQ, cellsT, AV.leaf, Heap.at, evLoad_ptr, evLoad_dptr, loadO_vec, loadO_dvec1, stepK_load_map, idx_I, idx_U, idx_Rat, idx_Loc, idx_Act, idx_Step, idx_Stamp, stepK_idx_ref, evStore_ptr, storeO_vec, stepK_store_map1, loadDT_f, rowI, rowU, RatG.row, LocG.row, ActG.row, StepG.row, StampG.row, ActG.av, ActG.eta, RatG.eta, LocG.eta, beq_true, beq_false, loadDT_t, set_rowI, set_rowU, app_rowI, app_rowU, rep_rowI, rep_rowU, set_rowRat, app_rowRat, rep_rowRat, set_rowLoc, app_rowLoc, app_rowAct, app_rowStep, List.length_set, List.length_replicate, Int.toNat_natCast, Int.reduceToNat, evLen, evAppend, srcOf, Src.all, Src.len, Src.leaf, Src.leafN, evApart, aliveQ, joinV, drows_rep1, drows_rep2, drows_rep3, drows_rep4, drows_rep5, drows_rep6, drows_rep7, drows_rep8, mkVec, drows, evMk, List.length_map, take_mapF, drop_mapF, List.take_length, List.take_left, List.length_append, Nat.le_add_right, ite_self, List.take_of_length_le, evSlice, intOr, intOpd, Option.isSome_none, Option.isSome_some, Nat.sub_zero, loadQ, loadT, evBin, evUn, binT, binQ, chk, apartF, List.contains_cons, List.contains_nil, Bool.or_false, Bool.false_or, Bool.and_self, resQ, resV, resT, pickV, evCallT, evTake, evCall, fnOf, viewsT, isD, HO.drow, viewT, evInt2, evEq, eqV, eqK, eqC1, buildQ, buildT, buildRQ, buildRT, lens_I, lensA_I, lens_U, lensA_U, lens_Rat, lensA_Rat, lens_Loc, lensA_Loc, lens_Act, lensA_Act, lens_Step, lensA_Step, lens_Stamp, lensA_Stamp, List.mem_cons, List.not_mem_nil, or_false, forall_eq, putRow, dcells, get_nil, RetS, RetF, RetD, AV.frz, AV.frzL, AV.freshP, AV.freshL, DV.less, scal_int, scal_bool, scal_nil, scal_rowI, scal_rowU, scal_rowRat, scal_rowStep, Option.some.injEq, AV.tup.injEq, AV.agg.injEq, List.cons.injEq, DV.list.injEq, List.isEmpty_nil, Nat.le_refl, AV.d.injEq, DV.int.injEq, DV.bool.injEq, ↓reduceIte, Nat.reduceEqDiff, Nat.reduceAdd, Nat.reduceBEq, List.length_cons, List.length_nil, List.replicate_succ, List.replicate_zero, List.nil_append, List.cons_append, List.append_nil, List.foldl_cons, List.foldl_nil, List.map_cons, List.map_nil, List.all_cons, List.all_nil, List.set_cons_zero, List.set_cons_succ, List.getD_cons_zero, List.getD_cons_succ, List.drop_zero, List.drop_succ_cons, List.take_succ_cons, List.take_zero, List.flatten_cons, List.flatten_nil, Bool.true_and, Bool.and_true, Bool.not_true, Bool.not_false, true_and, and_true, true_or, or_true, Option.bind_some, Option.map_some, decide_true, decide_false, beq_self_eq_true, true_implies, false_implies, implies_true, not_true_eq_false, not_false_eq_true, and_self, Bool.and_false, Bool.false_and, Nat.reduceLT, Nat.reduceLeDiff, List.reverse_cons, List.reverse_nil, Nat.zero_add, Nat.add_zero, Bool.false_eq_true, List.getElem?_cons_zero, onwSt3, MemG.row, F1, G1, F2, G2, F3, G3, F4, G4, F5, G5, at_true, at_DoM, at_onward, at_rat_Cmp, MemG.av, StepG.av7, loadO_vec, storeO_vec, getStamps, rowStamps_len, idx_Stamps]
  have hmx : maxLen = 9223372036854775807 := rfl
  have hql : (n.past.getD k default).1.length ≤ 42 + i := by omega
  have fin : ∀ {S : State}, j < (n.past.getD k default).1.length → S.can [0, 1] [2, 7, 9, 10, 12, 13, 14] = onwSt3 ss g i m n k q (j + 1) → 2 ≤ S.heap.length → FamNext [2, 7, 9, 10, 12, 13, 14] (onwSt3 ss g i m n k q) (fun j => j ≤ (n.past.getD k default).1.length) (fun j => (n.past.getD k default).1.length - j) ((n.past.getD k default).1.length - j) S := fun {S} h1 h2 h3 =>
    FamNext.mk [0, 1] (j + 1) (by simp) (by simp; omega) h2 (by show j + 1 ≤ _; omega) (by show _ - (j + 1) < _ - j; omega)
  have hat : atG q j ≤ j := by unfold atG; split <;> omega
  have wa : IntKind.i64.wrap ((atG q j : Int) + 1) = ((atG q j + 1 : Nat) : Int) := wrap_succ (n := atG q j + 1) (by omega) (by omega)
  have tail : ∀ {A B C : Prop}, j < (n.past.getD k default).1.length → (atG q (j + 1) = atG q j + 1 → A) → (atG q (j + 1) = atG q j → B) → (atG q (j + 1) = atG q j → C) →
      (0 ≤ (k : Int) ∧ (k : Int) < m.past.length) ∧ ((atG q j : Int) < (m.past.getD k default).1.length → (0 ≤ (k : Int) ∧ (k : Int) < n.past.length) ∧ (0 ≤ (j : Int) ∧ (j : Int) < (n.past.getD k default).1.length) ∧ (0 ≤ (k : Int) ∧ (k : Int) < m.past.length) ∧ (0 ≤ (atG q j : Int) ∧ (atG q j : Int) < (m.past.getD k default).1.length) ∧
        (decide (((n.past.getD k default).1.getD j default).when.num = ((m.past.getD k default).1.getD (atG q j) default).when.num) = true ∧ (decide (((n.past.getD k default).1.getD j default).when.den = ((m.past.getD k default).1.getD (atG q j) default).when.den) && decide (((n.past.getD k default).1.getD j default).val = ((m.past.getD k default).1.getD (atG q j) default).val)) = true → A) ∧
        (decide (((n.past.getD k default).1.getD j default).when.num = ((m.past.getD k default).1.getD (atG q j) default).when.num) = false ∨ (decide (((n.past.getD k default).1.getD j default).when.den = ((m.past.getD k default).1.getD (atG q j) default).when.den) && decide (((n.past.getD k default).1.getD j default).val = ((m.past.getD k default).1.getD (atG q j) default).val)) = false → B)) ∧
        (¬ (atG q j : Int) < (m.past.getD k default).1.length → C) := by
    intro A B C hjl hA hB hC
    have hkn : k < n.past.length := by omega
    clear fin wa ew
    have glo := hgr.lo j hjl
    have gmid := hgr.mid
    have ghi := hgr.hi j hjl
    generalize (n.past.getD k default).1 = Q at *
    generalize (m.past.getD k default).1 = P at *
    have same : Q.getD j default = P.getD (atG q j) default → A → (decide ((Q.getD j default).when.num = (P.getD (atG q j) default).when.num) = true ∧ (decide ((Q.getD j default).when.den = (P.getD (atG q j) default).when.den) && decide ((Q.getD j default).val = (P.getD (atG q j) default).val)) = true → A) ∧
        (decide ((Q.getD j default).when.num = (P.getD (atG q j) default).when.num) = false ∨ (decide ((Q.getD j default).when.den = (P.getD (atG q j) default).when.den) && decide ((Q.getD j default).val = (P.getD (atG q j) default).val)) = false → B) := fun e a => by
      rw [e]; exact ⟨fun _ => a, fun h => by simp at h⟩
    rcases Nat.lt_trichotomy j q with hlt | heq | hgt
    · obtain ⟨g1, g2⟩ := glo hlt
      have a0 : atG q j = j := by unfold atG; rw [if_pos (by omega)]
      have a1 : atG q (j + 1) = j + 1 := by unfold atG; rw [if_pos (by omega)]
      exact ⟨⟨by omega, by omega⟩, fun h => ⟨⟨by omega, by omega⟩, ⟨by omega, by omega⟩, ⟨by omega, by omega⟩, ⟨by omega, by omega⟩, same (by rw [a0]; exact g2) (hA (by omega))⟩, fun h => by omega⟩
    · subst heq
      have a0 : atG j j = j := by unfold atG; rw [if_pos (by omega)]
      have a1 : atG j (j + 1) = j := by unfold atG; rw [if_neg (by omega)]; omega
      refine ⟨⟨by omega, by omega⟩, fun h => ⟨⟨by omega, by omega⟩, ⟨by omega, by omega⟩, ⟨by omega, by omega⟩, ⟨by omega, by omega⟩, fun h2 => ?_, fun _ => hB (by omega)⟩, fun h => hC (by omega)⟩
      exfalso
      have := gmid (by omega)
      rw [a0] at h2
      simp only [Bool.and_eq_true, decide_eq_true_eq] at h2
      obtain ⟨e1, e2, e3⟩ := h2
      apply this
      generalize Q.getD j default = x at *
      generalize P.getD j default = y at *
      obtain ⟨⟨a, b⟩, c⟩ := x; obtain ⟨⟨a', b'⟩, c'⟩ := y
      simp only at e1 e2 e3
      rw [e1, e2, e3]
    · obtain ⟨g1, g2⟩ := ghi hgt
      have a0 : atG q j = j - 1 := by unfold atG; rw [if_neg (by omega)]
      have a1 : atG q (j + 1) = j := by unfold atG; rw [if_neg (by omega)]; omega
      exact ⟨⟨by omega, by omega⟩, fun h => ⟨⟨by omega, by omega⟩, ⟨by omega, by omega⟩, ⟨by omega, by omega⟩, ⟨by omega, by omega⟩, same (by rw [a0]; exact g2) (hA (by omega))⟩, fun h => by omega⟩
  refine ⟨⟨by omega, by omega⟩, fun c4 => ?_, fun c4 => ⟨⟨by omega, by omega⟩, fun h => ?_, fun h => h ?_⟩⟩
  · have hjl : j < (n.past.getD k default).1.length := by omega
    have wj : IntKind.i64.wrap ((j : Int) + 1) = ((j + 1 : Nat) : Int) := wrap_succ hjl (by omega)
    rw [wj, wa]
    refine ⟨fun c5 => ?_, fun c5 => ?_⟩
    · have wp : IntKind.i64.wrap ((j : Int) - 1) = ((j - 1 : Nat) : Int) := by rw [wrap_id (by omega) (by omega)]; omega
      rw [wp]
      refine ⟨⟨by omega, by omega⟩, ⟨by omega, by omega⟩, ⟨by omega, by omega⟩, ⟨by omega, by omega⟩, fun _ => ?_, fun h => h ?_⟩
      · exact tail hjl (fun e => fin hjl (by simp only [State.can, AV.can, AV.canL, HO.can, canRows, idx, get_hit, get_next, Heap.at, Nat.reduceBEq, ↓reduceIte, Nat.reduceEqDiff, Option.getD_some, Option.map_some, List.map_cons, List.map_nil, List.getD_cons_zero, List.getD_cons_succ, onwSt3, MemG.row, e]) (by simp)) (fun e => fin hjl (by simp only [State.can, AV.can, AV.canL, HO.can, canRows, idx, get_hit, get_next, Heap.at, Nat.reduceBEq, ↓reduceIte, Nat.reduceEqDiff, Option.getD_some, Option.map_some, List.map_cons, List.map_nil, List.getD_cons_zero, List.getD_cons_succ, onwSt3, MemG.row, e]) (by simp)) (fun e => fin hjl (by simp only [State.can, AV.can, AV.canL, HO.can, canRows, idx, get_hit, get_next, Heap.at, Nat.reduceBEq, ↓reduceIte, Nat.reduceEqDiff, Option.getD_some, Option.map_some, List.map_cons, List.map_nil, List.getD_cons_zero, List.getD_cons_succ, onwSt3, MemG.row, e]) (by simp))
      · have := hri.lt (show j - 1 < j by omega) hjl
        have e : rat_cmp _ _ _ _ = -1 ∨ _ := cmp_vals ((n.past.getD k default).1.getD (j - 1) default).when.num ((n.past.getD k default).1.getD (j - 1) default).when.den ((n.past.getD k default).1.getD j default).when.num ((n.past.getD k default).1.getD j default).when.den
        unfold cmpQ' at this
        simp only [Int.toNat_natCast]
        omega
    · exact tail hjl (fun e => fin hjl (by simp only [State.can, AV.can, AV.canL, HO.can, canRows, idx, get_hit, get_next, Heap.at, Nat.reduceBEq, ↓reduceIte, Nat.reduceEqDiff, Option.getD_some, Option.map_some, List.map_cons, List.map_nil, List.getD_cons_zero, List.getD_cons_succ, onwSt3, MemG.row, e]) (by simp)) (fun e => fin hjl (by simp only [State.can, AV.can, AV.canL, HO.can, canRows, idx, get_hit, get_next, Heap.at, Nat.reduceBEq, ↓reduceIte, Nat.reduceEqDiff, Option.getD_some, Option.map_some, List.map_cons, List.map_nil, List.getD_cons_zero, List.getD_cons_succ, onwSt3, MemG.row, e]) (by simp)) (fun e => fin hjl (by simp only [State.can, AV.can, AV.canL, HO.can, canRows, idx, get_hit, get_next, Heap.at, Nat.reduceBEq, ↓reduceIte, Nat.reduceEqDiff, Option.getD_some, Option.map_some, List.map_cons, List.map_nil, List.getD_cons_zero, List.getD_cons_succ, onwSt3, MemG.row, e]) (by simp))
  · rw [wrap_succ hkl hsp]
    exact FamNext.mk [0, 1] (k + 1) (by simp) (by simp) (by simp only [State.can, AV.can, AV.canL, HO.can, canRows, idx, get_hit, get_next, Heap.at, Nat.reduceBEq, ↓reduceIte, Nat.reduceEqDiff, Option.getD_some, Option.map_some, List.map_cons, List.map_nil, List.getD_cons_zero, List.getD_cons_succ, onwSt2, MemG.row]) (by show k + 1 ≤ _; omega) (by show _ - (k + 1) < _ - k; omega)
  · have hje : j = (n.past.getD k default).1.length := by omega
    unfold atG
    split <;> omega
end Go.Ago

/- HistSees: a thread may read just what it is told that it sees. Conditions: none. -/
set_option maxRecDepth 100000
set_option linter.unusedSimpArgs false
set_option linter.unusedVariables false
namespace Go.Ago
theorem at_DoX (m : MemG) (t k o q v n d : Int) :
    sp_Do.at [.agg [.d (.list (m.locs.map LocG.row) m.lf), .d (.list (m.past.map rowStamps) m.pf), .d (.list (m.vals.map rowI) m.vf), .d (.list (m.marks.map rowRats) m.mf), .d (.list (m.fronts.map rowRats) m.ff)], .agg [.d (.int .i64 t), .d (.int .i64 k), .d (.int .i64 o), .d (.int .i64 q), .d (.int .i64 v), .d (.int .i64 n), .d (.int .i64 d)]] =
      .data (m.plain.Wf 1000000) (.tup [(resM m.plain ⟨t, ⟨k, o, q, v⟩, ⟨n, d⟩⟩).av, .d (.int .i64 (doErr m.plain ⟨t, ⟨k, o, q, v⟩, ⟨n, d⟩⟩))]) false := at_Do _ _ _ _ _ _ _ _ _ _ _ _ _ _ _ _ _
/-- What is atomic has no past. -/
def Mem.Bare (m : Mem) : Prop := ∀ i, i < m.locs.length → (m.locs.getD i default).atom = true → m.past.getD i [] = []
theorem new_bare {l : List LocG} {t : Int} (h : newErr l t = 0) : (newM l t).plain.Bare := by
  unfold newM
  rw [if_pos h]
  intro i hi ha
  have hi : i < l.length := hi
  have ha : (l.getD i default).atom = true := ha
  show (inn (l.map pastX)).getD i [] = []
  rw [inn_map, List.getD_eq_getElem?_getD, List.getElem?_map, List.getElem?_eq_getElem hi]
  rw [getD_lt hi] at ha
  show (pastX l[i]).1 = []
  unfold pastX; rw [if_pos ha]
theorem right_plain {s : StepG} {l : List LocG} (hk : isPl s.act.kind = true) (h : s.act.right l = true) : (l.getD s.act.loc.toNat default).atom = false := by
  rw [isPl_iff] at hk
  unfold ActG.right at h
  rw [if_neg (by omega)] at h
  simp only [Bool.and_eq_true, beq_iff_eq] at h
  rw [h.1.1.2]
  unfold ActG.isA
  simp; omega
theorem do_bare {m : Mem} {s : StepG} (h : m.Bare) (he : doErr m s = 0) : (doMem m s).Bare := by
  have ht := taken he
  intro i hi ha
  have hl : (doMem m s).locs = m.locs := doMem_lens.1
  rw [hl] at hi ha
  unfold doMem
  split
  · rename_i hk
    show (m.past.set s.act.loc.toNat _).getD i [] = []
    rw [getD_set]
    split
    · rename_i e
      have := right_plain (s := s) (by rw [hk]; rfl) ht.right
      rw [e.1, ha] at this; cases this
    · exact h i hi ha
  · split
    · split
      · exact h i hi ha
      · exact h i hi ha
    · exact h i hi ha
theorem stepM_bare {m : MemG} {s : StepG} (h : m.plain.Bare) : (stepM m s).plain.Bare := by
  unfold stepM
  split
  · rename_i he; rw [plain_av]; exact do_bare h he
  · exact h
theorem goM_bare {m : MemG} (h : m.plain.Bare) (ss : List StepG) (n : Nat) : (goM m ss n).plain.Bare := by
  unfold goM
  generalize ss.take n = l
  induction l generalizing m with
  | nil => exact h
  | cons s l ih => exact ih (stepM_bare h)
theorem doneM_bare {l : List LocG} {t : Int} {ss : List StepG} (h : doneQ l t = true) : (doneM l t ss).plain.Bare := by
  unfold doneM
  rw [if_pos h]
  unfold doneQ at h
  simp only [Bool.and_eq_true, decide_eq_true_eq] at h
  exact goM_bare (new_bare h.2) ss 40
theorem wrap_next_ne (v : Int) : IntKind.i64.wrap (v + 1) ≠ v := by
  intro h
  unfold IntKind.wrap at h
  dsimp only at h
  simp only [IntKind.bits, IntKind.signed, Bool.true_and, decide_eq_true_eq, ge_iff_le] at h
  split at h <;> omega
/-- What is seen, found in the past. -/
theorem sees_mem {m : Mem} {t l : Int} {b : Nat} (h : m.Good b) {s : StampG} (hs : s ∈ seesG m t l) :
    0 ≤ t ∧ t < m.fronts.length ∧ 0 ≤ l ∧ l < m.locs.length ∧ s ∈ m.past.getD l.toNat [] ∧ 0 ≤ cmpQ' s.when ((m.fronts.getD t.toNat []).getD l.toNat default) ∧ Rising (m.past.getD l.toNat []) := by
  by_cases hc : t < 0 ∨ (m.fronts.length : Int) ≤ t ∨ l < 0 ∨ (m.past.length : Int) ≤ l
  · rw [seesG_out hc] at hs; cases hs
  · rw [seesG_in hc] at hs
    have hp := h.wf.past
    obtain ⟨h1, h2⟩ := List.mem_filter.1 hs
    exact ⟨by omega, by omega, by omega, by omega, h1, by simpa using h2, h.rising _ (getD_mem (by omega))⟩
theorem sees_read {m : Mem} {t l : Int} {b : Nat} (h : m.Good b) (hb : m.Bare) {s : StampG} (hs : s ∈ seesG m t l) (v : Int) :
    doErr m ⟨t, ⟨1, l, v, 0⟩, s.when⟩ = if s.val ≠ v then 3 else 0 := by
  obtain ⟨h1, h2, h3, h4, h5, h6, h7⟩ := sees_mem h hs
  have hw := h7.right s h5
  obtain ⟨k, hk, he⟩ := mem_getD h5
  have hat : (m.locs.getD l.toNat default).atom = false := by
    cases e : (m.locs.getD l.toNat default).atom with
    | false => rfl
    | true => rw [hb l.toNat (by omega) e] at h5; cases h5
  have hg : goodQ m ⟨t, ⟨1, l, v, 0⟩, s.when⟩ = true := by
    rw [good_iff]
    refine ⟨h1, h2, ?_, fun _ => hw, fun e => by cases e⟩
    show ActG.right ⟨1, l, v, 0⟩ m.locs = true
    unfold ActG.right
    rw [if_neg (show ¬ (1 : Int) = 6 by decide)]
    simp only [Bool.and_eq_true, beq_iff_eq, hat]
    simp [ActG.isA, ActG.isR, h3, h4]
  obtain ⟨g1, g2⟩ := bsHas_of h7 hw hk (by rw [he]; exact cmpQ_self _)
  unfold doErr
  rw [hg, if_neg (by decide), if_pos rfl]
  show (if bsHas (m.past.getD l.toNat []) s.when = false then (4 : Int) else if cmpQ' s.when ((m.fronts.getD t.toNat []).getD l.toNat default) < 0 then 6 else if ((m.past.getD l.toNat []).getD (bsAt (m.past.getD l.toNat []) s.when) default).val ≠ v then 3 else 0) = _
  rw [g1, g2, if_neg (by decide), if_neg (by omega), he]
/-- What is seen last is what was written last. -/
theorem sees_last {m : MemG} {t l : Int} {b : Nat} (h : m.plain.Good b) (hs : 0 < (seesG m.plain t l).length) : lastG m l = some ((seesG m.plain t l).getD ((seesG m.plain t l).length - 1) default) := by
  have hm0 : (seesG m.plain t l).getD ((seesG m.plain t l).length - 1) default ∈ seesG m.plain t l := by rw [getD_lt (by omega)]; exact List.getElem_mem _
  obtain ⟨h1, h2, h3, h4, h5, h6, h7⟩ := sees_mem h hm0
  have hp : m.past.length = m.locs.length := by have := h.wf.past; simpa [MemG.plain, inn_len] using this
  have h4 : l < m.locs.length := h4
  have hfr : rightQ ((m.plain.fronts.getD t.toNat []).getD l.toNat default) = true := by
    have hf : m.plain.fronts.getD t.toNat [] ∈ m.plain.fronts := getD_mem (by omega)
    have := h.wf.frontsL _ hf
    have h4' : l < m.plain.locs.length := h4
    exact h.frontsR _ hf _ (by
      generalize m.plain.fronts.getD t.toNat [] = Z at *
      rw [getD_lt (by omega)]; exact List.getElem_mem _)
  unfold lastG
  rw [if_pos ⟨h3, by omega⟩]
  have epa : pastAt m l = m.plain.past.getD l.toNat [] := inn_at _ _
  rw [epa]
  have ein := seesG_in (m := m.plain) (t := t) (l := l) (by
    have : m.plain.past.length = m.past.length := inn_len _
    omega)
  rw [ein] at hs ⊢
  generalize m.plain.past.getD l.toNat [] = P at *
  generalize (m.plain.fronts.getD t.toNat []).getD l.toNat default = fr at *
  clear hm0 h5 h6 ein epa
  rcases List.eq_nil_or_concat P with rfl | ⟨P', x, rfl⟩
  · simp at hs
  · rw [List.concat_eq_append] at *
    have hx : 0 ≤ cmpQ' x.when fr := by
      obtain ⟨s, hs'⟩ := List.exists_mem_of_length_pos hs
      obtain ⟨g1, g2⟩ := List.mem_filter.1 hs'
      have g2 : 0 ≤ cmpQ' s.when fr := by simpa using g2
      rcases List.mem_append.1 g1 with g | g
      · have lt := (List.pairwise_append.1 h7.rise).2.2 s g x (by simp)
        have := cmpQ_le_lt hfr (h7.right s g1) (h7.right x (by simp)) (by rw [cmpQ_anti]; omega) lt
        rw [cmpQ_anti] at this; omega
      · rw [← List.mem_singleton.1 g]; exact g2
    rw [List.getLast?_append, List.filter_append]
    simp [hx]
/-- What may be read is among what is seen. -/
theorem read_sees {m : Mem} {z : StepG} {b : Nat} (h : m.Good b) (he : doErr m z = 0) (hk : z.act.kind = 1) :
    ∃ s ∈ seesG m z.thread z.act.loc, cmpQ' s.when z.when = 0 ∧ rightQ z.when = true ∧ s.val = z.act.old := by
  have ht := taken he
  have t0 := ht.t0
  have t1 := ht.t1
  have hl := ht.loc (.inl (by rw [hk]; rfl))
  have hw := ht.when (by rw [hk]; rfl)
  obtain ⟨g1, g2, g3⟩ := ht.read hk
  have hp := h.wf.past
  have hr : Rising (pastOf m z) := h.rising _ (getD_mem (l := m.past) (i := z.act.loc.toNat) (d := []) (by omega))
  obtain ⟨q1, q2⟩ := bsHas_true g1
  have hf : frontOf m z ∈ m.fronts := getD_mem (by omega)
  have hfl := h.wf.frontsL _ hf
  have hfr : rightQ ((frontOf m z).getD z.act.loc.toNat default) = true := h.frontsR _ hf _ (by rw [getD_lt (by omega)]; exact List.getElem_mem _)
  refine ⟨(pastOf m z).getD (bsAt (pastOf m z) z.when) default, ?_, q2, hw, g3⟩
  rw [seesG_in (by omega)]
  refine List.mem_filter.2 ⟨by rw [getD_lt q1]; exact List.getElem_mem _, ?_⟩
  simp only [decide_eq_true_eq]
  have := cmpQ_alike (hr.get q1) hw hfr q2
  show 0 ≤ cmpQ' _ ((frontOf m z).getD z.act.loc.toNat default)
  rw [this]; exact g2
def StepG.cells (z : StepG) : List AV := [.d (.int .i64 z.thread), .d (.int .i64 z.act.kind), .d (.int .i64 z.act.loc), .d (.int .i64 z.act.old), .d (.int .i64 z.act.new), .d (.int .i64 z.when.num), .d (.int .i64 z.when.den)]
def seeSt1 (S : List StampG) (z : StepG) (m : MemG) (i : Nat) : State :=
  ⟨[(7, .ptr 0 7 0 0), (9, .ptr 1 5 0 0), (11, .d (.list (S.map StampG.row) false)), (12, .d (.int .i64 i))], [.vec 7 [z.cells], .vec 5 [m.row]]⟩
def seeSt3 (S : List StampG) (z : StepG) (m : MemG) (e : Int) (i : Nat) (b : Bool) : State :=
  ⟨[(7, .ptr 0 7 0 0), (11, .d (.list (S.map StampG.row) false)), (21, .d (.int .i64 e)), (22, .d (.bool b)), (23, .d (.int .i64 i))], [.vec 7 [z.cells], .vec 5 [m.row]]⟩
def thereB (z : StepG) (s : StampG) : Bool := decide (cmpQ' s.when z.when = 0) && (rightQ z.when && decide (s.val = z.act.old))
set_option maxHeartbeats 4000000 in
theorem law_HistSees {T : Tab} {n1 n2 n3 n4 n5 n6 n7 : Nat} (k1 : Knows T n1 sp_true) (k2 : Knows T n2 sp_Do) (k3 : Knows T n3 sp_done) (k4 : Knows T n4 sp_rat_Cmp) (k5 : Knows T n5 sp_Sees) (k6 : Knows T n6 sp_Last) (k7 : Knows T n7 sp_rat_Right) (l : List LocG) (f : Bool) (t : Int) (ss : List StepG) (g : Bool) (z : StepG) (hl : l.length ≤ maxLen) (hs : ss.length ≤ maxLen) :
    Holds T V_law20_HistSees (L_law20_HistSees n1 n2 n3 n4 n5 n6 n7) R_law20_HistSees [.d (.list (l.map LocG.row) f), .d (.int .i64 t), .d (.list (ss.map StepG.row) g), z.av7] := by
  have F1 := k1.F; have G1 := k1.G; have F2 := k2.F; have G2 := k2.G; have F3 := k3.F; have G3 := k3.G; have F4 := k4.F; have G4 := k4.G; have F5 := k5.F; have G5 := k5.G; have F6 := k6.F; have G6 := k6.G; have F7 := k7.F; have G7 := k7.G
  have hgd : doneQ l t = true → (doneM l t ss).plain.Good 41 := doneM_good
  generalize hm : doneM l t ss = m at hgd
  generalize hqq : doneQ l t = q at hgd
  unfold V_law20_HistSees L_law20_HistSees R_law20_HistSees
  simp (maxSteps := 3000000) only [↓vck_skip, ↓vck_ret, ↓vck_exit, ↓vck_region, ↓vck_nilq, ↓nilTo_to, nilG_d, nilG_r, ↓vck_seq, ↓vck_cond, ↓vck_block, ↓vck_loop, ↓vckTo_to, ↓thenK_n, ↓thenK_x, ↓thenK_r, ↓blockK_n, ↓blockK_x, ↓blockK_o, ↓blockK_r, ↓regK_to, ↓retK_r, ↓retK_n, ↓loopV_n, ↓loopV_x, ↓loopV_r, ↓famK_n, ↓famK_x, ↓famK_r, ↓boolK_true, ↓boolK_false, ↓boolK_not, ↓boolK_dec, ↓boolK_and, nf_mk, RGk_end_f, RGk_end_t, RGk_op, RGk_guard, opK_to, evN, evCallN, grow_mk, feet_f, feet_t, foot_mk, stepK_mk, stepK_v, stepK_no, guardG_t, guardG_f, guardG_no, condG_b, evT, Opd.ev, get_hit, get_next, app_to, app_no, app_up, app_skip, app_skipn, know_mk, knowO_t, knowO_c, envFrom, reserve, keeps, LOp.isNew, State.prune, cellsQ, cellsT, AV.leaf, Heap.at, evLoad_ptr, evLoad_dptr, loadO_vec, loadO_dvec1, stepK_load_map, idx_I, idx_U, idx_Rat, idx_Loc, idx_Act, idx_Step, idx_Stamp, stepK_idx_ref, evStore_ptr, storeO_vec, stepK_store_map1, loadDT_f, rowI, rowU, RatG.row, LocG.row, ActG.row, StepG.row, StampG.row, ActG.av, ActG.eta, RatG.eta, LocG.eta, beq_true, beq_false, loadDT_t, set_rowI, set_rowU, app_rowI, app_rowU, rep_rowI, rep_rowU, set_rowRat, app_rowRat, rep_rowRat, set_rowLoc, app_rowLoc, app_rowAct, app_rowStep, List.length_set, List.length_replicate, Int.toNat_natCast, Int.reduceToNat, evLen, evAppend, srcOf, Src.all, Src.len, Src.leaf, Src.leafN, evApart, aliveQ, joinV, drows_rep1, drows_rep2, drows_rep3, drows_rep4, drows_rep5, drows_rep6, drows_rep7, drows_rep8, mkVec, drows, evMk, List.length_map, take_mapF, drop_mapF, List.take_length, List.take_left, List.length_append, Nat.le_add_right, ite_self, List.take_of_length_le, evSlice, intOr, intOpd, Option.isSome_none, Option.isSome_some, Nat.sub_zero, loadQ, loadT, evBin, evUn, binT, binQ, chk, apartF, List.contains_cons, List.contains_nil, Bool.or_false, Bool.false_or, Bool.and_self, resQ, resV, resT, pickV, evCallT, evTake, evCall, fnOf, viewsT, isD, HO.drow, viewT, evInt2, evEq, eqV, eqK, eqC1, buildQ, buildT, buildRQ, buildRT, lens_I, lensA_I, lens_U, lensA_U, lens_Rat, lensA_Rat, lens_Loc, lensA_Loc, lens_Act, lensA_Act, lens_Step, lensA_Step, lens_Stamp, lensA_Stamp, List.mem_cons, List.not_mem_nil, or_false, forall_eq, putRow, dcells, get_nil, RetS, RetF, RetD, AV.frz, AV.frzL, AV.freshP, AV.freshL, DV.less, scal_int, scal_bool, scal_nil, scal_rowI, scal_rowU, scal_rowRat, scal_rowStep, Option.some.injEq, AV.tup.injEq, AV.agg.injEq, List.cons.injEq, DV.list.injEq, List.isEmpty_nil, Nat.le_refl, AV.d.injEq, DV.int.injEq, DV.bool.injEq, ↓reduceIte, Nat.reduceEqDiff, Nat.reduceAdd, Nat.reduceBEq, List.length_cons, List.length_nil, List.replicate_succ, List.replicate_zero, List.nil_append, List.cons_append, List.append_nil, List.foldl_cons, List.foldl_nil, List.map_cons, List.map_nil, List.all_cons, List.all_nil, List.set_cons_zero, List.set_cons_succ, List.getD_cons_zero, List.getD_cons_succ, List.drop_zero, List.drop_succ_cons, List.take_succ_cons, List.take_zero, List.flatten_cons, List.flatten_nil, Bool.true_and, Bool.and_true, Bool.not_true, Bool.not_false, true_and, and_true, true_or, or_true, Option.bind_some, Option.map_some, decide_true, decide_false, beq_self_eq_true, true_implies, false_implies, implies_true, not_true_eq_false, not_false_eq_true, and_self, Bool.and_false, Bool.false_and, Nat.reduceLT, Nat.reduceLeDiff, List.reverse_cons, List.reverse_nil, Nat.zero_add, Nat.add_zero, Bool.false_eq_true, List.getElem?_cons_zero, F1, G1, F2, G2, F3, G3, F4, G4, F5, G5, F6, G6, F7, G7, at_true, at_done, hm, hqq, at_SeesM, at_DoX, at_rat_Cmp, at_rat_Right, MemG.av, StepG.av7, loadO_vec, storeO_vec]
  refine ⟨⟨hl, hs⟩, fun hq => ?_, fun _ => trivial⟩
  have hg := hgd hq
  have hbr : m.plain.Bare := by rw [← hm]; exact doneM_bare (hqq.trans hq)
  refine ⟨wfM hg (by omega), ?_⟩
  have hS : ∀ i, i < (seesG m.plain z.thread z.act.loc).length → ∀ v, doErr m.plain ⟨z.thread, ⟨1, z.act.loc, v, 0⟩, ((seesG m.plain z.thread z.act.loc).getD i default).when⟩ = if ((seesG m.plain z.thread z.act.loc).getD i default).val ≠ v then 3 else 0 := fun i hi v =>
    sees_read hg hbr (by rw [getD_lt hi]; exact List.getElem_mem _) v
  have hlast : 0 < (seesG m.plain z.thread z.act.loc).length → lastG m z.act.loc = some ((seesG m.plain z.thread z.act.loc).getD ((seesG m.plain z.thread z.act.loc).length - 1) default) := fun h => sees_last hg h
  have hread : doErr m.plain z = 0 → z.act.kind = 1 → (seesG m.plain z.thread z.act.loc).any (thereB z) = true := fun he hk => by
    obtain ⟨s, h1, h2, h3, h4⟩ := read_sees hg he hk
    exact List.any_eq_true.2 ⟨s, h1, by unfold thereB; rw [h2, h3, h4]; simp⟩
  have hSl : (seesG m.plain z.thread z.act.loc).length ≤ 41 := by
    by_cases h : seesG m.plain z.thread z.act.loc = []
    · rw [h]; exact Nat.zero_le _
    · obtain ⟨s, hs'⟩ := List.exists_mem_of_ne_nil _ h
      obtain ⟨h1, h2, h3, h4, h5, h6, h7⟩ := sees_mem hg hs'
      have hp := hg.wf.past
      rw [seesG_in (by omega)]
      exact Nat.le_trans (List.length_filter_le _ _) (hg.wf.pasts _ (getD_mem (by omega)))
  have hpasts : ∀ r ∈ m.past, r.1.length ≤ maxLen := (small_of hg (by omega)).2.2.2.2.2
  generalize seesG m.plain z.thread z.act.loc = S at *
  refine Loop.fam [7, 9, 11, 12] (seeSt1 S z m) (fun i => i ≤ S.length) (fun i => S.length - i) 0 [0, 1] (by simp) (by simp) (by simp only [State.can, AV.can, AV.canL, HO.can, canRows, idx, get_hit, get_next, Heap.at, Nat.reduceBEq, ↓reduceIte, Nat.reduceEqDiff, Option.getD_some, Option.map_some, List.map_cons, List.map_nil, List.getD_cons_zero, List.getD_cons_succ, seeSt1, MemG.row, StepG.cells]; rfl) (Nat.zero_le _) ?_
  intro i hi
  have hi : i ≤ S.length := hi
  by_cases hil : i < S.length
  · have e1 := hS i hil (S.getD i default).val
    rw [if_neg (by simp)] at e1
    have e2 := hS i hil (IntKind.i64.wrap ((S.getD i default).val + 1))
    rw [if_pos (fun h => wrap_next_ne _ h.symm)] at e2
    simp (maxSteps := 3000000) only [↓vck_skip, ↓vck_ret, ↓vck_exit, ↓vck_region, ↓vck_nilq, ↓nilTo_to, nilG_d, nilG_r, ↓vck_seq, ↓vck_cond, ↓vck_block, ↓vck_loop, ↓vckTo_to, ↓thenK_n, ↓thenK_x, ↓thenK_r, ↓blockK_n, ↓blockK_x, ↓blockK_o, ↓blockK_r, ↓regK_to, ↓retK_r, ↓retK_n, ↓loopV_n, ↓loopV_x, ↓loopV_r, ↓famK_n, ↓famK_x, ↓famK_r, ↓boolK_true, ↓boolK_false, ↓boolK_not, ↓boolK_dec, ↓boolK_and, nf_mk, RGk_end_f, RGk_end_t, RGk_op, RGk_guard, opK_to, evN, evCallN, grow_mk, feet_f, feet_t, foot_mk, stepK_mk, stepK_v, stepK_no, guardG_t, guardG_f, guardG_no, condG_b, evT, Opd.ev, get_hit, get_next, app_to, app_no, app_up, app_skip, app_skipn, know_mk, knowO_t, knowO_c, envFrom, reserve, keeps, LOp.isNew, State.prune, cellsQ, cellsT, AV.leaf, Heap.at, evLoad_ptr, evLoad_dptr, loadO_vec, loadO_dvec1, stepK_load_map, idx_I, idx_U, idx_Rat, idx_Loc, idx_Act, idx_Step, idx_Stamp, stepK_idx_ref, evStore_ptr, storeO_vec, stepK_store_map1, loadDT_f, rowI, rowU, RatG.row, LocG.row, ActG.row, StepG.row, StampG.row, ActG.av, ActG.eta, RatG.eta, LocG.eta, beq_true, beq_false, loadDT_t, set_rowI, set_rowU, app_rowI, app_rowU, rep_rowI, rep_rowU, set_rowRat, app_rowRat, rep_rowRat, set_rowLoc, app_rowLoc, app_rowAct, app_rowStep, List.length_set, List.length_replicate, Int.toNat_natCast, Int.reduceToNat, evLen, evAppend, srcOf, Src.all, Src.len, Src.leaf, Src.leafN, evApart, aliveQ, joinV, drows_rep1, drows_rep2, drows_rep3, drows_rep4, drows_rep5, drows_rep6, drows_rep7, drows_rep8, mkVec, drows, evMk, List.length_map, take_mapF, drop_mapF, List.take_length, List.take_left, List.length_append, Nat.le_add_right, ite_self, List.take_of_length_le, evSlice, intOr, intOpd, Option.isSome_none, Option.isSome_some, Nat.sub_zero, loadQ, loadT, evBin, evUn, binT, binQ, chk, apartF, List.contains_cons, List.contains_nil, Bool.or_false, Bool.false_or, Bool.and_self, resQ, resV, resT, pickV, evCallT, evTake, evCall, fnOf, viewsT, isD, HO.drow, viewT, evInt2, evEq, eqV, eqK, eqC1, buildQ, buildT, buildRQ, buildRT, lens_I, lensA_I, lens_U, lensA_U, lens_Rat, lensA_Rat, lens_Loc, lensA_Loc, lens_Act, lensA_Act, lens_Step, lensA_Step, lens_Stamp, lensA_Stamp, List.mem_cons, List.not_mem_nil, or_false, forall_eq, putRow, dcells, get_nil, RetS, RetF, RetD, AV.frz, AV.frzL, AV.freshP, AV.freshL, DV.less, scal_int, scal_bool, scal_nil, scal_rowI, scal_rowU, scal_rowRat, scal_rowStep, Option.some.injEq, AV.tup.injEq, AV.agg.injEq, List.cons.injEq, DV.list.injEq, List.isEmpty_nil, Nat.le_refl, AV.d.injEq, DV.int.injEq, DV.bool.injEq, ↓reduceIte, Nat.reduceEqDiff, Nat.reduceAdd, Nat.reduceBEq, List.length_cons, List.length_nil, List.replicate_succ, List.replicate_zero, List.nil_append, List.cons_append, List.append_nil, List.foldl_cons, List.foldl_nil, List.map_cons, List.map_nil, List.all_cons, List.all_nil, List.set_cons_zero, List.set_cons_succ, List.getD_cons_zero, List.getD_cons_succ, List.drop_zero, List.drop_succ_cons, List.take_succ_cons, List.take_zero, List.flatten_cons, List.flatten_nil, Bool.true_and, Bool.and_true, Bool.not_true, Bool.not_false, true_and, and_true, true_or, or_true, Option.bind_some, Option.map_some, decide_true, decide_false, beq_self_eq_true, true_implies, false_implies, implies_true, not_true_eq_false, not_false_eq_true, and_self, Bool.and_false, Bool.false_and, Nat.reduceLT, Nat.reduceLeDiff, List.reverse_cons, List.reverse_nil, Nat.zero_add, Nat.add_zero, Bool.false_eq_true, List.getElem?_cons_zero, seeSt1, MemG.row, StepG.cells, F1, G1, F2, G2, F3, G3, F4, G4, F5, G5, F6, G6, F7, G7, at_true, at_done, hm, hqq, at_SeesM, at_DoX, at_rat_Cmp, at_rat_Right, MemG.av, StepG.av7, loadO_vec, storeO_vec, e1, e2]
    refine ⟨fun _ => ⟨⟨by omega, by omega⟩, ⟨by omega, by omega⟩, wfM hg (by omega), wfM hg (by omega), ?_⟩, fun c => absurd (by omega) c⟩
    rw [wrap_succ hil (by have : maxLen = 9223372036854775807 := rfl; omega)]
    exact FamNext.mk [0, 1] (i + 1) (by simp) (by simp) (by simp only [State.can, AV.can, AV.canL, HO.can, canRows, idx, get_hit, get_next, Heap.at, Nat.reduceBEq, ↓reduceIte, Nat.reduceEqDiff, Option.getD_some, Option.map_some, List.map_cons, List.map_nil, List.getD_cons_zero, List.getD_cons_succ, seeSt1, MemG.row, StepG.cells]) (by show i + 1 ≤ _; omega) (by show _ - (i + 1) < _ - i; omega)
  · have hie : i = S.length := by omega
    subst hie
    refine (Nat.lt_or_ge 0 S.length).elim (fun h0 => ?_) (fun h0 => ?_)
    case' refine_1 =>
      have hla := hlast h0
      have ew : IntKind.i64.wrap ((S.length : Int) - 1) = ((S.length - 1 : Nat) : Int) := by rw [wrap_id (by omega) (by omega)]; omega
      simp (maxSteps := 3000000) only [↓vck_skip, ↓vck_ret, ↓vck_exit, ↓vck_region, ↓vck_nilq, ↓nilTo_to, nilG_d, nilG_r, ↓vck_seq, ↓vck_cond, ↓vck_block, ↓vck_loop, ↓vckTo_to, ↓thenK_n, ↓thenK_x, ↓thenK_r, ↓blockK_n, ↓blockK_x, ↓blockK_o, ↓blockK_r, ↓regK_to, ↓retK_r, ↓retK_n, ↓loopV_n, ↓loopV_x, ↓loopV_r, ↓famK_n, ↓famK_x, ↓famK_r, ↓boolK_true, ↓boolK_false, ↓boolK_not, ↓boolK_dec, ↓boolK_and, nf_mk, RGk_end_f, RGk_end_t, RGk_op, RGk_guard, opK_to, evN, evCallN, grow_mk, feet_f, feet_t, foot_mk, stepK_mk, stepK_v, stepK_no, guardG_t, guardG_f, guardG_no, condG_b, evT, Opd.ev, get_hit, get_next, app_to, app_no, app_up, app_skip, app_skipn, know_mk, knowO_t, knowO_c, envFrom, reserve, keeps, LOp.isNew, State.prune, cellsQ, cellsT, AV.leaf, Heap.at, evLoad_ptr, evLoad_dptr, loadO_vec, loadO_dvec1, stepK_load_map, idx_I, idx_U, idx_Rat, idx_Loc, idx_Act, idx_Step, idx_Stamp, stepK_idx_ref, evStore_ptr, storeO_vec, stepK_store_map1, loadDT_f, rowI, rowU, RatG.row, LocG.row, ActG.row, StepG.row, StampG.row, ActG.av, ActG.eta, RatG.eta, LocG.eta, beq_true, beq_false, loadDT_t, set_rowI, set_rowU, app_rowI, app_rowU, rep_rowI, rep_rowU, set_rowRat, app_rowRat, rep_rowRat, set_rowLoc, app_rowLoc, app_rowAct, app_rowStep, List.length_set, List.length_replicate, Int.toNat_natCast, Int.reduceToNat, evLen, evAppend, srcOf, Src.all, Src.len, Src.leaf, Src.leafN, evApart, aliveQ, joinV, drows_rep1, drows_rep2, drows_rep3, drows_rep4, drows_rep5, drows_rep6, drows_rep7, drows_rep8, mkVec, drows, evMk, List.length_map, take_mapF, drop_mapF, List.take_length, List.take_left, List.length_append, Nat.le_add_right, ite_self, List.take_of_length_le, evSlice, intOr, intOpd, Option.isSome_none, Option.isSome_some, Nat.sub_zero, loadQ, loadT, evBin, evUn, binT, binQ, chk, apartF, List.contains_cons, List.contains_nil, Bool.or_false, Bool.false_or, Bool.and_self, resQ, resV, resT, pickV, evCallT, evTake, evCall, fnOf, viewsT, isD, HO.drow, viewT, evInt2, evEq, eqV, eqK, eqC1, buildQ, buildT, buildRQ, buildRT, lens_I, lensA_I, lens_U, lensA_U, lens_Rat, lensA_Rat, lens_Loc, lensA_Loc, lens_Act, lensA_Act, lens_Step, lensA_Step, lens_Stamp, lensA_Stamp, List.mem_cons, List.not_mem_nil, or_false, forall_eq, putRow, dcells, get_nil, RetS, RetF, RetD, AV.frz, AV.frzL, AV.freshP, AV.freshL, DV.less, scal_int, scal_bool, scal_nil, scal_rowI, scal_rowU, scal_rowRat, scal_rowStep, Option.some.injEq, AV.tup.injEq, AV.agg.injEq, List.cons.injEq, DV.list.injEq, List.isEmpty_nil, Nat.le_refl, AV.d.injEq, DV.int.injEq, DV.bool.injEq, ↓reduceIte, Nat.reduceEqDiff, Nat.reduceAdd, Nat.reduceBEq, List.length_cons, List.length_nil, List.replicate_succ, List.replicate_zero, List.nil_append, List.cons_append, List.append_nil, List.foldl_cons, List.foldl_nil, List.map_cons, List.map_nil, List.all_cons, List.all_nil, List.set_cons_zero, List.set_cons_succ, List.getD_cons_zero, List.getD_cons_succ, List.drop_zero, List.drop_succ_cons, List.take_succ_cons, List.take_zero, List.flatten_cons, List.flatten_nil, Bool.true_and, Bool.and_true, Bool.not_true, Bool.not_false, true_and, and_true, true_or, or_true, Option.bind_some, Option.map_some, decide_true, decide_false, beq_self_eq_true, true_implies, false_implies, implies_true, not_true_eq_false, not_false_eq_true, and_self, Bool.and_false, Bool.false_and, Nat.reduceLT, Nat.reduceLeDiff, List.reverse_cons, List.reverse_nil, Nat.zero_add, Nat.add_zero, Bool.false_eq_true, List.getElem?_cons_zero, seeSt1, MemG.row, StepG.cells, F1, G1, F2, G2, F3, G3, F4, G4, F5, G5, F6, G6, F7, G7, at_true, at_done, hm, hqq, at_SeesM, at_DoM, at_rat_Cmp, at_rat_Right, at_LastM, hla, lastAV, ew, MemG.av, StepG.av7, loadO_vec, storeO_vec]
      refine ⟨fun c => absurd c (by omega), fun _ => ⟨fun _ => ⟨hpasts, ⟨by omega, by omega⟩, fun hk => ⟨wfM hg (by omega), ?_⟩⟩, fun c => absurd (by omega) c⟩⟩
    case' refine_2 =>
      simp (maxSteps := 3000000) only [↓vck_skip, ↓vck_ret, ↓vck_exit, ↓vck_region, ↓vck_nilq, ↓nilTo_to, nilG_d, nilG_r, ↓vck_seq, ↓vck_cond, ↓vck_block, ↓vck_loop, ↓vckTo_to, ↓thenK_n, ↓thenK_x, ↓thenK_r, ↓blockK_n, ↓blockK_x, ↓blockK_o, ↓blockK_r, ↓regK_to, ↓retK_r, ↓retK_n, ↓loopV_n, ↓loopV_x, ↓loopV_r, ↓famK_n, ↓famK_x, ↓famK_r, ↓boolK_true, ↓boolK_false, ↓boolK_not, ↓boolK_dec, ↓boolK_and, nf_mk, RGk_end_f, RGk_end_t, RGk_op, RGk_guard, opK_to, evN, evCallN, grow_mk, feet_f, feet_t, foot_mk, stepK_mk, stepK_v, stepK_no, guardG_t, guardG_f, guardG_no, condG_b, evT, Opd.ev, get_hit, get_next, app_to, app_no, app_up, app_skip, app_skipn, know_mk, knowO_t, knowO_c, envFrom, reserve, keeps, LOp.isNew, State.prune, cellsQ, cellsT, AV.leaf, Heap.at, evLoad_ptr, evLoad_dptr, loadO_vec, loadO_dvec1, stepK_load_map, idx_I, idx_U, idx_Rat, idx_Loc, idx_Act, idx_Step, idx_Stamp, stepK_idx_ref, evStore_ptr, storeO_vec, stepK_store_map1, loadDT_f, rowI, rowU, RatG.row, LocG.row, ActG.row, StepG.row, StampG.row, ActG.av, ActG.eta, RatG.eta, LocG.eta, beq_true, beq_false, loadDT_t, set_rowI, set_rowU, app_rowI, app_rowU, rep_rowI, rep_rowU, set_rowRat, app_rowRat, rep_rowRat, set_rowLoc, app_rowLoc, app_rowAct, app_rowStep, List.length_set, List.length_replicate, Int.toNat_natCast, Int.reduceToNat, evLen, evAppend, srcOf, Src.all, Src.len, Src.leaf, Src.leafN, evApart, aliveQ, joinV, drows_rep1, drows_rep2, drows_rep3, drows_rep4, drows_rep5, drows_rep6, drows_rep7, drows_rep8, mkVec, drows, evMk, List.length_map, take_mapF, drop_mapF, List.take_length, List.take_left, List.length_append, Nat.le_add_right, ite_self, List.take_of_length_le, evSlice, intOr, intOpd, Option.isSome_none, Option.isSome_some, Nat.sub_zero, loadQ, loadT, evBin, evUn, binT, binQ, chk, apartF, List.contains_cons, List.contains_nil, Bool.or_false, Bool.false_or, Bool.and_self, resQ, resV, resT, pickV, evCallT, evTake, evCall, fnOf, viewsT, isD, HO.drow, viewT, evInt2, evEq, eqV, eqK, eqC1, buildQ, buildT, buildRQ, buildRT, lens_I, lensA_I, lens_U, lensA_U, lens_Rat, lensA_Rat, lens_Loc, lensA_Loc, lens_Act, lensA_Act, lens_Step, lensA_Step, lens_Stamp, lensA_Stamp, List.mem_cons, List.not_mem_nil, or_false, forall_eq, putRow, dcells, get_nil, RetS, RetF, RetD, AV.frz, AV.frzL, AV.freshP, AV.freshL, DV.less, scal_int, scal_bool, scal_nil, scal_rowI, scal_rowU, scal_rowRat, scal_rowStep, Option.some.injEq, AV.tup.injEq, AV.agg.injEq, List.cons.injEq, DV.list.injEq, List.isEmpty_nil, Nat.le_refl, AV.d.injEq, DV.int.injEq, DV.bool.injEq, ↓reduceIte, Nat.reduceEqDiff, Nat.reduceAdd, Nat.reduceBEq, List.length_cons, List.length_nil, List.replicate_succ, List.replicate_zero, List.nil_append, List.cons_append, List.append_nil, List.foldl_cons, List.foldl_nil, List.map_cons, List.map_nil, List.all_cons, List.all_nil, List.set_cons_zero, List.set_cons_succ, List.getD_cons_zero, List.getD_cons_succ, List.drop_zero, List.drop_succ_cons, List.take_succ_cons, List.take_zero, List.flatten_cons, List.flatten_nil, Bool.true_and, Bool.and_true, Bool.not_true, Bool.not_false, true_and, and_true, true_or, or_true, Option.bind_some, Option.map_some, decide_true, decide_false, beq_self_eq_true, true_implies, false_implies, implies_true, not_true_eq_false, not_false_eq_true, and_self, Bool.and_false, Bool.false_and, Nat.reduceLT, Nat.reduceLeDiff, List.reverse_cons, List.reverse_nil, Nat.zero_add, Nat.add_zero, Bool.false_eq_true, List.getElem?_cons_zero, seeSt1, MemG.row, StepG.cells, F1, G1, F2, G2, F3, G3, F4, G4, F5, G5, F6, G6, F7, G7, at_true, at_done, hm, hqq, at_SeesM, at_DoM, at_rat_Cmp, at_rat_Right, at_LastM, MemG.av, StepG.av7, loadO_vec, storeO_vec]
      refine ⟨fun c => absurd c (by omega), fun _ => ⟨fun c => absurd c (by omega), fun _ hk => ⟨wfM hg (by omega), ?_⟩⟩⟩
    all_goals (
      refine Loop.fam [7, 11, 21, 22, 23] (fun x : Nat => seeSt3 S z m (doErr m.plain z) x ((S.take x).any (thereB z))) (fun i => i ≤ S.length) (fun i => S.length - i) 0 [0, 1] (by simp) (by simp) (by simp only [State.can, AV.can, AV.canL, HO.can, canRows, idx, get_hit, get_next, Heap.at, Nat.reduceBEq, ↓reduceIte, Nat.reduceEqDiff, Option.getD_some, Option.map_some, List.map_cons, List.map_nil, List.getD_cons_zero, List.getD_cons_succ, seeSt3, MemG.row, StepG.cells]; rfl) (Nat.zero_le _) ?_
      intro i hi
      have hi : i ≤ S.length := hi
      simp (maxSteps := 3000000) only [↓vck_skip, ↓vck_ret, ↓vck_exit, ↓vck_region, ↓vck_nilq, ↓nilTo_to, nilG_d, nilG_r, ↓vck_seq, ↓vck_cond, ↓vck_block, ↓vck_loop, ↓vckTo_to, ↓thenK_n, ↓thenK_x, ↓thenK_r, ↓blockK_n, ↓blockK_x, ↓blockK_o, ↓blockK_r, ↓regK_to, ↓retK_r, ↓retK_n, ↓loopV_n, ↓loopV_x, ↓loopV_r, ↓famK_n, ↓famK_x, ↓famK_r, ↓boolK_true, ↓boolK_false, ↓boolK_not, ↓boolK_dec, ↓boolK_and, nf_mk, RGk_end_f, RGk_end_t, RGk_op, RGk_guard, opK_to, evN, evCallN, grow_mk, feet_f, feet_t, foot_mk, stepK_mk, stepK_v, stepK_no, guardG_t, guardG_f, guardG_no, condG_b, evT, Opd.ev, get_hit, get_next, app_to, app_no, app_up, app_skip, app_skipn, know_mk, knowO_t, knowO_c, envFrom, reserve, keeps, LOp.isNew, State.prune, cellsQ, cellsT, AV.leaf, Heap.at, evLoad_ptr, evLoad_dptr, loadO_vec, loadO_dvec1, stepK_load_map, idx_I, idx_U, idx_Rat, idx_Loc, idx_Act, idx_Step, idx_Stamp, stepK_idx_ref, evStore_ptr, storeO_vec, stepK_store_map1, loadDT_f, rowI, rowU, RatG.row, LocG.row, ActG.row, StepG.row, StampG.row, ActG.av, ActG.eta, RatG.eta, LocG.eta, beq_true, beq_false, loadDT_t, set_rowI, set_rowU, app_rowI, app_rowU, rep_rowI, rep_rowU, set_rowRat, app_rowRat, rep_rowRat, set_rowLoc, app_rowLoc, app_rowAct, app_rowStep, List.length_set, List.length_replicate, Int.toNat_natCast, Int.reduceToNat, evLen, evAppend, srcOf, Src.all, Src.len, Src.leaf, Src.leafN, evApart, aliveQ, joinV, drows_rep1, drows_rep2, drows_rep3, drows_rep4, drows_rep5, drows_rep6, drows_rep7, drows_rep8, mkVec, drows, evMk, List.length_map, take_mapF, drop_mapF, List.take_length, List.take_left, List.length_append, Nat.le_add_right, ite_self, List.take_of_length_le, evSlice, intOr, intOpd, Option.isSome_none, Option.isSome_some, Nat.sub_zero, loadQ, loadT, evBin, evUn, binT, binQ, chk, apartF, List.contains_cons, List.contains_nil, Bool.or_false, Bool.false_or, Bool.and_self, resQ, resV, resT, pickV, evCallT, evTake, evCall, fnOf, viewsT, isD, HO.drow, viewT, evInt2, evEq, eqV, eqK, eqC1, buildQ, buildT, buildRQ, buildRT, lens_I, lensA_I, lens_U, lensA_U, lens_Rat, lensA_Rat, lens_Loc, lensA_Loc, lens_Act, lensA_Act, lens_Step, lensA_Step, lens_Stamp, lensA_Stamp, List.mem_cons, List.not_mem_nil, or_false, forall_eq, putRow, dcells, get_nil, RetS, RetF, RetD, AV.frz, AV.frzL, AV.freshP, AV.freshL, DV.less, scal_int, scal_bool, scal_nil, scal_rowI, scal_rowU, scal_rowRat, scal_rowStep, Option.some.injEq, AV.tup.injEq, AV.agg.injEq, List.cons.injEq, DV.list.injEq, List.isEmpty_nil, Nat.le_refl, AV.d.injEq, DV.int.injEq, DV.bool.injEq, ↓reduceIte, Nat.reduceEqDiff, Nat.reduceAdd, Nat.reduceBEq, List.length_cons, List.length_nil, List.replicate_succ, List.replicate_zero, List.nil_append, List.cons_append, List.append_nil, List.foldl_cons, List.foldl_nil, List.map_cons, List.map_nil, List.all_cons, List.all_nil, List.set_cons_zero, List.set_cons_succ, List.getD_cons_zero, List.getD_cons_succ, List.drop_zero, List.drop_succ_cons, List.take_succ_cons, List.take_zero, List.flatten_cons, List.flatten_nil, Bool.true_and, Bool.and_true, Bool.not_true, Bool.not_false, true_and, and_true, true_or, or_true, Option.bind_some, Option.map_some, decide_true, decide_false, beq_self_eq_true, true_implies, false_implies, implies_true, not_true_eq_false, not_false_eq_true, and_self, Bool.and_false, Bool.false_and, Nat.reduceLT, Nat.reduceLeDiff, List.reverse_cons, List.reverse_nil, Nat.zero_add, Nat.add_zero, Bool.false_eq_true, List.getElem?_cons_zero, seeSt3, MemG.row, StepG.cells, F1, G1, F2, G2, F3, G3, F4, G4, F5, G5, F6, G6, F7, G7, at_true, at_done, hm, hqq, at_SeesM, at_DoM, at_rat_Cmp, at_rat_Right, at_LastM, MemG.av, StepG.av7, loadO_vec, storeO_vec]
      have tk : i < S.length → (S.take (i + 1)).any (thereB z) = ((S.take i).any (thereB z) || thereB z (S.getD i default)) := fun hlt => by
        rw [List.take_add_one, List.getElem?_eq_getElem hlt, List.any_append, getD_lt hlt]; simp
      have wi : i < S.length → IntKind.i64.wrap ((i : Int) + 1) = ((i + 1 : Nat) : Int) := fun hlt => wrap_succ hlt (by have : maxLen = 9223372036854775807 := rfl; omega)
      refine ⟨fun c => ⟨fun b1 => ?_, fun b1 => ⟨⟨by omega, by omega⟩, fun b2 => ⟨fun b3 => ⟨⟨by omega, by omega⟩, ?_⟩, fun b3 => ?_⟩, fun b2 => ?_⟩⟩, fun c he => ?_⟩
      · have hlt : i < S.length := by omega
        have e := tk hlt
        rw [b1, Bool.true_or] at e
        rw [wi hlt]
        exact FamNext.mk [0, 1] (i + 1) (by simp) (by simp) (by simp only [State.can, AV.can, AV.canL, HO.can, canRows, idx, get_hit, get_next, Heap.at, Nat.reduceBEq, ↓reduceIte, Nat.reduceEqDiff, Option.getD_some, Option.map_some, List.map_cons, List.map_nil, List.getD_cons_zero, List.getD_cons_succ, e]) (by show i + 1 ≤ _; omega) (by show _ - (i + 1) < _ - i; omega)
      · have hlt : i < S.length := by omega
        have e := tk hlt
        have et : thereB z (S.getD i default) = decide ((S.getD i default).val = z.act.old) := by
          unfold thereB cmpQ' rightQ; rw [b2, b3]; simp
        rw [b1, Bool.false_or, et] at e
        rw [wi hlt]
        exact FamNext.mk [0, 1] (i + 1) (by simp) (by simp) (by simp only [State.can, AV.can, AV.canL, HO.can, canRows, idx, get_hit, get_next, Heap.at, Nat.reduceBEq, ↓reduceIte, Nat.reduceEqDiff, Option.getD_some, Option.map_some, List.map_cons, List.map_nil, List.getD_cons_zero, List.getD_cons_succ, e]) (by show i + 1 ≤ _; omega) (by show _ - (i + 1) < _ - i; omega)
      · have hlt : i < S.length := by omega
        have e := tk hlt
        have et : thereB z (S.getD i default) = false := by
          unfold thereB rightQ; rw [b3]; simp
        rw [b1, Bool.false_or, et] at e
        rw [wi hlt]
        exact FamNext.mk [0, 1] (i + 1) (by simp) (by simp) (by simp only [State.can, AV.can, AV.canL, HO.can, canRows, idx, get_hit, get_next, Heap.at, Nat.reduceBEq, ↓reduceIte, Nat.reduceEqDiff, Option.getD_some, Option.map_some, List.map_cons, List.map_nil, List.getD_cons_zero, List.getD_cons_succ, e]) (by show i + 1 ≤ _; omega) (by show _ - (i + 1) < _ - i; omega)
      · have hlt : i < S.length := by omega
        have e := tk hlt
        have et : thereB z (S.getD i default) = false := by
          unfold thereB cmpQ'; rw [decide_eq_false b2]; rfl
        rw [b1, Bool.false_or, et] at e
        rw [wi hlt]
        exact FamNext.mk [0, 1] (i + 1) (by simp) (by simp) (by simp only [State.can, AV.can, AV.canL, HO.can, canRows, idx, get_hit, get_next, Heap.at, Nat.reduceBEq, ↓reduceIte, Nat.reduceEqDiff, Option.getD_some, Option.map_some, List.map_cons, List.map_nil, List.getD_cons_zero, List.getD_cons_succ, e]) (by show i + 1 ≤ _; omega) (by show _ - (i + 1) < _ - i; omega)
      · rw [List.take_of_length_le (by omega)]
        exact hread he (by assumption))
end Go.Ago
