/- hist.copied: a memory in memory of its own. Conditions: none. -/
import Derived.Test.YtoicaaidleddfaaAgoP5
set_option maxRecDepth 100000
set_option linter.unusedSimpArgs false
set_option linter.unusedVariables false
namespace Go.Ago
/-- The first 'i' lists are of the memory's own now: nothing is known behind their ends. -/
def cpL {α : Type} (L : List (List α × Bool)) (i : Nat) : List (List α × Bool) := (L.take i).map (fun x => (x.1, false)) ++ L.drop i
theorem cpL_len {α : Type} (L : List (List α × Bool)) (i : Nat) : (cpL L i).length = L.length := by unfold cpL; simp; omega
theorem cpL_get {α : Type} {L : List (List α × Bool)} {i : Nat} {d : List α × Bool} (h : i < L.length) : (cpL L i).getD i d = L.getD i d := by
  unfold cpL
  rw [List.getD_eq_getElem?_getD, List.getElem?_append_right (by simp; omega), List.getElem?_drop, List.getD_eq_getElem?_getD]
  congr 2
  simp; omega
theorem cpL_set {α : Type} {L : List (List α × Bool)} {i : Nat} {d : List α × Bool} (h : i < L.length) : (cpL L i).set i ((L.getD i d).1, false) = cpL L (i + 1) := by
  unfold cpL
  rw [List.set_append_right _ _ (by simp; omega), List.drop_eq_getElem_cons h]
  have : i - ((L.take i).map (fun x => (x.1, false))).length = 0 := by simp; omega
  rw [this, List.set_cons_zero, List.take_add_one, List.getElem?_eq_getElem h, List.getD_eq_getElem?_getD, List.getElem?_eq_getElem h, List.map_append]
  simp
/-- A list of lists, as cells. -/
def rowsL {α : Type} (f : α → List DV) (L : List (List α × Bool)) : List (List AV) := L.map fun x => [.d (.list (x.1.map f) x.2)]
theorem rowsL_len {α : Type} (f : α → List DV) (L : List (List α × Bool)) : (rowsL f L).length = L.length := by simp [rowsL]
theorem rowsL_get {α : Type} {f : α → List DV} {L : List (List α × Bool)} {i : Nat} {d : List α × Bool} (h : i < L.length) : (rowsL f L).getD i [] = [.d (.list ((L.getD i d).1.map f) (L.getD i d).2)] := by
  unfold rowsL
  rw [List.getD_eq_getElem?_getD, List.getElem?_map, List.getElem?_eq_getElem h, List.getD_eq_getElem?_getD, List.getElem?_eq_getElem h]; rfl
theorem rowsL_cp {α : Type} {f : α → List DV} {L : List (List α × Bool)} {i : Nat} {d : List α × Bool} (h : i < L.length) : (rowsL f (cpL L i)).getD i [] = [.d (.list ((L.getD i d).1.map f) (L.getD i d).2)] := by
  rw [rowsL_get (d := d) (by rw [cpL_len]; exact h), cpL_get h]
theorem rowsL_set {α : Type} {f : α → List DV} {L : List (List α × Bool)} {i : Nat} {d : List α × Bool} (h : i < L.length) : (rowsL f (cpL L i)).set i [.d (.list ((L.getD i d).1.map f) false)] = rowsL f (cpL L (i + 1)) := by
  rw [← cpL_set (d := d) h]
  unfold rowsL
  rw [List.map_set]
theorem rowsL_over {α : Type} {f : α → List DV} {L : List (List α × Bool)} {i : Nat} {x : List AV} (h : i < L.length) : (rowsL f (cpL L i)).set i x = (rowsL f (cpL L (i + 1))).set i x := by
  rw [← rowsL_set (d := L[i]) h, List.set_set]
theorem iceL_data (id sz0 : Nat) (rows : List (List DV)) (x : DV) : AV.iceL id sz0 rows [.d x] = [.d x] := by simp [AV.iceL, AV.ice]
theorem iceRows_rowsL {α : Type} {f : α → List DV} (id sz0 : Nat) (rows : List (List DV)) (L : List (List α × Bool)) : iceRows id sz0 rows (rowsL f L) = rowsL f L := by
  unfold iceRows rowsL
  rw [List.map_map]
  exact List.map_congr_left fun x _ => iceL_data _ _ _ _
theorem iceRows_set (id sz0 : Nat) (rows : List (List DV)) (R : List (List AV)) (i : Nat) (x : List AV) : iceRows id sz0 rows (R.set i x) = (iceRows id sz0 rows R).set i (AV.iceL id sz0 rows x) := by
  unfold iceRows; rw [List.map_set]
theorem drows_rowsL {α : Type} {f : α → List DV} (L : List (List α × Bool)) : drows (rowsL f L) = some (L.map fun x => [.list (x.1.map f) x.2]) := by
  have : rowsL f L = (L.map fun x => [DV.list (x.1.map f) x.2]).map (·.map .d) := by unfold rowsL; rw [List.map_map]; rfl
  rw [this, drows_d]
theorem canL_data (ρ : List Nat) (x : DV) : AV.canL ρ [.d x] = some [.d x] := by simp [AV.canL, AV.can]
theorem canRows_rowsL {α : Type} {f : α → List DV} (ρ : List Nat) (L : List (List α × Bool)) : canRows ρ (rowsL f L) = some (rowsL f L) := by
  unfold rowsL
  induction L with
  | nil => rfl
  | cons x L ih => simp [canRows, canL_data, ih]
theorem canRows_set (ρ : List Nat) : ∀ (R R' : List (List AV)) (i : Nat) (x x' : List AV), canRows ρ R = some R' → AV.canL ρ x = some x' → canRows ρ (R.set i x) = some (R'.set i x') := by
  intro R
  induction R with
  | nil => intro R' i x x' h _; simp [canRows] at h; subst h; simp [canRows]
  | cons r R ih =>
    intro R' i x x' h hx
    simp only [canRows] at h
    split at h
    · rename_i y ys h1 h2
      simp only [Option.some.injEq] at h; subst h
      cases i with
      | zero => simp [canRows, hx, h2]
      | succ i => simp [canRows, h1, ih ys i x x' h2 hx]
    · cases h
/-- Which list of stamps and which front are objects of their own afterwards. -/
structure Hole where
  p : Nat
  f : Nat
structure CpOk (h : Hole) (m : MemG) : Prop where
  locs : roomy m.locs.length 16
  vals : roomy m.vals.length 8
  past : roomy m.past.length 24
  marks : roomy m.marks.length 24
  fronts : roomy m.fronts.length 24
  pasts : ∀ r ∈ m.past, roomy r.1.length 24
  markss : ∀ r ∈ m.marks, roomy r.1.length 16
  frontss : ∀ r ∈ m.fronts, roomy r.1.length 16
  p : h.p < m.past.length
  f : h.f < m.fronts.length
def ef_copied (h : Hole) : EfN where
  A := MemG
  args m := [m.av]
  ok m := CpOk h m
  val m := .agg [.ref 0 2 0 m.locs.length true, .ref 2 1 0 m.past.length true, .ref 1 1 0 m.vals.length true, .ref 3 1 0 m.marks.length true, .ref 4 1 0 m.fronts.length true]
  news m := [.dvec 2 (m.locs.map LocG.row), .dvec 1 (m.vals.map rowI), .vec 1 ((rowsL StampG.row (cpL m.past m.past.length)).set h.p [.ref 5 3 0 (m.past.getD h.p default).1.length true]), .vec 1 (rowsL RatG.row (cpL m.marks m.marks.length)),
    .vec 1 ((rowsL RatG.row (cpL m.fronts m.fronts.length)).set h.f [.ref 6 2 0 (m.fronts.getD h.f default).1.length true]), .dvec 3 ((m.past.getD h.p default).1.map StampG.row), .dvec 2 ((m.fronts.getD h.f default).1.map RatG.row)]
set_option maxHeartbeats 4000000 in
theorem eff_hist_copied {T : Tab} {n1 n2 n3 n4 n5 n6 : Nat} (h : Hole) (k1 : Knows T n1 (cloneS 1 8)) (k2 : Knows T n2 (cloneS 2 16)) (k3 : Knows T n3 (cloneS 2 16)) (k4 : Knows T n4 (cloneS 1 24)) (k5 : Knows T n5 (cloneS 1 24)) (k6 : Knows T n6 (cloneS 3 24)) :
    (ef_copied h).Body T V_hist_copied (L_hist_copied n1 n2 n3 n4 n5 n6) R_hist_copied where
  ren m ρ := by simp [ef_copied, MemG.av, AV.ren, AV.renL]
  body := by
    have F1 := k1.F; have G1 := k1.G; have F2 := k2.F; have G2 := k2.G; have F3 := k3.F; have G3 := k3.G; have F4 := k4.F; have G4 := k4.G; have F5 := k5.F; have G5 := k5.G; have F6 := k6.F; have G6 := k6.G
    rintro ⟨a1, a2, a3, a4, a5, a6, a7, a8, a9, a10⟩ ⟨c1, c2, c3, c4, c5, c6, c7, c8, hp, hf⟩
    simp only at c1 c2 c3 c4 c5 c6 c7 c8 hp hf
    have m1 : a3.length ≤ 2 ^ 40 := c3.1
    have m2 : a7.length ≤ 2 ^ 40 := c4.1
    have m3 : a9.length ≤ 2 ^ 40 := c5.1
    unfold V_hist_copied L_hist_copied R_hist_copied
    simp only [↓vck_skip, ↓vck_ret, ↓vck_exit, ↓vck_region, ↓vck_nilq, ↓nilTo_to, nilG_d, nilG_r, ↓vck_seq, ↓vck_cond, ↓vck_block, ↓vck_loop, ↓vckTo_to, ↓thenK_n, ↓thenK_x, ↓thenK_r, ↓blockK_n, ↓blockK_x, ↓blockK_o, ↓blockK_r, ↓regK_to, ↓retK_r, ↓retK_n, ↓loopV_n, ↓loopV_x, ↓loopV_r, ↓famK_n, ↓famK_x, ↓famK_r, ↓boolK_true, ↓boolK_false, ↓boolK_not, ↓boolK_dec, ↓boolK_and, nf_mk, RGk_end_f, RGk_end_t, RGk_op, RGk_guard, opK_to, evN, evCallN, grow_mk, feet_f, feet_t, foot_mk, stepK_mk, stepK_v, stepK_no, guardG_t, guardG_f, guardG_no, condG_b, evT, Opd.ev, get_hit, get_next, app_to, app_no, app_up, app_skip, app_skipn, know_mk, knowO_t, knowO_c, envFrom, reserve, keeps, LOp.isNew, State.prune, cellsQ, cellsT, AV.leaf, Heap.at, evLoad_ptr, evLoad_dptr, loadO_vec, loadO_dvec1, stepK_load_map, idx_I, idx_U, idx_Rat, idx_Loc, idx_Act, idx_Step, idx_Stamp, stepK_idx_ref, evStore_ptr, storeO_vec, stepK_store_map1, loadDT_f, rowI, rowU, RatG.row, LocG.row, ActG.row, StepG.row, StampG.row, ActG.av, ActG.eta, RatG.eta, LocG.eta, beq_true, beq_false, loadDT_t, set_rowI, set_rowU, app_rowI, app_rowU, rep_rowI, rep_rowU, set_rowRat, app_rowRat, rep_rowRat, set_rowLoc, app_rowLoc, app_rowAct, app_rowStep, List.length_set, List.length_replicate, Int.toNat_natCast, Int.reduceToNat, evLen, evAppend, srcOf, Src.all, Src.len, Src.leaf, Src.leafN, evApart, aliveQ, joinV, drows_rep1, drows_rep2, drows_rep3, drows_rep4, drows_rep5, drows_rep6, drows_rep7, drows_rep8, mkVec, drows, evMk, List.length_map, take_mapF, drop_mapF, List.take_length, List.take_left, List.length_append, Nat.le_add_right, ite_self, List.take_of_length_le, evSlice, intOr, intOpd, Option.isSome_none, Option.isSome_some, Nat.sub_zero, loadQ, loadT, evBin, evUn, binT, binQ, chk, apartF, List.contains_cons, List.contains_nil, Bool.or_false, Bool.false_or, Bool.and_self, resQ, resV, resT, pickV, evCallT, evTake, evCall, fnOf, viewsT, isD, HO.drow, viewT, evInt2, evEq, eqV, eqK, eqC1, buildQ, buildT, buildRQ, buildRT, lens_I, lensA_I, lens_U, lensA_U, lens_Rat, lensA_Rat, lens_Loc, lensA_Loc, lens_Act, lensA_Act, lens_Step, lensA_Step, lens_Stamp, lensA_Stamp, List.mem_cons, List.not_mem_nil, or_false, forall_eq, putRow, dcells, get_nil, RetS, RetF, RetD, AV.frz, AV.frzL, AV.freshP, AV.freshL, DV.less, scal_int, scal_bool, scal_nil, scal_rowI, scal_rowU, scal_rowRat, scal_rowStep, Option.some.injEq, AV.tup.injEq, AV.agg.injEq, List.cons.injEq, DV.list.injEq, List.isEmpty_nil, Nat.le_refl, AV.d.injEq, DV.int.injEq, DV.bool.injEq, ↓reduceIte, Nat.reduceEqDiff, Nat.reduceAdd, Nat.reduceBEq, List.length_cons, List.length_nil, List.replicate_succ, List.replicate_zero, List.nil_append, List.cons_append, List.append_nil, List.foldl_cons, List.foldl_nil, List.map_cons, List.map_nil, List.all_cons, List.all_nil, List.set_cons_zero, List.set_cons_succ, List.getD_cons_zero, List.getD_cons_succ, List.drop_zero, List.drop_succ_cons, List.take_succ_cons, List.take_zero, List.flatten_cons, List.flatten_nil, Bool.true_and, Bool.and_true, Bool.not_true, Bool.not_false, true_and, and_true, true_or, or_true, Option.bind_some, Option.map_some, decide_true, decide_false, beq_self_eq_true, true_implies, false_implies, implies_true, not_true_eq_false, not_false_eq_true, and_self, Bool.and_false, Bool.false_and, Nat.reduceLT, Nat.reduceLeDiff, List.reverse_cons, List.reverse_nil, Nat.zero_add, Nat.add_zero, Bool.false_eq_true, List.getElem?_cons_zero, ef_copied, MemG.av, F1, G1, F2, G2, F3, G3, F4, G4, F5, G5, F6, G6, at_clone]
    refine ⟨c1, c2, ⟨rows_len (f := rowStamps) (fun _ => rfl) _, c3⟩, ⟨rows_len (f := rowRats) (fun _ => rfl) _, c4⟩, ⟨rows_len (f := rowRats) (fun _ => rfl) _, c5⟩, ?_⟩
    refine Loop.thaw 4 (Nat.zero_le _) ?_
    have e3 : (a3.map rowStamps).map (·.map AV.d) = rowsL StampG.row (cpL a3 0) := by unfold rowsL cpL rowStamps; rw [List.map_map]; simp
    have r3 : ∀ i, i < a3.length → roomy (a3.getD i default).1.length 24 := fun i hi => c6 _ (by rw [getD_lt hi]; exact List.getElem_mem hi)
    refine Loop.fam [1, 28, 29, 2] (fun i : Nat => if i ≤ h.p then ⟨[(1, .ptr 0 5 0 0), (28, .d (.int .i64 a3.length)), (29, .d (.int .i64 i)), (2, .ptr 1 5 0 0)], [.vec 5 [[.ref 2 2 0 a1.length true, .ref 4 1 0 a3.length true, .ref 3 1 0 a5.length true, .ref 5 1 0 a7.length true, .ref 6 1 0 a9.length true]], .vec 5 [[.d (.list [] true), .d (.list [] true), .d (.list [] true), .d (.list [] true), .d (.list [] true)]], .dvec 2 (a1.map LocG.row), .dvec 1 (a5.map rowI), .vec 1 (rowsL StampG.row (cpL a3 i)), .dvec 1 (a7.map rowRats), .dvec 1 (a9.map rowRats)]⟩ else ⟨[(1, .ptr 0 5 0 0), (28, .d (.int .i64 a3.length)), (29, .d (.int .i64 i)), (2, .ptr 1 5 0 0)], [.vec 5 [[.ref 2 2 0 a1.length true, .ref 4 1 0 a3.length true, .ref 3 1 0 a5.length true, .ref 5 1 0 a7.length true, .ref 6 1 0 a9.length true]], .vec 5 [[.d (.list [] true), .d (.list [] true), .d (.list [] true), .d (.list [] true), .d (.list [] true)]], .dvec 2 (a1.map LocG.row), .dvec 1 (a5.map rowI), .vec 1 ((rowsL StampG.row (cpL a3 i)).set h.p [.ref 7 3 0 (a3.getD h.p default).1.length true]), .dvec 1 (a7.map rowRats), .dvec 1 (a9.map rowRats), .dvec 3 ((a3.getD h.p default).1.map StampG.row)]⟩)
      (fun i => i ≤ a3.length) (fun i => a3.length - i) 0 [0, 1, 2, 3, 4, 5, 6] (by simp) (by simp [State.thaw]) (by
        rw [if_pos (Nat.zero_le _)]
        simp only [State.can, AV.can, AV.canL, HO.can, canRows, idx, get_hit, get_next, Heap.at, Nat.reduceBEq, ↓reduceIte, Nat.reduceEqDiff, Option.getD_some, Option.map_some, List.map_cons, List.map_nil, List.getD_cons_zero, List.getD_cons_succ, State.thaw, HO.thaw, e3, canRows_rowsL, List.set_cons_zero, List.set_cons_succ]; rfl) (by omega) ?_
    intro i hi
    have hi : i ≤ a3.length := hi
    have li : (cpL a3 i).length = a3.length := cpL_len a3 i
    by_cases hin : i < a3.length
    · have hge := rowsL_cp (f := StampG.row) (d := default) hin
      by_cases hip : i ≤ h.p
      · rw [if_pos hip]
        simp only [↓vck_skip, ↓vck_ret, ↓vck_exit, ↓vck_region, ↓vck_nilq, ↓nilTo_to, nilG_d, nilG_r, ↓vck_seq, ↓vck_cond, ↓vck_block, ↓vck_loop, ↓vckTo_to, ↓thenK_n, ↓thenK_x, ↓thenK_r, ↓blockK_n, ↓blockK_x, ↓blockK_o, ↓blockK_r, ↓regK_to, ↓retK_r, ↓retK_n, ↓loopV_n, ↓loopV_x, ↓loopV_r, ↓famK_n, ↓famK_x, ↓famK_r, ↓boolK_true, ↓boolK_false, ↓boolK_not, ↓boolK_dec, ↓boolK_and, nf_mk, RGk_end_f, RGk_end_t, RGk_op, RGk_guard, opK_to, evN, evCallN, grow_mk, feet_f, feet_t, foot_mk, stepK_mk, stepK_v, stepK_no, guardG_t, guardG_f, guardG_no, condG_b, evT, Opd.ev, get_hit, get_next, app_to, app_no, app_up, app_skip, app_skipn, know_mk, knowO_t, knowO_c, envFrom, reserve, keeps, LOp.isNew, State.prune, cellsQ, cellsT, AV.leaf, Heap.at, evLoad_ptr, evLoad_dptr, loadO_vec, loadO_dvec1, stepK_load_map, idx_I, idx_U, idx_Rat, idx_Loc, idx_Act, idx_Step, idx_Stamp, stepK_idx_ref, evStore_ptr, storeO_vec, stepK_store_map1, loadDT_f, rowI, rowU, RatG.row, LocG.row, ActG.row, StepG.row, StampG.row, ActG.av, ActG.eta, RatG.eta, LocG.eta, beq_true, beq_false, loadDT_t, set_rowI, set_rowU, app_rowI, app_rowU, rep_rowI, rep_rowU, set_rowRat, app_rowRat, rep_rowRat, set_rowLoc, app_rowLoc, app_rowAct, app_rowStep, List.length_set, List.length_replicate, Int.toNat_natCast, Int.reduceToNat, evLen, evAppend, srcOf, Src.all, Src.len, Src.leaf, Src.leafN, evApart, aliveQ, joinV, drows_rep1, drows_rep2, drows_rep3, drows_rep4, drows_rep5, drows_rep6, drows_rep7, drows_rep8, mkVec, drows, evMk, List.length_map, take_mapF, drop_mapF, List.take_length, List.take_left, List.length_append, Nat.le_add_right, ite_self, List.take_of_length_le, evSlice, intOr, intOpd, Option.isSome_none, Option.isSome_some, Nat.sub_zero, loadQ, loadT, evBin, evUn, binT, binQ, chk, apartF, List.contains_cons, List.contains_nil, Bool.or_false, Bool.false_or, Bool.and_self, resQ, resV, resT, pickV, evCallT, evTake, evCall, fnOf, viewsT, isD, HO.drow, viewT, evInt2, evEq, eqV, eqK, eqC1, buildQ, buildT, buildRQ, buildRT, lens_I, lensA_I, lens_U, lensA_U, lens_Rat, lensA_Rat, lens_Loc, lensA_Loc, lens_Act, lensA_Act, lens_Step, lensA_Step, lens_Stamp, lensA_Stamp, List.mem_cons, List.not_mem_nil, or_false, forall_eq, putRow, dcells, get_nil, RetS, RetF, RetD, AV.frz, AV.frzL, AV.freshP, AV.freshL, DV.less, scal_int, scal_bool, scal_nil, scal_rowI, scal_rowU, scal_rowRat, scal_rowStep, Option.some.injEq, AV.tup.injEq, AV.agg.injEq, List.cons.injEq, DV.list.injEq, List.isEmpty_nil, Nat.le_refl, AV.d.injEq, DV.int.injEq, DV.bool.injEq, ↓reduceIte, Nat.reduceEqDiff, Nat.reduceAdd, Nat.reduceBEq, List.length_cons, List.length_nil, List.replicate_succ, List.replicate_zero, List.nil_append, List.cons_append, List.append_nil, List.foldl_cons, List.foldl_nil, List.map_cons, List.map_nil, List.all_cons, List.all_nil, List.set_cons_zero, List.set_cons_succ, List.getD_cons_zero, List.getD_cons_succ, List.drop_zero, List.drop_succ_cons, List.take_succ_cons, List.take_zero, List.flatten_cons, List.flatten_nil, Bool.true_and, Bool.and_true, Bool.not_true, Bool.not_false, true_and, and_true, true_or, or_true, Option.bind_some, Option.map_some, decide_true, decide_false, beq_self_eq_true, true_implies, false_implies, implies_true, not_true_eq_false, not_false_eq_true, and_self, Bool.and_false, Bool.false_and, Nat.reduceLT, Nat.reduceLeDiff, List.reverse_cons, List.reverse_nil, Nat.zero_add, Nat.add_zero, Bool.false_eq_true, List.getElem?_cons_zero, ef_copied, MemG.av, F1, G1, F2, G2, F3, G3, F4, G4, F5, G5, F6, G6, at_clone, loadO_vec, storeO_vec, rowsL_len, List.length_set, hge, li, List.getD_cons_zero]
        refine ⟨fun _ => ⟨⟨by omega, by omega⟩, hin, r3 i hin, ⟨by omega, by omega⟩, hin, ?_⟩, fun c => absurd c (by omega)⟩
        rw [wrap_succ hin (by unfold maxLen; omega)]
        by_cases hlt : i < h.p
        · refine FamNext.ices [7] (FamNext.thaw 0 (FamNext.thaw 1 (FamNext.thaw 4 (FamNext.mk [0, 1, 2, 3, 4, 5, 6] (i + 1) (by simp) (by simp [State.thaw, ices_len]) ?_ (by show i + 1 ≤ a3.length; omega) (by show a3.length - (i + 1) < a3.length - i; omega)))))
          rw [if_pos (show i + 1 ≤ h.p by omega)]
          simp only [State.can, AV.can, AV.canL, HO.can, canRows, idx, get_hit, get_next, Heap.at, Nat.reduceBEq, ↓reduceIte, Nat.reduceEqDiff, Option.getD_some, Option.map_some, List.map_cons, List.map_nil, List.getD_cons_zero, List.getD_cons_succ, State.ices, State.ice, HO.data, iceEnv, iceHeap, HO.ice, AV.ice, AV.iceL, State.thaw, thaw_mkVec, iceRows_cons, iceRows_nil, iceRows_set, iceRows_rowsL, iceL_data, canRows_rowsL, List.set_cons_zero, List.set_cons_succ, List.drop_zero, take_mapF, List.take_length, Bool.not_true, Nat.zero_add, Nat.le_refl, List.length_map, and_self, Option.map_some, drows, dcells, rowsL_set (d := default) hin]
          try rfl
        · have e : i = h.p := by omega
          have hcan : ∀ X : List (List AV), canRows [0, 1, 2, 3, 4, 5, 6, 7] ((rowsL StampG.row (cpL a3 (h.p + 1))).set h.p [.ref 7 3 0 (a3.getD h.p default).1.length true]) = some ((rowsL StampG.row (cpL a3 (h.p + 1))).set h.p [.ref 7 3 0 (a3.getD h.p default).1.length true]) := fun _ => canRows_set _ _ _ _ _ _ (canRows_rowsL _ _) rfl
          refine FamNext.mk [0, 1, 2, 3, 4, 5, 6, 7] (i + 1) (by simp) (by simp) ?_ (by show i + 1 ≤ a3.length; omega) (by show a3.length - (i + 1) < a3.length - i; omega)
          rw [if_neg (show ¬ i + 1 ≤ h.p by omega), rowsL_over hin, e]
          simp only [State.can, AV.can, AV.canL, HO.can, canRows, idx, get_hit, get_next, Heap.at, Nat.reduceBEq, ↓reduceIte, Nat.reduceEqDiff, Option.getD_some, Option.map_some, List.map_cons, List.map_nil, List.getD_cons_zero, List.getD_cons_succ, hcan []]
      · rw [if_neg hip]
        have hge2 : ∀ x, ((rowsL StampG.row (cpL a3 i)).set h.p x).getD i [] = [.d (.list ((a3.getD i default).1.map StampG.row) (a3.getD i default).2)] := fun x => by
          rw [List.getD_eq_getElem?_getD, List.getElem?_set_ne (by omega), ← List.getD_eq_getElem?_getD]; exact hge
        simp only [↓vck_skip, ↓vck_ret, ↓vck_exit, ↓vck_region, ↓vck_nilq, ↓nilTo_to, nilG_d, nilG_r, ↓vck_seq, ↓vck_cond, ↓vck_block, ↓vck_loop, ↓vckTo_to, ↓thenK_n, ↓thenK_x, ↓thenK_r, ↓blockK_n, ↓blockK_x, ↓blockK_o, ↓blockK_r, ↓regK_to, ↓retK_r, ↓retK_n, ↓loopV_n, ↓loopV_x, ↓loopV_r, ↓famK_n, ↓famK_x, ↓famK_r, ↓boolK_true, ↓boolK_false, ↓boolK_not, ↓boolK_dec, ↓boolK_and, nf_mk, RGk_end_f, RGk_end_t, RGk_op, RGk_guard, opK_to, evN, evCallN, grow_mk, feet_f, feet_t, foot_mk, stepK_mk, stepK_v, stepK_no, guardG_t, guardG_f, guardG_no, condG_b, evT, Opd.ev, get_hit, get_next, app_to, app_no, app_up, app_skip, app_skipn, know_mk, knowO_t, knowO_c, envFrom, reserve, keeps, LOp.isNew, State.prune, cellsQ, cellsT, AV.leaf, Heap.at, evLoad_ptr, evLoad_dptr, loadO_vec, loadO_dvec1, stepK_load_map, idx_I, idx_U, idx_Rat, idx_Loc, idx_Act, idx_Step, idx_Stamp, stepK_idx_ref, evStore_ptr, storeO_vec, stepK_store_map1, loadDT_f, rowI, rowU, RatG.row, LocG.row, ActG.row, StepG.row, StampG.row, ActG.av, ActG.eta, RatG.eta, LocG.eta, beq_true, beq_false, loadDT_t, set_rowI, set_rowU, app_rowI, app_rowU, rep_rowI, rep_rowU, set_rowRat, app_rowRat, rep_rowRat, set_rowLoc, app_rowLoc, app_rowAct, app_rowStep, List.length_set, List.length_replicate, Int.toNat_natCast, Int.reduceToNat, evLen, evAppend, srcOf, Src.all, Src.len, Src.leaf, Src.leafN, evApart, aliveQ, joinV, drows_rep1, drows_rep2, drows_rep3, drows_rep4, drows_rep5, drows_rep6, drows_rep7, drows_rep8, mkVec, drows, evMk, List.length_map, take_mapF, drop_mapF, List.take_length, List.take_left, List.length_append, Nat.le_add_right, ite_self, List.take_of_length_le, evSlice, intOr, intOpd, Option.isSome_none, Option.isSome_some, Nat.sub_zero, loadQ, loadT, evBin, evUn, binT, binQ, chk, apartF, List.contains_cons, List.contains_nil, Bool.or_false, Bool.false_or, Bool.and_self, resQ, resV, resT, pickV, evCallT, evTake, evCall, fnOf, viewsT, isD, HO.drow, viewT, evInt2, evEq, eqV, eqK, eqC1, buildQ, buildT, buildRQ, buildRT, lens_I, lensA_I, lens_U, lensA_U, lens_Rat, lensA_Rat, lens_Loc, lensA_Loc, lens_Act, lensA_Act, lens_Step, lensA_Step, lens_Stamp, lensA_Stamp, List.mem_cons, List.not_mem_nil, or_false, forall_eq, putRow, dcells, get_nil, RetS, RetF, RetD, AV.frz, AV.frzL, AV.freshP, AV.freshL, DV.less, scal_int, scal_bool, scal_nil, scal_rowI, scal_rowU, scal_rowRat, scal_rowStep, Option.some.injEq, AV.tup.injEq, AV.agg.injEq, List.cons.injEq, DV.list.injEq, List.isEmpty_nil, Nat.le_refl, AV.d.injEq, DV.int.injEq, DV.bool.injEq, ↓reduceIte, Nat.reduceEqDiff, Nat.reduceAdd, Nat.reduceBEq, List.length_cons, List.length_nil, List.replicate_succ, List.replicate_zero, List.nil_append, List.cons_append, List.append_nil, List.foldl_cons, List.foldl_nil, List.map_cons, List.map_nil, List.all_cons, List.all_nil, List.set_cons_zero, List.set_cons_succ, List.getD_cons_zero, List.getD_cons_succ, List.drop_zero, List.drop_succ_cons, List.take_succ_cons, List.take_zero, List.flatten_cons, List.flatten_nil, Bool.true_and, Bool.and_true, Bool.not_true, Bool.not_false, true_and, and_true, true_or, or_true, Option.bind_some, Option.map_some, decide_true, decide_false, beq_self_eq_true, true_implies, false_implies, implies_true, not_true_eq_false, not_false_eq_true, and_self, Bool.and_false, Bool.false_and, Nat.reduceLT, Nat.reduceLeDiff, List.reverse_cons, List.reverse_nil, Nat.zero_add, Nat.add_zero, Bool.false_eq_true, List.getElem?_cons_zero, ef_copied, MemG.av, F1, G1, F2, G2, F3, G3, F4, G4, F5, G5, F6, G6, at_clone, loadO_vec, storeO_vec, rowsL_len, List.length_set, hge2, li, List.getD_cons_zero]
        refine ⟨fun _ => ⟨⟨by omega, by omega⟩, hin, r3 i hin, ⟨by omega, by omega⟩, hin, ?_⟩, fun c => absurd c (by omega)⟩
        rw [wrap_succ hin (by unfold maxLen; omega)]
        have hcan : ∀ Y, canRows [0, 1, 2, 3, 4, 5, 6, 7] ((rowsL StampG.row (cpL a3 Y)).set h.p [.ref 7 3 0 (a3.getD h.p default).1.length true]) = some ((rowsL StampG.row (cpL a3 Y)).set h.p [.ref 7 3 0 (a3.getD h.p default).1.length true]) := fun _ => canRows_set _ _ _ _ _ _ (canRows_rowsL _ _) rfl
        have hcm : ∀ x y, ((rowsL StampG.row (cpL a3 i)).set h.p x).set i y = ((rowsL StampG.row (cpL a3 i)).set i y).set h.p x := fun x y => List.set_comm _ _ (by omega)
        refine FamNext.ices [8] (FamNext.thaw 0 (FamNext.thaw 1 (FamNext.thaw 4 (FamNext.mk [0, 1, 2, 3, 4, 5, 6, 7] (i + 1) (by simp) (by simp [State.thaw, ices_len]) ?_ (by show i + 1 ≤ a3.length; omega) (by show a3.length - (i + 1) < a3.length - i; omega)))))
        rw [if_neg (show ¬ i + 1 ≤ h.p by omega)]
        simp only [State.can, AV.can, AV.canL, HO.can, canRows, idx, get_hit, get_next, Heap.at, Nat.reduceBEq, ↓reduceIte, Nat.reduceEqDiff, Option.getD_some, Option.map_some, List.map_cons, List.map_nil, List.getD_cons_zero, List.getD_cons_succ, State.ices, State.ice, HO.data, iceEnv, iceHeap, HO.ice, AV.ice, AV.iceL, State.thaw, thaw_mkVec, iceRows_cons, iceRows_nil, iceRows_set, iceRows_rowsL, iceL_data, canRows_rowsL, List.set_cons_zero, List.set_cons_succ, List.drop_zero, take_mapF, List.take_length, Bool.not_true, Nat.zero_add, Nat.le_refl, List.length_map, and_self, Option.map_some, drows, dcells, hcm, rowsL_set (d := default) hin, hcan]
        try rfl
    · have e : i = a3.length := by omega
      subst e
      rw [if_neg (by omega)]
      simp only [↓vck_skip, ↓vck_ret, ↓vck_exit, ↓vck_region, ↓vck_nilq, ↓nilTo_to, nilG_d, nilG_r, ↓vck_seq, ↓vck_cond, ↓vck_block, ↓vck_loop, ↓vckTo_to, ↓thenK_n, ↓thenK_x, ↓thenK_r, ↓blockK_n, ↓blockK_x, ↓blockK_o, ↓blockK_r, ↓regK_to, ↓retK_r, ↓retK_n, ↓loopV_n, ↓loopV_x, ↓loopV_r, ↓famK_n, ↓famK_x, ↓famK_r, ↓boolK_true, ↓boolK_false, ↓boolK_not, ↓boolK_dec, ↓boolK_and, nf_mk, RGk_end_f, RGk_end_t, RGk_op, RGk_guard, opK_to, evN, evCallN, grow_mk, feet_f, feet_t, foot_mk, stepK_mk, stepK_v, stepK_no, guardG_t, guardG_f, guardG_no, condG_b, evT, Opd.ev, get_hit, get_next, app_to, app_no, app_up, app_skip, app_skipn, know_mk, knowO_t, knowO_c, envFrom, reserve, keeps, LOp.isNew, State.prune, cellsQ, cellsT, AV.leaf, Heap.at, evLoad_ptr, evLoad_dptr, loadO_vec, loadO_dvec1, stepK_load_map, idx_I, idx_U, idx_Rat, idx_Loc, idx_Act, idx_Step, idx_Stamp, stepK_idx_ref, evStore_ptr, storeO_vec, stepK_store_map1, loadDT_f, rowI, rowU, RatG.row, LocG.row, ActG.row, StepG.row, StampG.row, ActG.av, ActG.eta, RatG.eta, LocG.eta, beq_true, beq_false, loadDT_t, set_rowI, set_rowU, app_rowI, app_rowU, rep_rowI, rep_rowU, set_rowRat, app_rowRat, rep_rowRat, set_rowLoc, app_rowLoc, app_rowAct, app_rowStep, List.length_set, List.length_replicate, Int.toNat_natCast, Int.reduceToNat, evLen, evAppend, srcOf, Src.all, Src.len, Src.leaf, Src.leafN, evApart, aliveQ, joinV, drows_rep1, drows_rep2, drows_rep3, drows_rep4, drows_rep5, drows_rep6, drows_rep7, drows_rep8, mkVec, drows, evMk, List.length_map, take_mapF, drop_mapF, List.take_length, List.take_left, List.length_append, Nat.le_add_right, ite_self, List.take_of_length_le, evSlice, intOr, intOpd, Option.isSome_none, Option.isSome_some, Nat.sub_zero, loadQ, loadT, evBin, evUn, binT, binQ, chk, apartF, List.contains_cons, List.contains_nil, Bool.or_false, Bool.false_or, Bool.and_self, resQ, resV, resT, pickV, evCallT, evTake, evCall, fnOf, viewsT, isD, HO.drow, viewT, evInt2, evEq, eqV, eqK, eqC1, buildQ, buildT, buildRQ, buildRT, lens_I, lensA_I, lens_U, lensA_U, lens_Rat, lensA_Rat, lens_Loc, lensA_Loc, lens_Act, lensA_Act, lens_Step, lensA_Step, lens_Stamp, lensA_Stamp, List.mem_cons, List.not_mem_nil, or_false, forall_eq, putRow, dcells, get_nil, RetS, RetF, RetD, AV.frz, AV.frzL, AV.freshP, AV.freshL, DV.less, scal_int, scal_bool, scal_nil, scal_rowI, scal_rowU, scal_rowRat, scal_rowStep, Option.some.injEq, AV.tup.injEq, AV.agg.injEq, List.cons.injEq, DV.list.injEq, List.isEmpty_nil, Nat.le_refl, AV.d.injEq, DV.int.injEq, DV.bool.injEq, ↓reduceIte, Nat.reduceEqDiff, Nat.reduceAdd, Nat.reduceBEq, List.length_cons, List.length_nil, List.replicate_succ, List.replicate_zero, List.nil_append, List.cons_append, List.append_nil, List.foldl_cons, List.foldl_nil, List.map_cons, List.map_nil, List.all_cons, List.all_nil, List.set_cons_zero, List.set_cons_succ, List.getD_cons_zero, List.getD_cons_succ, List.drop_zero, List.drop_succ_cons, List.take_succ_cons, List.take_zero, List.flatten_cons, List.flatten_nil, Bool.true_and, Bool.and_true, Bool.not_true, Bool.not_false, true_and, and_true, true_or, or_true, Option.bind_some, Option.map_some, decide_true, decide_false, beq_self_eq_true, true_implies, false_implies, implies_true, not_true_eq_false, not_false_eq_true, and_self, Bool.and_false, Bool.false_and, Nat.reduceLT, Nat.reduceLeDiff, List.reverse_cons, List.reverse_nil, Nat.zero_add, Nat.add_zero, Bool.false_eq_true, List.getElem?_cons_zero, ef_copied, MemG.av, F1, G1, F2, G2, F3, G3, F4, G4, F5, G5, F6, G6, at_clone, loadO_vec, storeO_vec, rowsL_len, List.length_set, li, List.getD_cons_zero]
      refine ⟨fun c => absurd c (by omega), fun _ => ?_⟩
      refine Loop.thaw 5 (Nat.zero_le _) ?_
      have e7 : (a7.map rowRats).map (·.map AV.d) = rowsL RatG.row (cpL a7 0) := by unfold rowsL cpL rowRats; rw [List.map_map]; simp
      have r7 : ∀ i, i < a7.length → roomy (a7.getD i default).1.length 16 := fun i hi => c7 _ (by rw [getD_lt hi]; exact List.getElem_mem hi)
      have hcp : canRows [0, 1, 2, 3, 4, 5, 6, 7] ((rowsL StampG.row (cpL a3 a3.length)).set h.p [.ref 7 3 0 (a3.getD h.p default).1.length true]) = some ((rowsL StampG.row (cpL a3 a3.length)).set h.p [.ref 7 3 0 (a3.getD h.p default).1.length true]) := canRows_set _ _ _ _ _ _ (canRows_rowsL _ _) rfl
      clear hin li hi
      refine Loop.fam [1, 45, 46, 2] (fun i : Nat => ⟨[(1, .ptr 0 5 0 0), (45, .d (.int .i64 a7.length)), (46, .d (.int .i64 i)), (2, .ptr 1 5 0 0)], [.vec 5 [[.ref 2 2 0 a1.length true, .ref 4 1 0 a3.length true, .ref 3 1 0 a5.length true, .ref 5 1 0 a7.length true, .ref 6 1 0 a9.length true]], .vec 5 [[.d (.list [] true), .d (.list [] true), .d (.list [] true), .d (.list [] true), .d (.list [] true)]], .dvec 2 (a1.map LocG.row), .dvec 1 (a5.map rowI), .vec 1 ((rowsL StampG.row (cpL a3 a3.length)).set h.p [.ref 7 3 0 (a3.getD h.p default).1.length true]), .vec 1 (rowsL RatG.row (cpL a7 i)), .dvec 1 (a9.map rowRats), .dvec 3 ((a3.getD h.p default).1.map StampG.row)]⟩)
        (fun i => i ≤ a7.length) (fun i => a7.length - i) 0 [0, 1, 2, 3, 4, 5, 6, 7] (by simp) (by simp [State.thaw]) (by
          simp only [State.can, AV.can, AV.canL, HO.can, canRows, idx, get_hit, get_next, Heap.at, Nat.reduceBEq, ↓reduceIte, Nat.reduceEqDiff, Option.getD_some, Option.map_some, List.map_cons, List.map_nil, List.getD_cons_zero, List.getD_cons_succ, State.thaw, HO.thaw, e7, canRows_rowsL, hcp, List.set_cons_zero, List.set_cons_succ]; rfl) (by omega) ?_
      intro i hi
      have hi : i ≤ a7.length := hi
      have li : (cpL a7 i).length = a7.length := cpL_len a7 i
      by_cases hin : i < a7.length
      · have hge := rowsL_cp (f := RatG.row) (d := default) hin
        simp only [↓vck_skip, ↓vck_ret, ↓vck_exit, ↓vck_region, ↓vck_nilq, ↓nilTo_to, nilG_d, nilG_r, ↓vck_seq, ↓vck_cond, ↓vck_block, ↓vck_loop, ↓vckTo_to, ↓thenK_n, ↓thenK_x, ↓thenK_r, ↓blockK_n, ↓blockK_x, ↓blockK_o, ↓blockK_r, ↓regK_to, ↓retK_r, ↓retK_n, ↓loopV_n, ↓loopV_x, ↓loopV_r, ↓famK_n, ↓famK_x, ↓famK_r, ↓boolK_true, ↓boolK_false, ↓boolK_not, ↓boolK_dec, ↓boolK_and, nf_mk, RGk_end_f, RGk_end_t, RGk_op, RGk_guard, opK_to, evN, evCallN, grow_mk, feet_f, feet_t, foot_mk, stepK_mk, stepK_v, stepK_no, guardG_t, guardG_f, guardG_no, condG_b, evT, Opd.ev, get_hit, get_next, app_to, app_no, app_up, app_skip, app_skipn, know_mk, knowO_t, knowO_c, envFrom, reserve, keeps, LOp.isNew, State.prune, cellsQ, cellsT, AV.leaf, Heap.at, evLoad_ptr, evLoad_dptr, loadO_vec, loadO_dvec1, stepK_load_map, idx_I, idx_U, idx_Rat, idx_Loc, idx_Act, idx_Step, idx_Stamp, stepK_idx_ref, evStore_ptr, storeO_vec, stepK_store_map1, loadDT_f, rowI, rowU, RatG.row, LocG.row, ActG.row, StepG.row, StampG.row, ActG.av, ActG.eta, RatG.eta, LocG.eta, beq_true, beq_false, loadDT_t, set_rowI, set_rowU, app_rowI, app_rowU, rep_rowI, rep_rowU, set_rowRat, app_rowRat, rep_rowRat, set_rowLoc, app_rowLoc, app_rowAct, app_rowStep, List.length_set, List.length_replicate, Int.toNat_natCast, Int.reduceToNat, evLen, evAppend, srcOf, Src.all, Src.len, Src.leaf, Src.leafN, evApart, aliveQ, joinV, drows_rep1, drows_rep2, drows_rep3, drows_rep4, drows_rep5, drows_rep6, drows_rep7, drows_rep8, mkVec, drows, evMk, List.length_map, take_mapF, drop_mapF, List.take_length, List.take_left, List.length_append, Nat.le_add_right, ite_self, List.take_of_length_le, evSlice, intOr, intOpd, Option.isSome_none, Option.isSome_some, Nat.sub_zero, loadQ, loadT, evBin, evUn, binT, binQ, chk, apartF, List.contains_cons, List.contains_nil, Bool.or_false, Bool.false_or, Bool.and_self, resQ, resV, resT, pickV, evCallT, evTake, evCall, fnOf, viewsT, isD, HO.drow, viewT, evInt2, evEq, eqV, eqK, eqC1, buildQ, buildT, buildRQ, buildRT, lens_I, lensA_I, lens_U, lensA_U, lens_Rat, lensA_Rat, lens_Loc, lensA_Loc, lens_Act, lensA_Act, lens_Step, lensA_Step, lens_Stamp, lensA_Stamp, List.mem_cons, List.not_mem_nil, or_false, forall_eq, putRow, dcells, get_nil, RetS, RetF, RetD, AV.frz, AV.frzL, AV.freshP, AV.freshL, DV.less, scal_int, scal_bool, scal_nil, scal_rowI, scal_rowU, scal_rowRat, scal_rowStep, Option.some.injEq, AV.tup.injEq, AV.agg.injEq, List.cons.injEq, DV.list.injEq, List.isEmpty_nil, Nat.le_refl, AV.d.injEq, DV.int.injEq, DV.bool.injEq, ↓reduceIte, Nat.reduceEqDiff, Nat.reduceAdd, Nat.reduceBEq, List.length_cons, List.length_nil, List.replicate_succ, List.replicate_zero, List.nil_append, List.cons_append, List.append_nil, List.foldl_cons, List.foldl_nil, List.map_cons, List.map_nil, List.all_cons, List.all_nil, List.set_cons_zero, List.set_cons_succ, List.getD_cons_zero, List.getD_cons_succ, List.drop_zero, List.drop_succ_cons, List.take_succ_cons, List.take_zero, List.flatten_cons, List.flatten_nil, Bool.true_and, Bool.and_true, Bool.not_true, Bool.not_false, true_and, and_true, true_or, or_true, Option.bind_some, Option.map_some, decide_true, decide_false, beq_self_eq_true, true_implies, false_implies, implies_true, not_true_eq_false, not_false_eq_true, and_self, Bool.and_false, Bool.false_and, Nat.reduceLT, Nat.reduceLeDiff, List.reverse_cons, List.reverse_nil, Nat.zero_add, Nat.add_zero, Bool.false_eq_true, List.getElem?_cons_zero, ef_copied, MemG.av, F1, G1, F2, G2, F3, G3, F4, G4, F5, G5, F6, G6, at_clone, loadO_vec, storeO_vec, rowsL_len, List.length_set, hge, li, List.getD_cons_zero]
        refine ⟨fun _ => ⟨⟨by omega, by omega⟩, hin, r7 i hin, ⟨by omega, by omega⟩, hin, ?_⟩, fun c => absurd c (by omega)⟩
        rw [wrap_succ hin (by unfold maxLen; omega)]
        refine FamNext.ices [8] (FamNext.thaw 0 (FamNext.thaw 1 (FamNext.thaw 4 (FamNext.thaw 5 (FamNext.mk [0, 1, 2, 3, 4, 5, 6, 7] (i + 1) (by simp) (by simp [State.thaw, ices_len]) ?_ (by show i + 1 ≤ a7.length; omega) (by show a7.length - (i + 1) < a7.length - i; omega))))))
        simp only [State.can, AV.can, AV.canL, HO.can, canRows, idx, get_hit, get_next, Heap.at, Nat.reduceBEq, ↓reduceIte, Nat.reduceEqDiff, Option.getD_some, Option.map_some, List.map_cons, List.map_nil, List.getD_cons_zero, List.getD_cons_succ, State.ices, State.ice, HO.data, iceEnv, iceHeap, HO.ice, AV.ice, AV.iceL, State.thaw, thaw_mkVec, iceRows_cons, iceRows_nil, iceRows_set, iceRows_rowsL, iceL_data, canRows_rowsL, List.set_cons_zero, List.set_cons_succ, List.drop_zero, take_mapF, List.take_length, Bool.not_true, Nat.zero_add, Nat.le_refl, List.length_map, and_self, Option.map_some, drows, dcells, rowsL_set (d := default) hin, hcp]
        try rfl
      · have e : i = a7.length := by omega
        subst e
        simp only [↓vck_skip, ↓vck_ret, ↓vck_exit, ↓vck_region, ↓vck_nilq, ↓nilTo_to, nilG_d, nilG_r, ↓vck_seq, ↓vck_cond, ↓vck_block, ↓vck_loop, ↓vckTo_to, ↓thenK_n, ↓thenK_x, ↓thenK_r, ↓blockK_n, ↓blockK_x, ↓blockK_o, ↓blockK_r, ↓regK_to, ↓retK_r, ↓retK_n, ↓loopV_n, ↓loopV_x, ↓loopV_r, ↓famK_n, ↓famK_x, ↓famK_r, ↓boolK_true, ↓boolK_false, ↓boolK_not, ↓boolK_dec, ↓boolK_and, nf_mk, RGk_end_f, RGk_end_t, RGk_op, RGk_guard, opK_to, evN, evCallN, grow_mk, feet_f, feet_t, foot_mk, stepK_mk, stepK_v, stepK_no, guardG_t, guardG_f, guardG_no, condG_b, evT, Opd.ev, get_hit, get_next, app_to, app_no, app_up, app_skip, app_skipn, know_mk, knowO_t, knowO_c, envFrom, reserve, keeps, LOp.isNew, State.prune, cellsQ, cellsT, AV.leaf, Heap.at, evLoad_ptr, evLoad_dptr, loadO_vec, loadO_dvec1, stepK_load_map, idx_I, idx_U, idx_Rat, idx_Loc, idx_Act, idx_Step, idx_Stamp, stepK_idx_ref, evStore_ptr, storeO_vec, stepK_store_map1, loadDT_f, rowI, rowU, RatG.row, LocG.row, ActG.row, StepG.row, StampG.row, ActG.av, ActG.eta, RatG.eta, LocG.eta, beq_true, beq_false, loadDT_t, set_rowI, set_rowU, app_rowI, app_rowU, rep_rowI, rep_rowU, set_rowRat, app_rowRat, rep_rowRat, set_rowLoc, app_rowLoc, app_rowAct, app_rowStep, List.length_set, List.length_replicate, Int.toNat_natCast, Int.reduceToNat, evLen, evAppend, srcOf, Src.all, Src.len, Src.leaf, Src.leafN, evApart, aliveQ, joinV, drows_rep1, drows_rep2, drows_rep3, drows_rep4, drows_rep5, drows_rep6, drows_rep7, drows_rep8, mkVec, drows, evMk, List.length_map, take_mapF, drop_mapF, List.take_length, List.take_left, List.length_append, Nat.le_add_right, ite_self, List.take_of_length_le, evSlice, intOr, intOpd, Option.isSome_none, Option.isSome_some, Nat.sub_zero, loadQ, loadT, evBin, evUn, binT, binQ, chk, apartF, List.contains_cons, List.contains_nil, Bool.or_false, Bool.false_or, Bool.and_self, resQ, resV, resT, pickV, evCallT, evTake, evCall, fnOf, viewsT, isD, HO.drow, viewT, evInt2, evEq, eqV, eqK, eqC1, buildQ, buildT, buildRQ, buildRT, lens_I, lensA_I, lens_U, lensA_U, lens_Rat, lensA_Rat, lens_Loc, lensA_Loc, lens_Act, lensA_Act, lens_Step, lensA_Step, lens_Stamp, lensA_Stamp, List.mem_cons, List.not_mem_nil, or_false, forall_eq, putRow, dcells, get_nil, RetS, RetF, RetD, AV.frz, AV.frzL, AV.freshP, AV.freshL, DV.less, scal_int, scal_bool, scal_nil, scal_rowI, scal_rowU, scal_rowRat, scal_rowStep, Option.some.injEq, AV.tup.injEq, AV.agg.injEq, List.cons.injEq, DV.list.injEq, List.isEmpty_nil, Nat.le_refl, AV.d.injEq, DV.int.injEq, DV.bool.injEq, ↓reduceIte, Nat.reduceEqDiff, Nat.reduceAdd, Nat.reduceBEq, List.length_cons, List.length_nil, List.replicate_succ, List.replicate_zero, List.nil_append, List.cons_append, List.append_nil, List.foldl_cons, List.foldl_nil, List.map_cons, List.map_nil, List.all_cons, List.all_nil, List.set_cons_zero, List.set_cons_succ, List.getD_cons_zero, List.getD_cons_succ, List.drop_zero, List.drop_succ_cons, List.take_succ_cons, List.take_zero, List.flatten_cons, List.flatten_nil, Bool.true_and, Bool.and_true, Bool.not_true, Bool.not_false, true_and, and_true, true_or, or_true, Option.bind_some, Option.map_some, decide_true, decide_false, beq_self_eq_true, true_implies, false_implies, implies_true, not_true_eq_false, not_false_eq_true, and_self, Bool.and_false, Bool.false_and, Nat.reduceLT, Nat.reduceLeDiff, List.reverse_cons, List.reverse_nil, Nat.zero_add, Nat.add_zero, Bool.false_eq_true, List.getElem?_cons_zero, ef_copied, MemG.av, F1, G1, F2, G2, F3, G3, F4, G4, F5, G5, F6, G6, at_clone, loadO_vec, storeO_vec, rowsL_len, List.length_set, li, List.getD_cons_zero]
        refine ⟨fun c => absurd c (by omega), fun _ => ?_⟩
        refine Loop.thaw 6 (Nat.zero_le _) ?_
        have e9 : (a9.map rowRats).map (·.map AV.d) = rowsL RatG.row (cpL a9 0) := by unfold rowsL cpL rowRats; rw [List.map_map]; simp
        have r9 : ∀ i, i < a9.length → roomy (a9.getD i default).1.length 16 := fun i hi => c8 _ (by rw [getD_lt hi]; exact List.getElem_mem hi)
        have hcp9 : canRows [0, 1, 2, 3, 4, 5, 6, 7, 8] ((rowsL StampG.row (cpL a3 a3.length)).set h.p [.ref 7 3 0 (a3.getD h.p default).1.length true]) = some ((rowsL StampG.row (cpL a3 a3.length)).set h.p [.ref 7 3 0 (a3.getD h.p default).1.length true]) := canRows_set _ _ _ _ _ _ (canRows_rowsL _ _) rfl
        have hcf9 : ∀ Y, canRows [0, 1, 2, 3, 4, 5, 6, 7, 8] ((rowsL RatG.row (cpL a9 Y)).set h.f [.ref 8 2 0 (a9.getD h.f default).1.length true]) = some ((rowsL RatG.row (cpL a9 Y)).set h.f [.ref 8 2 0 (a9.getD h.f default).1.length true]) := fun _ => canRows_set _ _ _ _ _ _ (canRows_rowsL _ _) rfl
        clear hin li hi
        refine Loop.fam [1, 62, 63, 2] (fun i : Nat => if i ≤ h.f then ⟨[(1, .ptr 0 5 0 0), (62, .d (.int .i64 a9.length)), (63, .d (.int .i64 i)), (2, .ptr 1 5 0 0)], [.vec 5 [[.ref 2 2 0 a1.length true, .ref 4 1 0 a3.length true, .ref 3 1 0 a5.length true, .ref 5 1 0 a7.length true, .ref 6 1 0 a9.length true]], .vec 5 [[.d (.list [] true), .d (.list [] true), .d (.list [] true), .d (.list [] true), .d (.list [] true)]], .dvec 2 (a1.map LocG.row), .dvec 1 (a5.map rowI), .vec 1 ((rowsL StampG.row (cpL a3 a3.length)).set h.p [.ref 7 3 0 (a3.getD h.p default).1.length true]), .vec 1 (rowsL RatG.row (cpL a7 a7.length)), .vec 1 (rowsL RatG.row (cpL a9 i)), .dvec 3 ((a3.getD h.p default).1.map StampG.row)]⟩ else ⟨[(1, .ptr 0 5 0 0), (62, .d (.int .i64 a9.length)), (63, .d (.int .i64 i)), (2, .ptr 1 5 0 0)], [.vec 5 [[.ref 2 2 0 a1.length true, .ref 4 1 0 a3.length true, .ref 3 1 0 a5.length true, .ref 5 1 0 a7.length true, .ref 6 1 0 a9.length true]], .vec 5 [[.d (.list [] true), .d (.list [] true), .d (.list [] true), .d (.list [] true), .d (.list [] true)]], .dvec 2 (a1.map LocG.row), .dvec 1 (a5.map rowI), .vec 1 ((rowsL StampG.row (cpL a3 a3.length)).set h.p [.ref 7 3 0 (a3.getD h.p default).1.length true]), .vec 1 (rowsL RatG.row (cpL a7 a7.length)), .vec 1 ((rowsL RatG.row (cpL a9 i)).set h.f [.ref 8 2 0 (a9.getD h.f default).1.length true]), .dvec 3 ((a3.getD h.p default).1.map StampG.row), .dvec 2 ((a9.getD h.f default).1.map RatG.row)]⟩)
          (fun i => i ≤ a9.length) (fun i => a9.length - i) 0 [0, 1, 2, 3, 4, 5, 6, 7] (by simp) (by simp [State.thaw]) (by
            rw [if_pos (Nat.zero_le _)]
            simp only [State.can, AV.can, AV.canL, HO.can, canRows, idx, get_hit, get_next, Heap.at, Nat.reduceBEq, ↓reduceIte, Nat.reduceEqDiff, Option.getD_some, Option.map_some, List.map_cons, List.map_nil, List.getD_cons_zero, List.getD_cons_succ, State.thaw, HO.thaw, e9, canRows_rowsL, hcp, List.set_cons_zero, List.set_cons_succ]; rfl) (by omega) ?_
        intro i hi
        have hi : i ≤ a9.length := hi
        have li : (cpL a9 i).length = a9.length := cpL_len a9 i
        by_cases hin : i < a9.length
        · have hge := rowsL_cp (f := RatG.row) (d := default) hin
          by_cases hip : i ≤ h.f
          · rw [if_pos hip]
            simp only [↓vck_skip, ↓vck_ret, ↓vck_exit, ↓vck_region, ↓vck_nilq, ↓nilTo_to, nilG_d, nilG_r, ↓vck_seq, ↓vck_cond, ↓vck_block, ↓vck_loop, ↓vckTo_to, ↓thenK_n, ↓thenK_x, ↓thenK_r, ↓blockK_n, ↓blockK_x, ↓blockK_o, ↓blockK_r, ↓regK_to, ↓retK_r, ↓retK_n, ↓loopV_n, ↓loopV_x, ↓loopV_r, ↓famK_n, ↓famK_x, ↓famK_r, ↓boolK_true, ↓boolK_false, ↓boolK_not, ↓boolK_dec, ↓boolK_and, nf_mk, RGk_end_f, RGk_end_t, RGk_op, RGk_guard, opK_to, evN, evCallN, grow_mk, feet_f, feet_t, foot_mk, stepK_mk, stepK_v, stepK_no, guardG_t, guardG_f, guardG_no, condG_b, evT, Opd.ev, get_hit, get_next, app_to, app_no, app_up, app_skip, app_skipn, know_mk, knowO_t, knowO_c, envFrom, reserve, keeps, LOp.isNew, State.prune, cellsQ, cellsT, AV.leaf, Heap.at, evLoad_ptr, evLoad_dptr, loadO_vec, loadO_dvec1, stepK_load_map, idx_I, idx_U, idx_Rat, idx_Loc, idx_Act, idx_Step, idx_Stamp, stepK_idx_ref, evStore_ptr, storeO_vec, stepK_store_map1, loadDT_f, rowI, rowU, RatG.row, LocG.row, ActG.row, StepG.row, StampG.row, ActG.av, ActG.eta, RatG.eta, LocG.eta, beq_true, beq_false, loadDT_t, set_rowI, set_rowU, app_rowI, app_rowU, rep_rowI, rep_rowU, set_rowRat, app_rowRat, rep_rowRat, set_rowLoc, app_rowLoc, app_rowAct, app_rowStep, List.length_set, List.length_replicate, Int.toNat_natCast, Int.reduceToNat, evLen, evAppend, srcOf, Src.all, Src.len, Src.leaf, Src.leafN, evApart, aliveQ, joinV, drows_rep1, drows_rep2, drows_rep3, drows_rep4, drows_rep5, drows_rep6, drows_rep7, drows_rep8, mkVec, drows, evMk, List.length_map, take_mapF, drop_mapF, List.take_length, List.take_left, List.length_append, Nat.le_add_right, ite_self, List.take_of_length_le, evSlice, intOr, intOpd, Option.isSome_none, Option.isSome_some, Nat.sub_zero, loadQ, loadT, evBin, evUn, binT, binQ, chk, apartF, List.contains_cons, List.contains_nil, Bool.or_false, Bool.false_or, Bool.and_self, resQ, resV, resT, pickV, evCallT, evTake, evCall, fnOf, viewsT, isD, HO.drow, viewT, evInt2, evEq, eqV, eqK, eqC1, buildQ, buildT, buildRQ, buildRT, lens_I, lensA_I, lens_U, lensA_U, lens_Rat, lensA_Rat, lens_Loc, lensA_Loc, lens_Act, lensA_Act, lens_Step, lensA_Step, lens_Stamp, lensA_Stamp, List.mem_cons, List.not_mem_nil, or_false, forall_eq, putRow, dcells, get_nil, RetS, RetF, RetD, AV.frz, AV.frzL, AV.freshP, AV.freshL, DV.less, scal_int, scal_bool, scal_nil, scal_rowI, scal_rowU, scal_rowRat, scal_rowStep, Option.some.injEq, AV.tup.injEq, AV.agg.injEq, List.cons.injEq, DV.list.injEq, List.isEmpty_nil, Nat.le_refl, AV.d.injEq, DV.int.injEq, DV.bool.injEq, ↓reduceIte, Nat.reduceEqDiff, Nat.reduceAdd, Nat.reduceBEq, List.length_cons, List.length_nil, List.replicate_succ, List.replicate_zero, List.nil_append, List.cons_append, List.append_nil, List.foldl_cons, List.foldl_nil, List.map_cons, List.map_nil, List.all_cons, List.all_nil, List.set_cons_zero, List.set_cons_succ, List.getD_cons_zero, List.getD_cons_succ, List.drop_zero, List.drop_succ_cons, List.take_succ_cons, List.take_zero, List.flatten_cons, List.flatten_nil, Bool.true_and, Bool.and_true, Bool.not_true, Bool.not_false, true_and, and_true, true_or, or_true, Option.bind_some, Option.map_some, decide_true, decide_false, beq_self_eq_true, true_implies, false_implies, implies_true, not_true_eq_false, not_false_eq_true, and_self, Bool.and_false, Bool.false_and, Nat.reduceLT, Nat.reduceLeDiff, List.reverse_cons, List.reverse_nil, Nat.zero_add, Nat.add_zero, Bool.false_eq_true, List.getElem?_cons_zero, ef_copied, MemG.av, F1, G1, F2, G2, F3, G3, F4, G4, F5, G5, F6, G6, at_clone, loadO_vec, storeO_vec, rowsL_len, List.length_set, hge, li, List.getD_cons_zero]
            refine ⟨fun _ => ⟨⟨by omega, by omega⟩, hin, r9 i hin, ⟨by omega, by omega⟩, hin, ?_⟩, fun c => absurd c (by omega)⟩
            rw [wrap_succ hin (by unfold maxLen; omega)]
            by_cases hlt : i < h.f
            · refine FamNext.ices [8] (FamNext.thaw 0 (FamNext.thaw 1 (FamNext.thaw 4 (FamNext.thaw 5 (FamNext.thaw 6 (FamNext.mk [0, 1, 2, 3, 4, 5, 6, 7] (i + 1) (by simp) (by simp [State.thaw, ices_len]) ?_ (by show i + 1 ≤ a9.length; omega) (by show a9.length - (i + 1) < a9.length - i; omega)))))))
              rw [if_pos (show i + 1 ≤ h.f by omega)]
              simp only [State.can, AV.can, AV.canL, HO.can, canRows, idx, get_hit, get_next, Heap.at, Nat.reduceBEq, ↓reduceIte, Nat.reduceEqDiff, Option.getD_some, Option.map_some, List.map_cons, List.map_nil, List.getD_cons_zero, List.getD_cons_succ, State.ices, State.ice, HO.data, iceEnv, iceHeap, HO.ice, AV.ice, AV.iceL, State.thaw, thaw_mkVec, iceRows_cons, iceRows_nil, iceRows_set, iceRows_rowsL, iceL_data, canRows_rowsL, List.set_cons_zero, List.set_cons_succ, List.drop_zero, take_mapF, List.take_length, Bool.not_true, Nat.zero_add, Nat.le_refl, List.length_map, and_self, Option.map_some, drows, dcells, rowsL_set (d := default) hin, hcp]
              try rfl
            · have e : i = h.f := by omega
              refine FamNext.mk [0, 1, 2, 3, 4, 5, 6, 7, 8] (i + 1) (by simp) (by simp) ?_ (by show i + 1 ≤ a9.length; omega) (by show a9.length - (i + 1) < a9.length - i; omega)
              rw [if_neg (show ¬ i + 1 ≤ h.f by omega), rowsL_over hin, e]
              simp only [State.can, AV.can, AV.canL, HO.can, canRows, idx, get_hit, get_next, Heap.at, Nat.reduceBEq, ↓reduceIte, Nat.reduceEqDiff, Option.getD_some, Option.map_some, List.map_cons, List.map_nil, List.getD_cons_zero, List.getD_cons_succ, hcf9, hcp9, canRows_rowsL]
          · rw [if_neg hip]
            have hge2 : ∀ x, ((rowsL RatG.row (cpL a9 i)).set h.f x).getD i [] = [.d (.list ((a9.getD i default).1.map RatG.row) (a9.getD i default).2)] := fun x => by
              rw [List.getD_eq_getElem?_getD, List.getElem?_set_ne (by omega), ← List.getD_eq_getElem?_getD]; exact hge
            simp only [↓vck_skip, ↓vck_ret, ↓vck_exit, ↓vck_region, ↓vck_nilq, ↓nilTo_to, nilG_d, nilG_r, ↓vck_seq, ↓vck_cond, ↓vck_block, ↓vck_loop, ↓vckTo_to, ↓thenK_n, ↓thenK_x, ↓thenK_r, ↓blockK_n, ↓blockK_x, ↓blockK_o, ↓blockK_r, ↓regK_to, ↓retK_r, ↓retK_n, ↓loopV_n, ↓loopV_x, ↓loopV_r, ↓famK_n, ↓famK_x, ↓famK_r, ↓boolK_true, ↓boolK_false, ↓boolK_not, ↓boolK_dec, ↓boolK_and, nf_mk, RGk_end_f, RGk_end_t, RGk_op, RGk_guard, opK_to, evN, evCallN, grow_mk, feet_f, feet_t, foot_mk, stepK_mk, stepK_v, stepK_no, guardG_t, guardG_f, guardG_no, condG_b, evT, Opd.ev, get_hit, get_next, app_to, app_no, app_up, app_skip, app_skipn, know_mk, knowO_t, knowO_c, envFrom, reserve, keeps, LOp.isNew, State.prune, cellsQ, cellsT, AV.leaf, Heap.at, evLoad_ptr, evLoad_dptr, loadO_vec, loadO_dvec1, stepK_load_map, idx_I, idx_U, idx_Rat, idx_Loc, idx_Act, idx_Step, idx_Stamp, stepK_idx_ref, evStore_ptr, storeO_vec, stepK_store_map1, loadDT_f, rowI, rowU, RatG.row, LocG.row, ActG.row, StepG.row, StampG.row, ActG.av, ActG.eta, RatG.eta, LocG.eta, beq_true, beq_false, loadDT_t, set_rowI, set_rowU, app_rowI, app_rowU, rep_rowI, rep_rowU, set_rowRat, app_rowRat, rep_rowRat, set_rowLoc, app_rowLoc, app_rowAct, app_rowStep, List.length_set, List.length_replicate, Int.toNat_natCast, Int.reduceToNat, evLen, evAppend, srcOf, Src.all, Src.len, Src.leaf, Src.leafN, evApart, aliveQ, joinV, drows_rep1, drows_rep2, drows_rep3, drows_rep4, drows_rep5, drows_rep6, drows_rep7, drows_rep8, mkVec, drows, evMk, List.length_map, take_mapF, drop_mapF, List.take_length, List.take_left, List.length_append, Nat.le_add_right, ite_self, List.take_of_length_le, evSlice, intOr, intOpd, Option.isSome_none, Option.isSome_some, Nat.sub_zero, loadQ, loadT, evBin, evUn, binT, binQ, chk, apartF, List.contains_cons, List.contains_nil, Bool.or_false, Bool.false_or, Bool.and_self, resQ, resV, resT, pickV, evCallT, evTake, evCall, fnOf, viewsT, isD, HO.drow, viewT, evInt2, evEq, eqV, eqK, eqC1, buildQ, buildT, buildRQ, buildRT, lens_I, lensA_I, lens_U, lensA_U, lens_Rat, lensA_Rat, lens_Loc, lensA_Loc, lens_Act, lensA_Act, lens_Step, lensA_Step, lens_Stamp, lensA_Stamp, List.mem_cons, List.not_mem_nil, or_false, forall_eq, putRow, dcells, get_nil, RetS, RetF, RetD, AV.frz, AV.frzL, AV.freshP, AV.freshL, DV.less, scal_int, scal_bool, scal_nil, scal_rowI, scal_rowU, scal_rowRat, scal_rowStep, Option.some.injEq, AV.tup.injEq, AV.agg.injEq, List.cons.injEq, DV.list.injEq, List.isEmpty_nil, Nat.le_refl, AV.d.injEq, DV.int.injEq, DV.bool.injEq, ↓reduceIte, Nat.reduceEqDiff, Nat.reduceAdd, Nat.reduceBEq, List.length_cons, List.length_nil, List.replicate_succ, List.replicate_zero, List.nil_append, List.cons_append, List.append_nil, List.foldl_cons, List.foldl_nil, List.map_cons, List.map_nil, List.all_cons, List.all_nil, List.set_cons_zero, List.set_cons_succ, List.getD_cons_zero, List.getD_cons_succ, List.drop_zero, List.drop_succ_cons, List.take_succ_cons, List.take_zero, List.flatten_cons, List.flatten_nil, Bool.true_and, Bool.and_true, Bool.not_true, Bool.not_false, true_and, and_true, true_or, or_true, Option.bind_some, Option.map_some, decide_true, decide_false, beq_self_eq_true, true_implies, false_implies, implies_true, not_true_eq_false, not_false_eq_true, and_self, Bool.and_false, Bool.false_and, Nat.reduceLT, Nat.reduceLeDiff, List.reverse_cons, List.reverse_nil, Nat.zero_add, Nat.add_zero, Bool.false_eq_true, List.getElem?_cons_zero, ef_copied, MemG.av, F1, G1, F2, G2, F3, G3, F4, G4, F5, G5, F6, G6, at_clone, loadO_vec, storeO_vec, rowsL_len, List.length_set, hge2, li, List.getD_cons_zero]
            refine ⟨fun _ => ⟨⟨by omega, by omega⟩, hin, r9 i hin, ⟨by omega, by omega⟩, hin, ?_⟩, fun c => absurd c (by omega)⟩
            rw [wrap_succ hin (by unfold maxLen; omega)]
            have hcm : ∀ x y, ((rowsL RatG.row (cpL a9 i)).set h.f x).set i y = ((rowsL RatG.row (cpL a9 i)).set i y).set h.f x := fun x y => List.set_comm _ _ (by omega)
            refine FamNext.ices [9] (FamNext.thaw 0 (FamNext.thaw 1 (FamNext.thaw 4 (FamNext.thaw 5 (FamNext.thaw 6 (FamNext.mk [0, 1, 2, 3, 4, 5, 6, 7, 8] (i + 1) (by simp) (by simp [State.thaw, ices_len]) ?_ (by show i + 1 ≤ a9.length; omega) (by show a9.length - (i + 1) < a9.length - i; omega)))))))
            rw [if_neg (show ¬ i + 1 ≤ h.f by omega)]
            simp only [State.can, AV.can, AV.canL, HO.can, canRows, idx, get_hit, get_next, Heap.at, Nat.reduceBEq, ↓reduceIte, Nat.reduceEqDiff, Option.getD_some, Option.map_some, List.map_cons, List.map_nil, List.getD_cons_zero, List.getD_cons_succ, State.ices, State.ice, HO.data, iceEnv, iceHeap, HO.ice, AV.ice, AV.iceL, State.thaw, thaw_mkVec, iceRows_cons, iceRows_nil, iceRows_set, iceRows_rowsL, iceL_data, canRows_rowsL, List.set_cons_zero, List.set_cons_succ, List.drop_zero, take_mapF, List.take_length, Bool.not_true, Nat.zero_add, Nat.le_refl, List.length_map, and_self, Option.map_some, drows, dcells, hcm, rowsL_set (d := default) hin, hcp9, hcf9]
            try rfl
        · have e : i = a9.length := by omega
          subst e
          rw [if_neg (by omega)]
          simp only [↓vck_skip, ↓vck_ret, ↓vck_exit, ↓vck_region, ↓vck_nilq, ↓nilTo_to, nilG_d, nilG_r, ↓vck_seq, ↓vck_cond, ↓vck_block, ↓vck_loop, ↓vckTo_to, ↓thenK_n, ↓thenK_x, ↓thenK_r, ↓blockK_n, ↓blockK_x, ↓blockK_o, ↓blockK_r, ↓regK_to, ↓retK_r, ↓retK_n, ↓loopV_n, ↓loopV_x, ↓loopV_r, ↓famK_n, ↓famK_x, ↓famK_r, ↓boolK_true, ↓boolK_false, ↓boolK_not, ↓boolK_dec, ↓boolK_and, nf_mk, RGk_end_f, RGk_end_t, RGk_op, RGk_guard, opK_to, evN, evCallN, grow_mk, feet_f, feet_t, foot_mk, stepK_mk, stepK_v, stepK_no, guardG_t, guardG_f, guardG_no, condG_b, evT, Opd.ev, get_hit, get_next, app_to, app_no, app_up, app_skip, app_skipn, know_mk, knowO_t, knowO_c, envFrom, reserve, keeps, LOp.isNew, State.prune, cellsQ, cellsT, AV.leaf, Heap.at, evLoad_ptr, evLoad_dptr, loadO_vec, loadO_dvec1, stepK_load_map, idx_I, idx_U, idx_Rat, idx_Loc, idx_Act, idx_Step, idx_Stamp, stepK_idx_ref, evStore_ptr, storeO_vec, stepK_store_map1, loadDT_f, rowI, rowU, RatG.row, LocG.row, ActG.row, StepG.row, StampG.row, ActG.av, ActG.eta, RatG.eta, LocG.eta, beq_true, beq_false, loadDT_t, set_rowI, set_rowU, app_rowI, app_rowU, rep_rowI, rep_rowU, set_rowRat, app_rowRat, rep_rowRat, set_rowLoc, app_rowLoc, app_rowAct, app_rowStep, List.length_set, List.length_replicate, Int.toNat_natCast, Int.reduceToNat, evLen, evAppend, srcOf, Src.all, Src.len, Src.leaf, Src.leafN, evApart, aliveQ, joinV, drows_rep1, drows_rep2, drows_rep3, drows_rep4, drows_rep5, drows_rep6, drows_rep7, drows_rep8, mkVec, drows, evMk, List.length_map, take_mapF, drop_mapF, List.take_length, List.take_left, List.length_append, Nat.le_add_right, ite_self, List.take_of_length_le, evSlice, intOr, intOpd, Option.isSome_none, Option.isSome_some, Nat.sub_zero, loadQ, loadT, evBin, evUn, binT, binQ, chk, apartF, List.contains_cons, List.contains_nil, Bool.or_false, Bool.false_or, Bool.and_self, resQ, resV, resT, pickV, evCallT, evTake, evCall, fnOf, viewsT, isD, HO.drow, viewT, evInt2, evEq, eqV, eqK, eqC1, buildQ, buildT, buildRQ, buildRT, lens_I, lensA_I, lens_U, lensA_U, lens_Rat, lensA_Rat, lens_Loc, lensA_Loc, lens_Act, lensA_Act, lens_Step, lensA_Step, lens_Stamp, lensA_Stamp, List.mem_cons, List.not_mem_nil, or_false, forall_eq, putRow, dcells, get_nil, RetS, RetF, RetD, AV.frz, AV.frzL, AV.freshP, AV.freshL, DV.less, scal_int, scal_bool, scal_nil, scal_rowI, scal_rowU, scal_rowRat, scal_rowStep, Option.some.injEq, AV.tup.injEq, AV.agg.injEq, List.cons.injEq, DV.list.injEq, List.isEmpty_nil, Nat.le_refl, AV.d.injEq, DV.int.injEq, DV.bool.injEq, ↓reduceIte, Nat.reduceEqDiff, Nat.reduceAdd, Nat.reduceBEq, List.length_cons, List.length_nil, List.replicate_succ, List.replicate_zero, List.nil_append, List.cons_append, List.append_nil, List.foldl_cons, List.foldl_nil, List.map_cons, List.map_nil, List.all_cons, List.all_nil, List.set_cons_zero, List.set_cons_succ, List.getD_cons_zero, List.getD_cons_succ, List.drop_zero, List.drop_succ_cons, List.take_succ_cons, List.take_zero, List.flatten_cons, List.flatten_nil, Bool.true_and, Bool.and_true, Bool.not_true, Bool.not_false, true_and, and_true, true_or, or_true, Option.bind_some, Option.map_some, decide_true, decide_false, beq_self_eq_true, true_implies, false_implies, implies_true, not_true_eq_false, not_false_eq_true, and_self, Bool.and_false, Bool.false_and, Nat.reduceLT, Nat.reduceLeDiff, List.reverse_cons, List.reverse_nil, Nat.zero_add, Nat.add_zero, Bool.false_eq_true, List.getElem?_cons_zero, ef_copied, MemG.av, F1, G1, F2, G2, F3, G3, F4, G4, F5, G5, F6, G6, at_clone, loadO_vec, storeO_vec, rowsL_len, List.length_set, li, List.getD_cons_zero]
          refine ⟨fun c => absurd c (by omega), fun _ => ?_⟩
          have x1 : canRows [2, 3, 4, 5, 6, 7, 8] ((rowsL StampG.row (cpL a3 a3.length)).set h.p [.ref 7 3 0 (a3.getD h.p default).1.length true]) = some ((rowsL StampG.row (cpL a3 a3.length)).set h.p [.ref 5 3 0 (a3.getD h.p default).1.length true]) := canRows_set _ _ _ _ _ _ (canRows_rowsL _ _) rfl
          have x2 : canRows [2, 3, 4, 5, 6, 7, 8] ((rowsL RatG.row (cpL a9 a9.length)).set h.f [.ref 8 2 0 (a9.getD h.f default).1.length true]) = some ((rowsL RatG.row (cpL a9 a9.length)).set h.f [.ref 6 2 0 (a9.getD h.f default).1.length true]) := canRows_set _ _ _ _ _ _ (canRows_rowsL _ _) rfl
          refine RetG.mk [2, 3, 4, 5, 6, 7, 8] (by simp) (by simp) (fun i h => absurd h (by omega)) ?_ ?_
          · simp only [State.can, AV.can, AV.canL, HO.can, canRows, idx, get_hit, get_next, Heap.at, Nat.reduceBEq, ↓reduceIte, Nat.reduceEqDiff, Option.getD_some, Option.map_some, List.map_cons, List.map_nil, List.getD_cons_zero, List.getD_cons_succ]
          · simp only [State.can, AV.can, AV.canL, HO.can, canRows, idx, get_hit, get_next, Heap.at, Nat.reduceBEq, ↓reduceIte, Nat.reduceEqDiff, Option.getD_some, Option.map_some, List.map_cons, List.map_nil, List.getD_cons_zero, List.getD_cons_succ, x1, x2, canRows_rowsL]
theorem at_copied (h : Hole) (a1 : List LocG) (a2 : Bool) (a3 : List StampsF) (a4 : Bool) (a5 : List Int) (a6 : Bool) (a7 : List RatsF) (a8 : Bool) (a9 : List RatsF) (a10 : Bool) (H : Heap) :
    (ef_copied h).at [.agg [.d (.list (a1.map LocG.row) a2), .d (.list (a3.map rowStamps) a4), .d (.list (a5.map rowI) a6), .d (.list (a7.map rowRats) a8), .d (.list (a9.map rowRats) a10)]] H = some ((ef_copied h).eff ⟨a1, a2, a3, a4, a5, a6, a7, a8, a9, a10⟩ H) :=
  EfN.at_enc (e := ef_copied h) (fun (x y : MemG) e => by
    simp only [ef_copied, List.cons.injEq, and_true] at e
    exact MemG.av_inj _ _ e) ⟨a1, a2, a3, a4, a5, a6, a7, a8, a9, a10⟩ H
end Go.Ago

/- hist.copied, where nothing of it is changed afterwards. Conditions: none. -/
set_option maxRecDepth 100000
set_option linter.unusedSimpArgs false
set_option linter.unusedVariables false
namespace Go.Ago
structure CpOk0 (m : MemG) : Prop where
  locs : roomy m.locs.length 16
  vals : roomy m.vals.length 8
  past : roomy m.past.length 24
  marks : roomy m.marks.length 24
  fronts : roomy m.fronts.length 24
  pasts : ∀ r ∈ m.past, roomy r.1.length 24
  markss : ∀ r ∈ m.marks, roomy r.1.length 16
  frontss : ∀ r ∈ m.fronts, roomy r.1.length 16
def ef_copied0 : EfN where
  A := MemG
  args m := [m.av]
  ok m := CpOk0 m
  val m := .agg [.ref 0 2 0 m.locs.length true, .ref 2 1 0 m.past.length true, .ref 1 1 0 m.vals.length true, .ref 3 1 0 m.marks.length true, .ref 4 1 0 m.fronts.length true]
  news m := [.dvec 2 (m.locs.map LocG.row), .dvec 1 (m.vals.map rowI), .vec 1 (rowsL StampG.row (cpL m.past m.past.length)), .vec 1 (rowsL RatG.row (cpL m.marks m.marks.length)), .vec 1 (rowsL RatG.row (cpL m.fronts m.fronts.length))]
set_option maxHeartbeats 4000000 in
theorem eff0_hist_copied {T : Tab} {n1 n2 n3 n4 n5 n6 : Nat} (k1 : Knows T n1 (cloneS 1 8)) (k2 : Knows T n2 (cloneS 2 16)) (k3 : Knows T n3 (cloneS 2 16)) (k4 : Knows T n4 (cloneS 1 24)) (k5 : Knows T n5 (cloneS 1 24)) (k6 : Knows T n6 (cloneS 3 24)) :
    ef_copied0.Body T V_hist_copied (L_hist_copied n1 n2 n3 n4 n5 n6) R_hist_copied where
  ren m ρ := by simp [ef_copied0, MemG.av, AV.ren, AV.renL]
  body := by
    have F1 := k1.F; have G1 := k1.G; have F2 := k2.F; have G2 := k2.G; have F3 := k3.F; have G3 := k3.G; have F4 := k4.F; have G4 := k4.G; have F5 := k5.F; have G5 := k5.G; have F6 := k6.F; have G6 := k6.G
    rintro ⟨a1, a2, a3, a4, a5, a6, a7, a8, a9, a10⟩ ⟨c1, c2, c3, c4, c5, c6, c7, c8⟩
    simp only at c1 c2 c3 c4 c5 c6 c7 c8
    have m1 : a3.length ≤ 2 ^ 40 := c3.1
    have m2 : a7.length ≤ 2 ^ 40 := c4.1
    have m3 : a9.length ≤ 2 ^ 40 := c5.1
    have e_a3 : (a3.map rowStamps).map (·.map AV.d) = rowsL StampG.row (cpL a3 0) := by unfold rowsL cpL rowStamps; rw [List.map_map]; simp
    have r_a3 : ∀ i, i < a3.length → roomy (a3.getD i default).1.length 24 := fun i hi => c6 _ (by rw [getD_lt hi]; exact List.getElem_mem hi)
    have e_a7 : (a7.map rowRats).map (·.map AV.d) = rowsL RatG.row (cpL a7 0) := by unfold rowsL cpL rowRats; rw [List.map_map]; simp
    have r_a7 : ∀ i, i < a7.length → roomy (a7.getD i default).1.length 16 := fun i hi => c7 _ (by rw [getD_lt hi]; exact List.getElem_mem hi)
    have e_a9 : (a9.map rowRats).map (·.map AV.d) = rowsL RatG.row (cpL a9 0) := by unfold rowsL cpL rowRats; rw [List.map_map]; simp
    have r_a9 : ∀ i, i < a9.length → roomy (a9.getD i default).1.length 16 := fun i hi => c8 _ (by rw [getD_lt hi]; exact List.getElem_mem hi)
    unfold V_hist_copied L_hist_copied R_hist_copied
    simp only [↓vck_skip, ↓vck_ret, ↓vck_exit, ↓vck_region, ↓vck_nilq, ↓nilTo_to, nilG_d, nilG_r, ↓vck_seq, ↓vck_cond, ↓vck_block, ↓vck_loop, ↓vckTo_to, ↓thenK_n, ↓thenK_x, ↓thenK_r, ↓blockK_n, ↓blockK_x, ↓blockK_o, ↓blockK_r, ↓regK_to, ↓retK_r, ↓retK_n, ↓loopV_n, ↓loopV_x, ↓loopV_r, ↓famK_n, ↓famK_x, ↓famK_r, ↓boolK_true, ↓boolK_false, ↓boolK_not, ↓boolK_dec, ↓boolK_and, nf_mk, RGk_end_f, RGk_end_t, RGk_op, RGk_guard, opK_to, evN, evCallN, grow_mk, feet_f, feet_t, foot_mk, stepK_mk, stepK_v, stepK_no, guardG_t, guardG_f, guardG_no, condG_b, evT, Opd.ev, get_hit, get_next, app_to, app_no, app_up, app_skip, app_skipn, know_mk, knowO_t, knowO_c, envFrom, reserve, keeps, LOp.isNew, State.prune, cellsQ, cellsT, AV.leaf, Heap.at, evLoad_ptr, evLoad_dptr, loadO_vec, loadO_dvec1, stepK_load_map, idx_I, idx_U, idx_Rat, idx_Loc, idx_Act, idx_Step, idx_Stamp, stepK_idx_ref, evStore_ptr, storeO_vec, stepK_store_map1, loadDT_f, rowI, rowU, RatG.row, LocG.row, ActG.row, StepG.row, StampG.row, ActG.av, ActG.eta, RatG.eta, LocG.eta, beq_true, beq_false, loadDT_t, set_rowI, set_rowU, app_rowI, app_rowU, rep_rowI, rep_rowU, set_rowRat, app_rowRat, rep_rowRat, set_rowLoc, app_rowLoc, app_rowAct, app_rowStep, List.length_set, List.length_replicate, Int.toNat_natCast, Int.reduceToNat, evLen, evAppend, srcOf, Src.all, Src.len, Src.leaf, Src.leafN, evApart, aliveQ, joinV, drows_rep1, drows_rep2, drows_rep3, drows_rep4, drows_rep5, drows_rep6, drows_rep7, drows_rep8, mkVec, drows, evMk, List.length_map, take_mapF, drop_mapF, List.take_length, List.take_left, List.length_append, Nat.le_add_right, ite_self, List.take_of_length_le, evSlice, intOr, intOpd, Option.isSome_none, Option.isSome_some, Nat.sub_zero, loadQ, loadT, evBin, evUn, binT, binQ, chk, apartF, List.contains_cons, List.contains_nil, Bool.or_false, Bool.false_or, Bool.and_self, resQ, resV, resT, pickV, evCallT, evTake, evCall, fnOf, viewsT, isD, HO.drow, viewT, evInt2, evEq, eqV, eqK, eqC1, buildQ, buildT, buildRQ, buildRT, lens_I, lensA_I, lens_U, lensA_U, lens_Rat, lensA_Rat, lens_Loc, lensA_Loc, lens_Act, lensA_Act, lens_Step, lensA_Step, lens_Stamp, lensA_Stamp, List.mem_cons, List.not_mem_nil, or_false, forall_eq, putRow, dcells, get_nil, RetS, RetF, RetD, AV.frz, AV.frzL, AV.freshP, AV.freshL, DV.less, scal_int, scal_bool, scal_nil, scal_rowI, scal_rowU, scal_rowRat, scal_rowStep, Option.some.injEq, AV.tup.injEq, AV.agg.injEq, List.cons.injEq, DV.list.injEq, List.isEmpty_nil, Nat.le_refl, AV.d.injEq, DV.int.injEq, DV.bool.injEq, ↓reduceIte, Nat.reduceEqDiff, Nat.reduceAdd, Nat.reduceBEq, List.length_cons, List.length_nil, List.replicate_succ, List.replicate_zero, List.nil_append, List.cons_append, List.append_nil, List.foldl_cons, List.foldl_nil, List.map_cons, List.map_nil, List.all_cons, List.all_nil, List.set_cons_zero, List.set_cons_succ, List.getD_cons_zero, List.getD_cons_succ, List.drop_zero, List.drop_succ_cons, List.take_succ_cons, List.take_zero, List.flatten_cons, List.flatten_nil, Bool.true_and, Bool.and_true, Bool.not_true, Bool.not_false, true_and, and_true, true_or, or_true, Option.bind_some, Option.map_some, decide_true, decide_false, beq_self_eq_true, true_implies, false_implies, implies_true, not_true_eq_false, not_false_eq_true, and_self, Bool.and_false, Bool.false_and, Nat.reduceLT, Nat.reduceLeDiff, List.reverse_cons, List.reverse_nil, Nat.zero_add, Nat.add_zero, Bool.false_eq_true, List.getElem?_cons_zero, ef_copied0, MemG.av, F1, G1, F2, G2, F3, G3, F4, G4, F5, G5, F6, G6, at_clone]
    refine ⟨c1, c2, ⟨rows_len (f := rowStamps) (fun _ => rfl) _, c3⟩, ⟨rows_len (f := rowRats) (fun _ => rfl) _, c4⟩, ⟨rows_len (f := rowRats) (fun _ => rfl) _, c5⟩, ?_⟩
    refine Loop.thaw 4 (Nat.zero_le _) ?_
    refine Loop.fam [1, 28, 29, 2] (fun i : Nat => ⟨[(1, .ptr 0 5 0 0), (28, .d (.int .i64 a3.length)), (29, .d (.int .i64 i)), (2, .ptr 1 5 0 0)], [.vec 5 [[.ref 2 2 0 a1.length true, .ref 4 1 0 a3.length true, .ref 3 1 0 a5.length true, .ref 5 1 0 a7.length true, .ref 6 1 0 a9.length true]], .vec 5 [[.d (.list [] true), .d (.list [] true), .d (.list [] true), .d (.list [] true), .d (.list [] true)]], .dvec 2 (a1.map LocG.row), .dvec 1 (a5.map rowI), .vec 1 (rowsL StampG.row (cpL a3 i)), .dvec 1 (a7.map rowRats), .dvec 1 (a9.map rowRats)]⟩)
      (fun i => i ≤ a3.length) (fun i => a3.length - i) 0 [0, 1, 2, 3, 4, 5, 6] (by simp) (by simp [State.thaw]) (by
        simp only [State.can, AV.can, AV.canL, HO.can, canRows, idx, get_hit, get_next, Heap.at, Nat.reduceBEq, ↓reduceIte, Nat.reduceEqDiff, Option.getD_some, Option.map_some, List.map_cons, List.map_nil, List.getD_cons_zero, List.getD_cons_succ, State.thaw, HO.thaw, e_a3, canRows_rowsL, List.set_cons_zero, List.set_cons_succ]; rfl) (by omega) ?_
    intro i hi
    have hi : i ≤ a3.length := hi
    have li : (cpL a3 i).length = a3.length := cpL_len a3 i
    by_cases hin : i < a3.length
    · have hge := rowsL_cp (f := StampG.row) (d := default) hin
      simp only [↓vck_skip, ↓vck_ret, ↓vck_exit, ↓vck_region, ↓vck_nilq, ↓nilTo_to, nilG_d, nilG_r, ↓vck_seq, ↓vck_cond, ↓vck_block, ↓vck_loop, ↓vckTo_to, ↓thenK_n, ↓thenK_x, ↓thenK_r, ↓blockK_n, ↓blockK_x, ↓blockK_o, ↓blockK_r, ↓regK_to, ↓retK_r, ↓retK_n, ↓loopV_n, ↓loopV_x, ↓loopV_r, ↓famK_n, ↓famK_x, ↓famK_r, ↓boolK_true, ↓boolK_false, ↓boolK_not, ↓boolK_dec, ↓boolK_and, nf_mk, RGk_end_f, RGk_end_t, RGk_op, RGk_guard, opK_to, evN, evCallN, grow_mk, feet_f, feet_t, foot_mk, stepK_mk, stepK_v, stepK_no, guardG_t, guardG_f, guardG_no, condG_b, evT, Opd.ev, get_hit, get_next, app_to, app_no, app_up, app_skip, app_skipn, know_mk, knowO_t, knowO_c, envFrom, reserve, keeps, LOp.isNew, State.prune, cellsQ, cellsT, AV.leaf, Heap.at, evLoad_ptr, evLoad_dptr, loadO_vec, loadO_dvec1, stepK_load_map, idx_I, idx_U, idx_Rat, idx_Loc, idx_Act, idx_Step, idx_Stamp, stepK_idx_ref, evStore_ptr, storeO_vec, stepK_store_map1, loadDT_f, rowI, rowU, RatG.row, LocG.row, ActG.row, StepG.row, StampG.row, ActG.av, ActG.eta, RatG.eta, LocG.eta, beq_true, beq_false, loadDT_t, set_rowI, set_rowU, app_rowI, app_rowU, rep_rowI, rep_rowU, set_rowRat, app_rowRat, rep_rowRat, set_rowLoc, app_rowLoc, app_rowAct, app_rowStep, List.length_set, List.length_replicate, Int.toNat_natCast, Int.reduceToNat, evLen, evAppend, srcOf, Src.all, Src.len, Src.leaf, Src.leafN, evApart, aliveQ, joinV, drows_rep1, drows_rep2, drows_rep3, drows_rep4, drows_rep5, drows_rep6, drows_rep7, drows_rep8, mkVec, drows, evMk, List.length_map, take_mapF, drop_mapF, List.take_length, List.take_left, List.length_append, Nat.le_add_right, ite_self, List.take_of_length_le, evSlice, intOr, intOpd, Option.isSome_none, Option.isSome_some, Nat.sub_zero, loadQ, loadT, evBin, evUn, binT, binQ, chk, apartF, List.contains_cons, List.contains_nil, Bool.or_false, Bool.false_or, Bool.and_self, resQ, resV, resT, pickV, evCallT, evTake, evCall, fnOf, viewsT, isD, HO.drow, viewT, evInt2, evEq, eqV, eqK, eqC1, buildQ, buildT, buildRQ, buildRT, lens_I, lensA_I, lens_U, lensA_U, lens_Rat, lensA_Rat, lens_Loc, lensA_Loc, lens_Act, lensA_Act, lens_Step, lensA_Step, lens_Stamp, lensA_Stamp, List.mem_cons, List.not_mem_nil, or_false, forall_eq, putRow, dcells, get_nil, RetS, RetF, RetD, AV.frz, AV.frzL, AV.freshP, AV.freshL, DV.less, scal_int, scal_bool, scal_nil, scal_rowI, scal_rowU, scal_rowRat, scal_rowStep, Option.some.injEq, AV.tup.injEq, AV.agg.injEq, List.cons.injEq, DV.list.injEq, List.isEmpty_nil, Nat.le_refl, AV.d.injEq, DV.int.injEq, DV.bool.injEq, ↓reduceIte, Nat.reduceEqDiff, Nat.reduceAdd, Nat.reduceBEq, List.length_cons, List.length_nil, List.replicate_succ, List.replicate_zero, List.nil_append, List.cons_append, List.append_nil, List.foldl_cons, List.foldl_nil, List.map_cons, List.map_nil, List.all_cons, List.all_nil, List.set_cons_zero, List.set_cons_succ, List.getD_cons_zero, List.getD_cons_succ, List.drop_zero, List.drop_succ_cons, List.take_succ_cons, List.take_zero, List.flatten_cons, List.flatten_nil, Bool.true_and, Bool.and_true, Bool.not_true, Bool.not_false, true_and, and_true, true_or, or_true, Option.bind_some, Option.map_some, decide_true, decide_false, beq_self_eq_true, true_implies, false_implies, implies_true, not_true_eq_false, not_false_eq_true, and_self, Bool.and_false, Bool.false_and, Nat.reduceLT, Nat.reduceLeDiff, List.reverse_cons, List.reverse_nil, Nat.zero_add, Nat.add_zero, Bool.false_eq_true, List.getElem?_cons_zero, ef_copied0, MemG.av, F1, G1, F2, G2, F3, G3, F4, G4, F5, G5, F6, G6, at_clone, loadO_vec, storeO_vec, rowsL_len, List.length_set, hge, li, List.getD_cons_zero]
      refine ⟨fun _ => ⟨⟨by omega, by omega⟩, hin, r_a3 i hin, ⟨by omega, by omega⟩, hin, ?_⟩, fun c => absurd c (by omega)⟩
      rw [wrap_succ hin (by unfold maxLen; omega)]
      refine FamNext.ices [7] (FamNext.thaw 0 (FamNext.thaw 1 (FamNext.thaw 4 (FamNext.mk [0, 1, 2, 3, 4, 5, 6] (i + 1) (by simp) (by simp [State.thaw, ices_len]) ?_ (by show i + 1 ≤ a3.length; omega) (by show a3.length - (i + 1) < a3.length - i; omega)))))
      simp only [State.can, AV.can, AV.canL, HO.can, canRows, idx, get_hit, get_next, Heap.at, Nat.reduceBEq, ↓reduceIte, Nat.reduceEqDiff, Option.getD_some, Option.map_some, List.map_cons, List.map_nil, List.getD_cons_zero, List.getD_cons_succ, State.ices, State.ice, HO.data, iceEnv, iceHeap, HO.ice, AV.ice, AV.iceL, State.thaw, thaw_mkVec, iceRows_cons, iceRows_nil, iceRows_set, iceRows_rowsL, iceL_data, canRows_rowsL, List.set_cons_zero, List.set_cons_succ, List.drop_zero, take_mapF, List.take_length, Bool.not_true, Nat.zero_add, Nat.le_refl, List.length_map, and_self, Option.map_some, drows, dcells, rowsL_set (d := default) hin]
      try rfl
    · have e : i = a3.length := by omega
      subst e
      simp only [↓vck_skip, ↓vck_ret, ↓vck_exit, ↓vck_region, ↓vck_nilq, ↓nilTo_to, nilG_d, nilG_r, ↓vck_seq, ↓vck_cond, ↓vck_block, ↓vck_loop, ↓vckTo_to, ↓thenK_n, ↓thenK_x, ↓thenK_r, ↓blockK_n, ↓blockK_x, ↓blockK_o, ↓blockK_r, ↓regK_to, ↓retK_r, ↓retK_n, ↓loopV_n, ↓loopV_x, ↓loopV_r, ↓famK_n, ↓famK_x, ↓famK_r, ↓boolK_true, ↓boolK_false, ↓boolK_not, ↓boolK_dec, ↓boolK_and, nf_mk, RGk_end_f, RGk_end_t, RGk_op, RGk_guard, opK_to, evN, evCallN, grow_mk, feet_f, feet_t, foot_mk, stepK_mk, stepK_v, stepK_no, guardG_t, guardG_f, guardG_no, condG_b, evT, Opd.ev, get_hit, get_next, app_to, app_no, app_up, app_skip, app_skipn, know_mk, knowO_t, knowO_c, envFrom, reserve, keeps, LOp.isNew, State.prune, cellsQ, cellsT, AV.leaf, Heap.at, evLoad_ptr, evLoad_dptr, loadO_vec, loadO_dvec1, stepK_load_map, idx_I, idx_U, idx_Rat, idx_Loc, idx_Act, idx_Step, idx_Stamp, stepK_idx_ref, evStore_ptr, storeO_vec, stepK_store_map1, loadDT_f, rowI, rowU, RatG.row, LocG.row, ActG.row, StepG.row, StampG.row, ActG.av, ActG.eta, RatG.eta, LocG.eta, beq_true, beq_false, loadDT_t, set_rowI, set_rowU, app_rowI, app_rowU, rep_rowI, rep_rowU, set_rowRat, app_rowRat, rep_rowRat, set_rowLoc, app_rowLoc, app_rowAct, app_rowStep, List.length_set, List.length_replicate, Int.toNat_natCast, Int.reduceToNat, evLen, evAppend, srcOf, Src.all, Src.len, Src.leaf, Src.leafN, evApart, aliveQ, joinV, drows_rep1, drows_rep2, drows_rep3, drows_rep4, drows_rep5, drows_rep6, drows_rep7, drows_rep8, mkVec, drows, evMk, List.length_map, take_mapF, drop_mapF, List.take_length, List.take_left, List.length_append, Nat.le_add_right, ite_self, List.take_of_length_le, evSlice, intOr, intOpd, Option.isSome_none, Option.isSome_some, Nat.sub_zero, loadQ, loadT, evBin, evUn, binT, binQ, chk, apartF, List.contains_cons, List.contains_nil, Bool.or_false, Bool.false_or, Bool.and_self, resQ, resV, resT, pickV, evCallT, evTake, evCall, fnOf, viewsT, isD, HO.drow, viewT, evInt2, evEq, eqV, eqK, eqC1, buildQ, buildT, buildRQ, buildRT, lens_I, lensA_I, lens_U, lensA_U, lens_Rat, lensA_Rat, lens_Loc, lensA_Loc, lens_Act, lensA_Act, lens_Step, lensA_Step, lens_Stamp, lensA_Stamp, List.mem_cons, List.not_mem_nil, or_false, forall_eq, putRow, dcells, get_nil, RetS, RetF, RetD, AV.frz, AV.frzL, AV.freshP, AV.freshL, DV.less, scal_int, scal_bool, scal_nil, scal_rowI, scal_rowU, scal_rowRat, scal_rowStep, Option.some.injEq, AV.tup.injEq, AV.agg.injEq, List.cons.injEq, DV.list.injEq, List.isEmpty_nil, Nat.le_refl, AV.d.injEq, DV.int.injEq, DV.bool.injEq, ↓reduceIte, Nat.reduceEqDiff, Nat.reduceAdd, Nat.reduceBEq, List.length_cons, List.length_nil, List.replicate_succ, List.replicate_zero, List.nil_append, List.cons_append, List.append_nil, List.foldl_cons, List.foldl_nil, List.map_cons, List.map_nil, List.all_cons, List.all_nil, List.set_cons_zero, List.set_cons_succ, List.getD_cons_zero, List.getD_cons_succ, List.drop_zero, List.drop_succ_cons, List.take_succ_cons, List.take_zero, List.flatten_cons, List.flatten_nil, Bool.true_and, Bool.and_true, Bool.not_true, Bool.not_false, true_and, and_true, true_or, or_true, Option.bind_some, Option.map_some, decide_true, decide_false, beq_self_eq_true, true_implies, false_implies, implies_true, not_true_eq_false, not_false_eq_true, and_self, Bool.and_false, Bool.false_and, Nat.reduceLT, Nat.reduceLeDiff, List.reverse_cons, List.reverse_nil, Nat.zero_add, Nat.add_zero, Bool.false_eq_true, List.getElem?_cons_zero, ef_copied0, MemG.av, F1, G1, F2, G2, F3, G3, F4, G4, F5, G5, F6, G6, at_clone, loadO_vec, storeO_vec, rowsL_len, List.length_set, li, List.getD_cons_zero]
      refine ⟨fun c => absurd c (by omega), fun _ => ?_⟩
      clear hin li hi
      refine Loop.thaw 5 (Nat.zero_le _) ?_
      refine Loop.fam [1, 45, 46, 2] (fun i : Nat => ⟨[(1, .ptr 0 5 0 0), (45, .d (.int .i64 a7.length)), (46, .d (.int .i64 i)), (2, .ptr 1 5 0 0)], [.vec 5 [[.ref 2 2 0 a1.length true, .ref 4 1 0 a3.length true, .ref 3 1 0 a5.length true, .ref 5 1 0 a7.length true, .ref 6 1 0 a9.length true]], .vec 5 [[.d (.list [] true), .d (.list [] true), .d (.list [] true), .d (.list [] true), .d (.list [] true)]], .dvec 2 (a1.map LocG.row), .dvec 1 (a5.map rowI), .vec 1 (rowsL StampG.row (cpL a3 a3.length)), .vec 1 (rowsL RatG.row (cpL a7 i)), .dvec 1 (a9.map rowRats)]⟩)
        (fun i => i ≤ a7.length) (fun i => a7.length - i) 0 [0, 1, 2, 3, 4, 5, 6] (by simp) (by simp [State.thaw]) (by
          simp only [State.can, AV.can, AV.canL, HO.can, canRows, idx, get_hit, get_next, Heap.at, Nat.reduceBEq, ↓reduceIte, Nat.reduceEqDiff, Option.getD_some, Option.map_some, List.map_cons, List.map_nil, List.getD_cons_zero, List.getD_cons_succ, State.thaw, HO.thaw, e_a7, canRows_rowsL, List.set_cons_zero, List.set_cons_succ]; rfl) (by omega) ?_
      intro i hi
      have hi : i ≤ a7.length := hi
      have li : (cpL a7 i).length = a7.length := cpL_len a7 i
      by_cases hin : i < a7.length
      · have hge := rowsL_cp (f := RatG.row) (d := default) hin
        simp only [↓vck_skip, ↓vck_ret, ↓vck_exit, ↓vck_region, ↓vck_nilq, ↓nilTo_to, nilG_d, nilG_r, ↓vck_seq, ↓vck_cond, ↓vck_block, ↓vck_loop, ↓vckTo_to, ↓thenK_n, ↓thenK_x, ↓thenK_r, ↓blockK_n, ↓blockK_x, ↓blockK_o, ↓blockK_r, ↓regK_to, ↓retK_r, ↓retK_n, ↓loopV_n, ↓loopV_x, ↓loopV_r, ↓famK_n, ↓famK_x, ↓famK_r, ↓boolK_true, ↓boolK_false, ↓boolK_not, ↓boolK_dec, ↓boolK_and, nf_mk, RGk_end_f, RGk_end_t, RGk_op, RGk_guard, opK_to, evN, evCallN, grow_mk, feet_f, feet_t, foot_mk, stepK_mk, stepK_v, stepK_no, guardG_t, guardG_f, guardG_no, condG_b, evT, Opd.ev, get_hit, get_next, app_to, app_no, app_up, app_skip, app_skipn, know_mk, knowO_t, knowO_c, envFrom, reserve, keeps, LOp.isNew, State.prune, cellsQ, cellsT, AV.leaf, Heap.at, evLoad_ptr, evLoad_dptr, loadO_vec, loadO_dvec1, stepK_load_map, idx_I, idx_U, idx_Rat, idx_Loc, idx_Act, idx_Step, idx_Stamp, stepK_idx_ref, evStore_ptr, storeO_vec, stepK_store_map1, loadDT_f, rowI, rowU, RatG.row, LocG.row, ActG.row, StepG.row, StampG.row, ActG.av, ActG.eta, RatG.eta, LocG.eta, beq_true, beq_false, loadDT_t, set_rowI, set_rowU, app_rowI, app_rowU, rep_rowI, rep_rowU, set_rowRat, app_rowRat, rep_rowRat, set_rowLoc, app_rowLoc, app_rowAct, app_rowStep, List.length_set, List.length_replicate, Int.toNat_natCast, Int.reduceToNat, evLen, evAppend, srcOf, Src.all, Src.len, Src.leaf, Src.leafN, evApart, aliveQ, joinV, drows_rep1, drows_rep2, drows_rep3, drows_rep4, drows_rep5, drows_rep6, drows_rep7, drows_rep8, mkVec, drows, evMk, List.length_map, take_mapF, drop_mapF, List.take_length, List.take_left, List.length_append, Nat.le_add_right, ite_self, List.take_of_length_le, evSlice, intOr, intOpd, Option.isSome_none, Option.isSome_some, Nat.sub_zero, loadQ, loadT, evBin, evUn, binT, binQ, chk, apartF, List.contains_cons, List.contains_nil, Bool.or_false, Bool.false_or, Bool.and_self, resQ, resV, resT, pickV, evCallT, evTake, evCall, fnOf, viewsT, isD, HO.drow, viewT, evInt2, evEq, eqV, eqK, eqC1, buildQ, buildT, buildRQ, buildRT, lens_I, lensA_I, lens_U, lensA_U, lens_Rat, lensA_Rat, lens_Loc, lensA_Loc, lens_Act, lensA_Act, lens_Step, lensA_Step, lens_Stamp, lensA_Stamp, List.mem_cons, List.not_mem_nil, or_false, forall_eq, putRow, dcells, get_nil, RetS, RetF, RetD, AV.frz, AV.frzL, AV.freshP, AV.freshL, DV.less, scal_int, scal_bool, scal_nil, scal_rowI, scal_rowU, scal_rowRat, scal_rowStep, Option.some.injEq, AV.tup.injEq, AV.agg.injEq, List.cons.injEq, DV.list.injEq, List.isEmpty_nil, Nat.le_refl, AV.d.injEq, DV.int.injEq, DV.bool.injEq, ↓reduceIte, Nat.reduceEqDiff, Nat.reduceAdd, Nat.reduceBEq, List.length_cons, List.length_nil, List.replicate_succ, List.replicate_zero, List.nil_append, List.cons_append, List.append_nil, List.foldl_cons, List.foldl_nil, List.map_cons, List.map_nil, List.all_cons, List.all_nil, List.set_cons_zero, List.set_cons_succ, List.getD_cons_zero, List.getD_cons_succ, List.drop_zero, List.drop_succ_cons, List.take_succ_cons, List.take_zero, List.flatten_cons, List.flatten_nil, Bool.true_and, Bool.and_true, Bool.not_true, Bool.not_false, true_and, and_true, true_or, or_true, Option.bind_some, Option.map_some, decide_true, decide_false, beq_self_eq_true, true_implies, false_implies, implies_true, not_true_eq_false, not_false_eq_true, and_self, Bool.and_false, Bool.false_and, Nat.reduceLT, Nat.reduceLeDiff, List.reverse_cons, List.reverse_nil, Nat.zero_add, Nat.add_zero, Bool.false_eq_true, List.getElem?_cons_zero, ef_copied0, MemG.av, F1, G1, F2, G2, F3, G3, F4, G4, F5, G5, F6, G6, at_clone, loadO_vec, storeO_vec, rowsL_len, List.length_set, hge, li, List.getD_cons_zero]
        refine ⟨fun _ => ⟨⟨by omega, by omega⟩, hin, r_a7 i hin, ⟨by omega, by omega⟩, hin, ?_⟩, fun c => absurd c (by omega)⟩
        rw [wrap_succ hin (by unfold maxLen; omega)]
        refine FamNext.ices [7] (FamNext.thaw 0 (FamNext.thaw 1 (FamNext.thaw 4 (FamNext.thaw 5 (FamNext.mk [0, 1, 2, 3, 4, 5, 6] (i + 1) (by simp) (by simp [State.thaw, ices_len]) ?_ (by show i + 1 ≤ a7.length; omega) (by show a7.length - (i + 1) < a7.length - i; omega))))))
        simp only [State.can, AV.can, AV.canL, HO.can, canRows, idx, get_hit, get_next, Heap.at, Nat.reduceBEq, ↓reduceIte, Nat.reduceEqDiff, Option.getD_some, Option.map_some, List.map_cons, List.map_nil, List.getD_cons_zero, List.getD_cons_succ, State.ices, State.ice, HO.data, iceEnv, iceHeap, HO.ice, AV.ice, AV.iceL, State.thaw, thaw_mkVec, iceRows_cons, iceRows_nil, iceRows_set, iceRows_rowsL, iceL_data, canRows_rowsL, List.set_cons_zero, List.set_cons_succ, List.drop_zero, take_mapF, List.take_length, Bool.not_true, Nat.zero_add, Nat.le_refl, List.length_map, and_self, Option.map_some, drows, dcells, rowsL_set (d := default) hin]
        try rfl
      · have e : i = a7.length := by omega
        subst e
        simp only [↓vck_skip, ↓vck_ret, ↓vck_exit, ↓vck_region, ↓vck_nilq, ↓nilTo_to, nilG_d, nilG_r, ↓vck_seq, ↓vck_cond, ↓vck_block, ↓vck_loop, ↓vckTo_to, ↓thenK_n, ↓thenK_x, ↓thenK_r, ↓blockK_n, ↓blockK_x, ↓blockK_o, ↓blockK_r, ↓regK_to, ↓retK_r, ↓retK_n, ↓loopV_n, ↓loopV_x, ↓loopV_r, ↓famK_n, ↓famK_x, ↓famK_r, ↓boolK_true, ↓boolK_false, ↓boolK_not, ↓boolK_dec, ↓boolK_and, nf_mk, RGk_end_f, RGk_end_t, RGk_op, RGk_guard, opK_to, evN, evCallN, grow_mk, feet_f, feet_t, foot_mk, stepK_mk, stepK_v, stepK_no, guardG_t, guardG_f, guardG_no, condG_b, evT, Opd.ev, get_hit, get_next, app_to, app_no, app_up, app_skip, app_skipn, know_mk, knowO_t, knowO_c, envFrom, reserve, keeps, LOp.isNew, State.prune, cellsQ, cellsT, AV.leaf, Heap.at, evLoad_ptr, evLoad_dptr, loadO_vec, loadO_dvec1, stepK_load_map, idx_I, idx_U, idx_Rat, idx_Loc, idx_Act, idx_Step, idx_Stamp, stepK_idx_ref, evStore_ptr, storeO_vec, stepK_store_map1, loadDT_f, rowI, rowU, RatG.row, LocG.row, ActG.row, StepG.row, StampG.row, ActG.av, ActG.eta, RatG.eta, LocG.eta, beq_true, beq_false, loadDT_t, set_rowI, set_rowU, app_rowI, app_rowU, rep_rowI, rep_rowU, set_rowRat, app_rowRat, rep_rowRat, set_rowLoc, app_rowLoc, app_rowAct, app_rowStep, List.length_set, List.length_replicate, Int.toNat_natCast, Int.reduceToNat, evLen, evAppend, srcOf, Src.all, Src.len, Src.leaf, Src.leafN, evApart, aliveQ, joinV, drows_rep1, drows_rep2, drows_rep3, drows_rep4, drows_rep5, drows_rep6, drows_rep7, drows_rep8, mkVec, drows, evMk, List.length_map, take_mapF, drop_mapF, List.take_length, List.take_left, List.length_append, Nat.le_add_right, ite_self, List.take_of_length_le, evSlice, intOr, intOpd, Option.isSome_none, Option.isSome_some, Nat.sub_zero, loadQ, loadT, evBin, evUn, binT, binQ, chk, apartF, List.contains_cons, List.contains_nil, Bool.or_false, Bool.false_or, Bool.and_self, resQ, resV, resT, pickV, evCallT, evTake, evCall, fnOf, viewsT, isD, HO.drow, viewT, evInt2, evEq, eqV, eqK, eqC1, buildQ, buildT, buildRQ, buildRT, lens_I, lensA_I, lens_U, lensA_U, lens_Rat, lensA_Rat, lens_Loc, lensA_Loc, lens_Act, lensA_Act, lens_Step, lensA_Step, lens_Stamp, lensA_Stamp, List.mem_cons, List.not_mem_nil, or_false, forall_eq, putRow, dcells, get_nil, RetS, RetF, RetD, AV.frz, AV.frzL, AV.freshP, AV.freshL, DV.less, scal_int, scal_bool, scal_nil, scal_rowI, scal_rowU, scal_rowRat, scal_rowStep, Option.some.injEq, AV.tup.injEq, AV.agg.injEq, List.cons.injEq, DV.list.injEq, List.isEmpty_nil, Nat.le_refl, AV.d.injEq, DV.int.injEq, DV.bool.injEq, ↓reduceIte, Nat.reduceEqDiff, Nat.reduceAdd, Nat.reduceBEq, List.length_cons, List.length_nil, List.replicate_succ, List.replicate_zero, List.nil_append, List.cons_append, List.append_nil, List.foldl_cons, List.foldl_nil, List.map_cons, List.map_nil, List.all_cons, List.all_nil, List.set_cons_zero, List.set_cons_succ, List.getD_cons_zero, List.getD_cons_succ, List.drop_zero, List.drop_succ_cons, List.take_succ_cons, List.take_zero, List.flatten_cons, List.flatten_nil, Bool.true_and, Bool.and_true, Bool.not_true, Bool.not_false, true_and, and_true, true_or, or_true, Option.bind_some, Option.map_some, decide_true, decide_false, beq_self_eq_true, true_implies, false_implies, implies_true, not_true_eq_false, not_false_eq_true, and_self, Bool.and_false, Bool.false_and, Nat.reduceLT, Nat.reduceLeDiff, List.reverse_cons, List.reverse_nil, Nat.zero_add, Nat.add_zero, Bool.false_eq_true, List.getElem?_cons_zero, ef_copied0, MemG.av, F1, G1, F2, G2, F3, G3, F4, G4, F5, G5, F6, G6, at_clone, loadO_vec, storeO_vec, rowsL_len, List.length_set, li, List.getD_cons_zero]
        refine ⟨fun c => absurd c (by omega), fun _ => ?_⟩
        clear hin li hi
        refine Loop.thaw 6 (Nat.zero_le _) ?_
        refine Loop.fam [1, 62, 63, 2] (fun i : Nat => ⟨[(1, .ptr 0 5 0 0), (62, .d (.int .i64 a9.length)), (63, .d (.int .i64 i)), (2, .ptr 1 5 0 0)], [.vec 5 [[.ref 2 2 0 a1.length true, .ref 4 1 0 a3.length true, .ref 3 1 0 a5.length true, .ref 5 1 0 a7.length true, .ref 6 1 0 a9.length true]], .vec 5 [[.d (.list [] true), .d (.list [] true), .d (.list [] true), .d (.list [] true), .d (.list [] true)]], .dvec 2 (a1.map LocG.row), .dvec 1 (a5.map rowI), .vec 1 (rowsL StampG.row (cpL a3 a3.length)), .vec 1 (rowsL RatG.row (cpL a7 a7.length)), .vec 1 (rowsL RatG.row (cpL a9 i))]⟩)
          (fun i => i ≤ a9.length) (fun i => a9.length - i) 0 [0, 1, 2, 3, 4, 5, 6] (by simp) (by simp [State.thaw]) (by
            simp only [State.can, AV.can, AV.canL, HO.can, canRows, idx, get_hit, get_next, Heap.at, Nat.reduceBEq, ↓reduceIte, Nat.reduceEqDiff, Option.getD_some, Option.map_some, List.map_cons, List.map_nil, List.getD_cons_zero, List.getD_cons_succ, State.thaw, HO.thaw, e_a9, canRows_rowsL, List.set_cons_zero, List.set_cons_succ]; rfl) (by omega) ?_
        intro i hi
        have hi : i ≤ a9.length := hi
        have li : (cpL a9 i).length = a9.length := cpL_len a9 i
        by_cases hin : i < a9.length
        · have hge := rowsL_cp (f := RatG.row) (d := default) hin
          simp only [↓vck_skip, ↓vck_ret, ↓vck_exit, ↓vck_region, ↓vck_nilq, ↓nilTo_to, nilG_d, nilG_r, ↓vck_seq, ↓vck_cond, ↓vck_block, ↓vck_loop, ↓vckTo_to, ↓thenK_n, ↓thenK_x, ↓thenK_r, ↓blockK_n, ↓blockK_x, ↓blockK_o, ↓blockK_r, ↓regK_to, ↓retK_r, ↓retK_n, ↓loopV_n, ↓loopV_x, ↓loopV_r, ↓famK_n, ↓famK_x, ↓famK_r, ↓boolK_true, ↓boolK_false, ↓boolK_not, ↓boolK_dec, ↓boolK_and, nf_mk, RGk_end_f, RGk_end_t, RGk_op, RGk_guard, opK_to, evN, evCallN, grow_mk, feet_f, feet_t, foot_mk, stepK_mk, stepK_v, stepK_no, guardG_t, guardG_f, guardG_no, condG_b, evT, Opd.ev, get_hit, get_next, app_to, app_no, app_up, app_skip, app_skipn, know_mk, knowO_t, knowO_c, envFrom, reserve, keeps, LOp.isNew, State.prune, cellsQ, cellsT, AV.leaf, Heap.at, evLoad_ptr, evLoad_dptr, loadO_vec, loadO_dvec1, stepK_load_map, idx_I, idx_U, idx_Rat, idx_Loc, idx_Act, idx_Step, idx_Stamp, stepK_idx_ref, evStore_ptr, storeO_vec, stepK_store_map1, loadDT_f, rowI, rowU, RatG.row, LocG.row, ActG.row, StepG.row, StampG.row, ActG.av, ActG.eta, RatG.eta, LocG.eta, beq_true, beq_false, loadDT_t, set_rowI, set_rowU, app_rowI, app_rowU, rep_rowI, rep_rowU, set_rowRat, app_rowRat, rep_rowRat, set_rowLoc, app_rowLoc, app_rowAct, app_rowStep, List.length_set, List.length_replicate, Int.toNat_natCast, Int.reduceToNat, evLen, evAppend, srcOf, Src.all, Src.len, Src.leaf, Src.leafN, evApart, aliveQ, joinV, drows_rep1, drows_rep2, drows_rep3, drows_rep4, drows_rep5, drows_rep6, drows_rep7, drows_rep8, mkVec, drows, evMk, List.length_map, take_mapF, drop_mapF, List.take_length, List.take_left, List.length_append, Nat.le_add_right, ite_self, List.take_of_length_le, evSlice, intOr, intOpd, Option.isSome_none, Option.isSome_some, Nat.sub_zero, loadQ, loadT, evBin, evUn, binT, binQ, chk, apartF, List.contains_cons, List.contains_nil, Bool.or_false, Bool.false_or, Bool.and_self, resQ, resV, resT, pickV, evCallT, evTake, evCall, fnOf, viewsT, isD, HO.drow, viewT, evInt2, evEq, eqV, eqK, eqC1, buildQ, buildT, buildRQ, buildRT, lens_I, lensA_I, lens_U, lensA_U, lens_Rat, lensA_Rat, lens_Loc, lensA_Loc, lens_Act, lensA_Act, lens_Step, lensA_Step, lens_Stamp, lensA_Stamp, List.mem_cons, List.not_mem_nil, or_false, forall_eq, putRow, dcells, get_nil, RetS, RetF, RetD, AV.frz, AV.frzL, AV.freshP, AV.freshL, DV.less, scal_int, scal_bool, scal_nil, scal_rowI, scal_rowU, scal_rowRat, scal_rowStep, Option.some.injEq, AV.tup.injEq, AV.agg.injEq, List.cons.injEq, DV.list.injEq, List.isEmpty_nil, Nat.le_refl, AV.d.injEq, DV.int.injEq, DV.bool.injEq, ↓reduceIte, Nat.reduceEqDiff, Nat.reduceAdd, Nat.reduceBEq, List.length_cons, List.length_nil, List.replicate_succ, List.replicate_zero, List.nil_append, List.cons_append, List.append_nil, List.foldl_cons, List.foldl_nil, List.map_cons, List.map_nil, List.all_cons, List.all_nil, List.set_cons_zero, List.set_cons_succ, List.getD_cons_zero, List.getD_cons_succ, List.drop_zero, List.drop_succ_cons, List.take_succ_cons, List.take_zero, List.flatten_cons, List.flatten_nil, Bool.true_and, Bool.and_true, Bool.not_true, Bool.not_false, true_and, and_true, true_or, or_true, Option.bind_some, Option.map_some, decide_true, decide_false, beq_self_eq_true, true_implies, false_implies, implies_true, not_true_eq_false, not_false_eq_true, and_self, Bool.and_false, Bool.false_and, Nat.reduceLT, Nat.reduceLeDiff, List.reverse_cons, List.reverse_nil, Nat.zero_add, Nat.add_zero, Bool.false_eq_true, List.getElem?_cons_zero, ef_copied0, MemG.av, F1, G1, F2, G2, F3, G3, F4, G4, F5, G5, F6, G6, at_clone, loadO_vec, storeO_vec, rowsL_len, List.length_set, hge, li, List.getD_cons_zero]
          refine ⟨fun _ => ⟨⟨by omega, by omega⟩, hin, r_a9 i hin, ⟨by omega, by omega⟩, hin, ?_⟩, fun c => absurd c (by omega)⟩
          rw [wrap_succ hin (by unfold maxLen; omega)]
          refine FamNext.ices [7] (FamNext.thaw 0 (FamNext.thaw 1 (FamNext.thaw 4 (FamNext.thaw 5 (FamNext.thaw 6 (FamNext.mk [0, 1, 2, 3, 4, 5, 6] (i + 1) (by simp) (by simp [State.thaw, ices_len]) ?_ (by show i + 1 ≤ a9.length; omega) (by show a9.length - (i + 1) < a9.length - i; omega)))))))
          simp only [State.can, AV.can, AV.canL, HO.can, canRows, idx, get_hit, get_next, Heap.at, Nat.reduceBEq, ↓reduceIte, Nat.reduceEqDiff, Option.getD_some, Option.map_some, List.map_cons, List.map_nil, List.getD_cons_zero, List.getD_cons_succ, State.ices, State.ice, HO.data, iceEnv, iceHeap, HO.ice, AV.ice, AV.iceL, State.thaw, thaw_mkVec, iceRows_cons, iceRows_nil, iceRows_set, iceRows_rowsL, iceL_data, canRows_rowsL, List.set_cons_zero, List.set_cons_succ, List.drop_zero, take_mapF, List.take_length, Bool.not_true, Nat.zero_add, Nat.le_refl, List.length_map, and_self, Option.map_some, drows, dcells, rowsL_set (d := default) hin]
          try rfl
        · have e : i = a9.length := by omega
          subst e
          simp only [↓vck_skip, ↓vck_ret, ↓vck_exit, ↓vck_region, ↓vck_nilq, ↓nilTo_to, nilG_d, nilG_r, ↓vck_seq, ↓vck_cond, ↓vck_block, ↓vck_loop, ↓vckTo_to, ↓thenK_n, ↓thenK_x, ↓thenK_r, ↓blockK_n, ↓blockK_x, ↓blockK_o, ↓blockK_r, ↓regK_to, ↓retK_r, ↓retK_n, ↓loopV_n, ↓loopV_x, ↓loopV_r, ↓famK_n, ↓famK_x, ↓famK_r, ↓boolK_true, ↓boolK_false, ↓boolK_not, ↓boolK_dec, ↓boolK_and, nf_mk, RGk_end_f, RGk_end_t, RGk_op, RGk_guard, opK_to, evN, evCallN, grow_mk, feet_f, feet_t, foot_mk, stepK_mk, stepK_v, stepK_no, guardG_t, guardG_f, guardG_no, condG_b, evT, Opd.ev, get_hit, get_next, app_to, app_no, app_up, app_skip, app_skipn, know_mk, knowO_t, knowO_c, envFrom, reserve, keeps, LOp.isNew, State.prune, cellsQ, cellsT, AV.leaf, Heap.at, evLoad_ptr, evLoad_dptr, loadO_vec, loadO_dvec1, stepK_load_map, idx_I, idx_U, idx_Rat, idx_Loc, idx_Act, idx_Step, idx_Stamp, stepK_idx_ref, evStore_ptr, storeO_vec, stepK_store_map1, loadDT_f, rowI, rowU, RatG.row, LocG.row, ActG.row, StepG.row, StampG.row, ActG.av, ActG.eta, RatG.eta, LocG.eta, beq_true, beq_false, loadDT_t, set_rowI, set_rowU, app_rowI, app_rowU, rep_rowI, rep_rowU, set_rowRat, app_rowRat, rep_rowRat, set_rowLoc, app_rowLoc, app_rowAct, app_rowStep, List.length_set, List.length_replicate, Int.toNat_natCast, Int.reduceToNat, evLen, evAppend, srcOf, Src.all, Src.len, Src.leaf, Src.leafN, evApart, aliveQ, joinV, drows_rep1, drows_rep2, drows_rep3, drows_rep4, drows_rep5, drows_rep6, drows_rep7, drows_rep8, mkVec, drows, evMk, List.length_map, take_mapF, drop_mapF, List.take_length, List.take_left, List.length_append, Nat.le_add_right, ite_self, List.take_of_length_le, evSlice, intOr, intOpd, Option.isSome_none, Option.isSome_some, Nat.sub_zero, loadQ, loadT, evBin, evUn, binT, binQ, chk, apartF, List.contains_cons, List.contains_nil, Bool.or_false, Bool.false_or, Bool.and_self, resQ, resV, resT, pickV, evCallT, evTake, evCall, fnOf, viewsT, isD, HO.drow, viewT, evInt2, evEq, eqV, eqK, eqC1, buildQ, buildT, buildRQ, buildRT, lens_I, lensA_I, lens_U, lensA_U, lens_Rat, lensA_Rat, lens_Loc, lensA_Loc, lens_Act, lensA_Act, lens_Step, lensA_Step, lens_Stamp, lensA_Stamp, List.mem_cons, List.not_mem_nil, or_false, forall_eq, putRow, dcells, get_nil, RetS, RetF, RetD, AV.frz, AV.frzL, AV.freshP, AV.freshL, DV.less, scal_int, scal_bool, scal_nil, scal_rowI, scal_rowU, scal_rowRat, scal_rowStep, Option.some.injEq, AV.tup.injEq, AV.agg.injEq, List.cons.injEq, DV.list.injEq, List.isEmpty_nil, Nat.le_refl, AV.d.injEq, DV.int.injEq, DV.bool.injEq, ↓reduceIte, Nat.reduceEqDiff, Nat.reduceAdd, Nat.reduceBEq, List.length_cons, List.length_nil, List.replicate_succ, List.replicate_zero, List.nil_append, List.cons_append, List.append_nil, List.foldl_cons, List.foldl_nil, List.map_cons, List.map_nil, List.all_cons, List.all_nil, List.set_cons_zero, List.set_cons_succ, List.getD_cons_zero, List.getD_cons_succ, List.drop_zero, List.drop_succ_cons, List.take_succ_cons, List.take_zero, List.flatten_cons, List.flatten_nil, Bool.true_and, Bool.and_true, Bool.not_true, Bool.not_false, true_and, and_true, true_or, or_true, Option.bind_some, Option.map_some, decide_true, decide_false, beq_self_eq_true, true_implies, false_implies, implies_true, not_true_eq_false, not_false_eq_true, and_self, Bool.and_false, Bool.false_and, Nat.reduceLT, Nat.reduceLeDiff, List.reverse_cons, List.reverse_nil, Nat.zero_add, Nat.add_zero, Bool.false_eq_true, List.getElem?_cons_zero, ef_copied0, MemG.av, F1, G1, F2, G2, F3, G3, F4, G4, F5, G5, F6, G6, at_clone, loadO_vec, storeO_vec, rowsL_len, List.length_set, li, List.getD_cons_zero]
          refine ⟨fun c => absurd c (by omega), fun _ => ?_⟩
          clear hin li hi
          refine RetG.mk [2, 3, 4, 5, 6] (by simp) (by simp) (fun i h => absurd h (by omega)) ?_ ?_
          · simp only [State.can, AV.can, AV.canL, HO.can, canRows, idx, get_hit, get_next, Heap.at, Nat.reduceBEq, ↓reduceIte, Nat.reduceEqDiff, Option.getD_some, Option.map_some, List.map_cons, List.map_nil, List.getD_cons_zero, List.getD_cons_succ]
          · simp only [State.can, AV.can, AV.canL, HO.can, canRows, idx, get_hit, get_next, Heap.at, Nat.reduceBEq, ↓reduceIte, Nat.reduceEqDiff, Option.getD_some, Option.map_some, List.map_cons, List.map_nil, List.getD_cons_zero, List.getD_cons_succ, canRows_rowsL]
theorem cp0_eff (a1 : List LocG) (a2 : Bool) (a3 : List StampsF) (a4 : Bool) (a5 : List Int) (a6 : Bool) (a7 : List RatsF) (a8 : Bool) (a9 : List RatsF) (a10 : Bool) (H : Heap) :
    ef_copied0.at [.agg [.d (.list (a1.map LocG.row) a2), .d (.list (a3.map rowStamps) a4), .d (.list (a5.map rowI) a6), .d (.list (a7.map rowRats) a8), .d (.list (a9.map rowRats) a10)]] H =
      some ⟨CpOk0 ⟨a1, a2, a3, a4, a5, a6, a7, a8, a9, a10⟩, .agg [.ref (H.length + 0) 2 0 a1.length true, .ref (H.length + 2) 1 0 a3.length true, .ref (H.length + 1) 1 0 a5.length true, .ref (H.length + 3) 1 0 a7.length true, .ref (H.length + 4) 1 0 a9.length true], [],
        [.dvec 2 (a1.map LocG.row), .dvec 1 (a5.map rowI), .vec 1 (rowsL StampG.row (cpL a3 a3.length)), .vec 1 (rowsL RatG.row (cpL a7 a7.length)), .vec 1 (rowsL RatG.row (cpL a9 a9.length))], none⟩ := by
  have hd : ∀ {α : Type} (f : α → List DV) (L : List (List α × Bool)) (ρ : Nat → Nat), (rowsL f L).map (·.map (AV.ren ρ)) = rowsL f L := fun f L ρ => by
    unfold rowsL; rw [List.map_map]; exact List.map_congr_left fun x _ => by simp [AV.ren]
  have := EfN.at_enc (e := ef_copied0) (fun (x y : MemG) e => by
    simp only [ef_copied0, List.cons.injEq, and_true] at e
    exact MemG.av_inj _ _ e) ⟨a1, a2, a3, a4, a5, a6, a7, a8, a9, a10⟩ H
  refine this.trans ?_
  simp only [EfN.eff, ef_copied0, AV.ren, AV.renL, List.map_cons, List.map_nil, HO.ren, hd]
end Go.Ago

/- What may be read of a memory, and what was written last. Conditions: none. -/
set_option maxRecDepth 100000
set_option linter.unusedSimpArgs false
set_option linter.unusedVariables false
namespace Go.Ago

end Go.Ago

/- hist.Do: a step of a memory. Conditions: none. -/
set_option maxRecDepth 100000
set_option linter.unusedSimpArgs false
set_option linter.unusedVariables false
namespace Go.Ago

/-! ### Ends of calls, said with less -/
def SaysK (Post : AV → Heap → Prop) : AV → Heap → Prop := fun r H => ∃ S', Says 0 ⟨[(0, r)], H⟩ S' ∧ Post (S'.env.get 0) S'.heap
theorem ACalls.saysK {P : Program} {f : FuncId} {args : List AV} {Post : AV → Heap → Prop} (h : ACalls P f args [] (SaysK Post)) : ACalls P f args [] Post := by
  refine ⟨h.1, fun A φ w vals hs hz hr => (h.2 A φ w vals hs hz hr).mono ?_⟩
  rintro e w' ⟨v, r, H', φ', rfl, ⟨S', hw, hp⟩, hs', hrr, hext⟩
  have hsim : Sim P A 1 φ' ⟨[(0, r)], H'⟩ { tmps := #[v], defers := [] } w' := by
    refine ⟨hs', rfl, rfl, fun t => ?_⟩
    cases t with
    | zero => exact hrr
    | succ t => exact .undef _
  obtain ⟨φ2, hs2, he⟩ := hw P A 1 φ' _ w' hsim
  exact ⟨v, _, S'.heap, φ2, rfl, hp, hs2.heap, hs2.slots 0, hext.trans he⟩

/-! ### What a step does, in plain words -/
structure Mem where
  locs : List LocG
  past : List (List StampG)
  vals : List Int
  marks : List (List RatG)
  fronts : List (List RatG)
  deriving DecidableEq
/-- Lists, whatever stands behind their ends. -/
def inn {α : Type} (L : List (List α × Bool)) : List (List α) := L.map (·.1)
theorem inn_len {α : Type} (L : List (List α × Bool)) : (inn L).length = L.length := by simp [inn]
theorem inn_mem {α : Type} {L : List (List α × Bool)} {r : List α × Bool} (h : r ∈ L) : r.1 ∈ inn L := List.mem_map_of_mem h
theorem inn_get {α : Type} {L : List (List α × Bool)} {i : Nat} (h : i < L.length) : (inn L).getD i [] ∈ inn L := by
  rw [List.getD_eq_getElem?_getD, List.getElem?_eq_getElem (by rw [inn_len]; exact h)]; exact List.getElem_mem _
def MemG.plain (m : MemG) : Mem := ⟨m.locs, inn m.past, m.vals, inn m.marks, inn m.fronts⟩
def Mem.av (m : Mem) : MemG := ⟨m.locs, false, m.past.map (·, false), false, m.vals, false, m.marks.map (·, false), false, m.fronts.map (·, false), false⟩
def MemG.nil : MemG := ⟨[], false, [], false, [], false, [], false, [], false⟩
def rightQ (x : RatG) : Bool := rat_right x.num x.den
def cmpQ' (x y : RatG) : Int := rat_cmp x.num x.den y.num y.den
def leastQ (x : RatG) : RatG := ⟨(rat_least x.num x.den).1, (rat_least x.num x.den).2⟩
def isPl (k : Int) : Bool := decide (k = 1) || decide (k = 2)
def isAt (k : Int) : Bool := decide (k = 3) || decide (k = 4) || decide (k = 5)
def goodQ (m : Mem) (s : StepG) : Bool :=
  !decide (s.thread < 0) && !decide ((m.fronts.length : Int) ≤ s.thread) && s.act.right m.locs && (!isPl s.act.kind || rightQ s.when) && (isPl s.act.kind || decide (s.when = ⟨0, 0⟩))
def frontOf (m : Mem) (s : StepG) : List RatG := m.fronts.getD s.thread.toNat []
def pastOf (m : Mem) (s : StepG) : List StampG := m.past.getD s.act.loc.toNat []
def markOf (m : Mem) (s : StepG) : List RatG := m.marks.getD s.act.loc.toNat []
def doErr (m : Mem) (s : StepG) : Int :=
  if goodQ m s = false then 1
  else if s.act.kind = 1 then
    (if bsHas (pastOf m s) s.when = false then 4 else if cmpQ' s.when ((frontOf m s).getD s.act.loc.toNat default) < 0 then 6 else if ((pastOf m s).getD (bsAt (pastOf m s) s.when) default).val ≠ s.act.old then 3 else 0)
  else if s.act.kind = 2 then
    (if bsHas (pastOf m s) s.when = true then 5 else if cmpQ' s.when ((frontOf m s).getD s.act.loc.toNat default) ≤ 0 then 6 else 0)
  else if isAt s.act.kind = true ∧ s.act.kind ≠ 4 ∧ m.vals.getD s.act.loc.toNat 0 ≠ s.act.old then 3 else 0
def doMem (m : Mem) (s : StepG) : Mem :=
  if s.act.kind = 2 then
    { m with past := m.past.set s.act.loc.toNat (insG (pastOf m s) (bsAt (pastOf m s) s.when) ⟨leastQ s.when, s.act.new⟩), fronts := m.fronts.set s.thread.toNat ((frontOf m s).set s.act.loc.toNat (leastQ s.when)) }
  else if isAt s.act.kind = true then
    let both := joinG (frontOf m s) (markOf m s)
    if s.act.kind = 3 then { m with fronts := m.fronts.set s.thread.toNat both }
    else { m with vals := m.vals.set s.act.loc.toNat s.act.new, marks := m.marks.set s.act.loc.toNat both, fronts := m.fronts.set s.thread.toNat both }
  else m
def resM (m : Mem) (s : StepG) : MemG := if doErr m s = 0 then (doMem m s).av else .nil
/-- A memory that is in order. -/
structure Mem.Wf (b : Nat) (m : Mem) : Prop where
  locs : m.locs.length ≤ 16
  past : m.past.length = m.locs.length
  vals : m.vals.length = m.locs.length
  marks : m.marks.length = m.locs.length
  fronts : m.fronts.length ≤ 3
  pasts : ∀ r ∈ m.past, r.length ≤ b
  marksL : ∀ r ∈ m.marks, r.length ≤ m.locs.length
  marksA : ∀ i, i < m.locs.length → (m.locs.getD i default).atom = true → (m.marks.getD i []).length = m.locs.length
  frontsL : ∀ r ∈ m.fronts, r.length = m.locs.length
def StepG.av7 (s : StepG) : AV := .agg [.d (.int .i64 s.thread), .d (.int .i64 s.act.kind), .d (.int .i64 s.act.loc), .d (.int .i64 s.act.old), .d (.int .i64 s.act.new), .d (.int .i64 s.when.num), .d (.int .i64 s.when.den)]
def sp_Do : Sp := ⟨MemG × StepG, fun x => [x.1.av, x.2.av7], fun x => .data (x.1.plain.Wf 1000000) (.tup [(resM x.1.plain x.2).av, .d (.int .i64 (doErr x.1.plain x.2))]) false⟩
theorem cp_eff (h : Hole) (a1 : List LocG) (a2 : Bool) (a3 : List StampsF) (a4 : Bool) (a5 : List Int) (a6 : Bool) (a7 : List RatsF) (a8 : Bool) (a9 : List RatsF) (a10 : Bool) (H : Heap) :
    (ef_copied h).at [.agg [.d (.list (a1.map LocG.row) a2), .d (.list (a3.map rowStamps) a4), .d (.list (a5.map rowI) a6), .d (.list (a7.map rowRats) a8), .d (.list (a9.map rowRats) a10)]] H =
      some ⟨CpOk h ⟨a1, a2, a3, a4, a5, a6, a7, a8, a9, a10⟩, .agg [.ref (H.length + 0) 2 0 a1.length true, .ref (H.length + 2) 1 0 a3.length true, .ref (H.length + 1) 1 0 a5.length true, .ref (H.length + 3) 1 0 a7.length true, .ref (H.length + 4) 1 0 a9.length true], [],
        [.dvec 2 (a1.map LocG.row), .dvec 1 (a5.map rowI), .vec 1 ((rowsL StampG.row (cpL a3 a3.length)).set h.p [.ref (H.length + 5) 3 0 (a3.getD h.p default).1.length true]), .vec 1 (rowsL RatG.row (cpL a7 a7.length)),
          .vec 1 ((rowsL RatG.row (cpL a9 a9.length)).set h.f [.ref (H.length + 6) 2 0 (a9.getD h.f default).1.length true]), .dvec 3 ((a3.getD h.p default).1.map StampG.row), .dvec 2 ((a9.getD h.f default).1.map RatG.row)], none⟩ := by
  have hd : ∀ {α : Type} (f : α → List DV) (L : List (List α × Bool)) (ρ : Nat → Nat), (rowsL f L).map (·.map (AV.ren ρ)) = rowsL f L := fun f L ρ => by
    unfold rowsL; rw [List.map_map]; exact List.map_congr_left fun x _ => by simp [AV.ren]
  rw [at_copied]
  simp only [EfN.eff, ef_copied, AV.ren, AV.renL, List.map_cons, List.map_nil, HO.ren, List.map_set, hd]

theorem rowsL_all {α : Type} {f : α → List DV} {L : List (List α × Bool)} {i : Nat} (h : i < L.length) : (rowsL f (cpL L L.length)).getD i [] = [.d (.list (((inn L).getD i []).map f) false)] := by
  rw [rowsL_get (d := default) (by rw [cpL_len]; exact h)]
  have e : (cpL L L.length).getD i default = ((inn L).getD i [], false) := by
    unfold cpL inn
    rw [List.take_length, List.drop_length, List.append_nil, List.getD_eq_getElem?_getD, List.getElem?_map, List.getElem?_eq_getElem h, List.getD_eq_getElem?_getD, List.getElem?_map, List.getElem?_eq_getElem h]; rfl
  rw [e]
theorem nil_end {H : Heap} {e : Int} : SaysK (RetD (.tup [MemG.nil.av, .d (.int .i64 e)])) (.tup [.agg [.d (.list [] true), .d (.list [] true), .d (.list [] true), .d (.list [] true), .d (.list [] true)], .d (.int .i64 e)]) H :=
  ⟨_, Says.refl, rfl⟩
theorem cp_ok {m : MemG} {b : Nat} (h : m.plain.Wf b) (hb : b ≤ 1000000) : CpOk0 m := by
  have hl : m.locs.length ≤ 16 := h.locs
  have h1 : m.past.length = m.locs.length := by have := h.past; simpa [MemG.plain, inn_len] using this
  have h2 : m.vals.length = m.locs.length := h.vals
  have h3 : m.marks.length = m.locs.length := by have := h.marks; simpa [MemG.plain, inn_len] using this
  have h4 : m.fronts.length ≤ 3 := by have := h.fronts; simpa [MemG.plain, inn_len] using this
  refine ⟨roomy_of (by omega) (by omega), roomy_of (by omega) (by omega), roomy_of (by omega) (by omega), roomy_of (by omega) (by omega), roomy_of (by omega) (by omega), fun r hr => ?_, fun r hr => ?_, fun r hr => ?_⟩
  · have := h.pasts r.1 (inn_mem hr)
    exact roomy_of (by omega) (by omega)
  · have : r.1.length ≤ m.locs.length := h.marksL r.1 (inn_mem hr)
    exact roomy_of (by omega) (by omega)
  · have : r.1.length = m.locs.length := h.frontsL r.1 (inn_mem hr)
    exact roomy_of (by omega) (by omega)
theorem right_bounds {k o q v : Int} {l : List LocG} (hk : k ≠ 6) (h : ActG.right ⟨k, o, q, v⟩ l = true) : 0 ≤ o ∧ o < l.length := by
  unfold ActG.right at h
  rw [if_neg hk] at h
  simp only [Bool.and_eq_true, decide_eq_true_eq] at h
  omega
theorem end_err {m : Mem} {s : StepG} {e : Int} {H : Heap} (h : doErr m s = e) (he : e ≠ 0) :
    SaysK (RetD (.tup [(resM m s).av, .d (.int .i64 (doErr m s))])) (.tup [.agg [.d (.list [] true), .d (.list [] true), .d (.list [] true), .d (.list [] true), .d (.list [] true)], .d (.int .i64 e)]) H := by
  have e2 : resM m s = .nil := by unfold resM; rw [if_neg (by rw [h]; exact he)]
  rw [h, e2]
  exact nil_end
/-- A memory as it stands on the heap at the end. -/
structure AtEnd (H : Heap) (M : Mem) (i0 i1 i2 i3 i4 : Nat) : Prop where
  locs : H.at i0 = .dvec 2 (M.locs.map LocG.row)
  past : H.at i1 = .dvec 1 (M.past.map fun l => [.list (l.map StampG.row) false])
  vals : H.at i2 = .dvec 1 (M.vals.map rowI)
  marks : H.at i3 = .dvec 1 (M.marks.map fun l => [.list (l.map RatG.row) false])
  fronts : H.at i4 = .dvec 1 (M.fronts.map fun l => [.list (l.map RatG.row) false])
theorem AtEnd.frz {H : Heap} {M : Mem} {i0 i1 i2 i3 i4 n0 n1 n2 n3 n4 : Nat} (h : AtEnd H M i0 i1 i2 i3 i4) (l0 : n0 = M.locs.length) (l1 : n1 = M.past.length) (l2 : n2 = M.vals.length) (l3 : n3 = M.marks.length) (l4 : n4 = M.fronts.length) {e : Int} :
    AV.frz H (.tup [.agg [.ref i0 2 0 n0 true, .ref i1 1 0 n1 true, .ref i2 1 0 n2 true, .ref i3 1 0 n3 true, .ref i4 1 0 n4 true], .d (.int .i64 e)]) = some (.tup [M.av.av, .d (.int .i64 e)]) := by
  have one : ∀ {i sz n : Nat} {D : List (List DV)}, H.at i = .dvec sz D → n = D.length → AV.frz H (.ref i sz 0 n true) = some (.d (.list D false)) := fun {i sz n D} h e => by
    subst e
    simp only [AV.frz, h, Nat.zero_add, Nat.le_refl, and_self, if_true, List.drop_zero, List.take_length]
  have f0 := one h.locs (n := n0) (by simpa using l0)
  have f1 := one h.past (n := n1) (by simpa using l1)
  have f2 := one h.vals (n := n2) (by simpa using l2)
  have f3 := one h.marks (n := n3) (by simpa using l3)
  have f4 := one h.fronts (n := n4) (by simpa using l4)
  have e1 : (M.past.map fun l => [DV.list (l.map StampG.row) false]) = (M.past.map (·, false)).map rowStamps := by rw [List.map_map]; rfl
  have e3 : (M.marks.map fun l => [DV.list (l.map RatG.row) false]) = (M.marks.map (·, false)).map rowRats := by rw [List.map_map]; rfl
  have e4 : (M.fronts.map fun l => [DV.list (l.map RatG.row) false]) = (M.fronts.map (·, false)).map rowRats := by rw [List.map_map]; rfl
  rw [e1] at f1; rw [e3] at f3; rw [e4] at f4
  have hl : AV.frzL H [.ref i0 2 0 n0 true, .ref i1 1 0 n1 true, .ref i2 1 0 n2 true, .ref i3 1 0 n3 true, .ref i4 1 0 n4 true] = some [.d (.list (M.locs.map LocG.row) false), .d (.list ((M.past.map (·, false)).map rowStamps) false), .d (.list (M.vals.map rowI) false), .d (.list ((M.marks.map (·, false)).map rowRats) false), .d (.list ((M.fronts.map (·, false)).map rowRats) false)] := by
    simp only [AV.frzL, f0, f1, f2, f3, f4]
  have ha : AV.frz H (.agg [.ref i0 2 0 n0 true, .ref i1 1 0 n1 true, .ref i2 1 0 n2 true, .ref i3 1 0 n3 true, .ref i4 1 0 n4 true]) = some M.av.av := by
    rw [AV.frz, hl]; rfl
  rw [AV.frz, AV.frzL, ha]
  rfl
theorem end_ok {m : Mem} {s : StepG} {H H' : Heap} {ids : List Nat} {i0 i1 i2 i3 i4 n0 n1 n2 n3 n4 : Nat} (h : doErr m s = 0)
    (hs : State.ices ids ⟨[(0, .tup [.agg [.ref i0 2 0 n0 true, .ref i1 1 0 n1 true, .ref i2 1 0 n2 true, .ref i3 1 0 n3 true, .ref i4 1 0 n4 true], .d (.int .i64 0)])], H⟩ = ⟨[(0, .tup [.agg [.ref i0 2 0 n0 true, .ref i1 1 0 n1 true, .ref i2 1 0 n2 true, .ref i3 1 0 n3 true, .ref i4 1 0 n4 true], .d (.int .i64 0)])], H'⟩)
    (he : AtEnd H' (doMem m s) i0 i1 i2 i3 i4) (l0 : n0 = (doMem m s).locs.length) (l1 : n1 = (doMem m s).past.length) (l2 : n2 = (doMem m s).vals.length) (l3 : n3 = (doMem m s).marks.length) (l4 : n4 = (doMem m s).fronts.length) :
    SaysK (RetD (.tup [(resM m s).av, .d (.int .i64 (doErr m s))])) (.tup [.agg [.ref i0 2 0 n0 true, .ref i1 1 0 n1 true, .ref i2 1 0 n2 true, .ref i3 1 0 n3 true, .ref i4 1 0 n4 true], .d (.int .i64 0)]) H := by
  have e2 : resM m s = (doMem m s).av := by unfold resM; rw [if_pos h]
  rw [h, e2]
  refine ⟨_, ices_says ids _, ?_⟩
  rw [hs]
  exact he.frz l0 l1 l2 l3 l4
theorem cpL_all {α : Type} (L : List (List α × Bool)) : cpL L L.length = (inn L).map (·, false) := by
  unfold cpL inn; rw [List.take_length, List.drop_length, List.append_nil, List.map_map]; rfl
theorem mk_rowsL {α : Type} {f : α → List DV} (L : List (List α × Bool)) : mkVec 1 (rowsL f (cpL L L.length)) = .dvec 1 ((inn L).map fun l => [.list (l.map f) false]) := by
  rw [cpL_all]
  unfold mkVec
  rw [drows_rowsL, List.map_map]; rfl
theorem inn_at {α : Type} (L : List (List α × Bool)) (i : Nat) : (L.getD i default).1 = (inn L).getD i [] := by
  unfold inn
  rw [List.getD_eq_getElem?_getD, List.getD_eq_getElem?_getD, List.getElem?_map]
  cases L[i]? <;> rfl
/-! ### slices.Insert, as the caller meets it -/
open Classical in
noncomputable def insE (n : Nat) (o1 o2 : HO) (id k len : Nat) (i : Int) : Option Eff :=
  if h : ∃ x : List StampG × StampG × Nat, o1 = .dvec 3 (x.1.map StampG.row) ∧ o2 = .dvec 3 [x.2.1.row] ∧ len = x.1.length ∧ i = (x.2.2 : Int) ∧ id ≠ k then
    some ⟨h.choose.2.2 ≤ h.choose.1.length ∧ roomy (h.choose.1.length + 1) 24, .ref n 3 0 ((insG h.choose.1 h.choose.2.2 h.choose.2.1).map StampG.row).length true, [(id, .dead)], [.dvec 3 ((insG h.choose.1 h.choose.2.2 h.choose.2.1).map StampG.row)], some ⟨id, k, 3, (insG h.choose.1 h.choose.2.2 h.choose.2.1).map StampG.row⟩⟩
  else none
theorem insE_d {n id k : Nat} {l : List StampG} {i : Nat} {a b c : Int} (hne : (id == k) = false) :
    insE n (.dvec 3 (l.map StampG.row)) (.dvec 3 [[.int .i64 a, .int .i64 b, .int .i64 c]]) id k l.length (i : Int) =
      some ⟨i ≤ l.length ∧ roomy (l.length + 1) 24, .ref n 3 0 ((insG l i ⟨⟨a, b⟩, c⟩).map StampG.row).length true, [(id, .dead)], [.dvec 3 ((insG l i ⟨⟨a, b⟩, c⟩).map StampG.row)], some ⟨id, k, 3, (insG l i ⟨⟨a, b⟩, c⟩).map StampG.row⟩⟩ := by
  have hne' : id ≠ k := by simpa using hne
  have h : ∃ x : List StampG × StampG × Nat, HO.dvec 3 (l.map StampG.row) = .dvec 3 (x.1.map StampG.row) ∧ HO.dvec 3 [[.int .i64 a, .int .i64 b, .int .i64 c]] = .dvec 3 [x.2.1.row] ∧ l.length = x.1.length ∧ (i : Int) = (x.2.2 : Int) ∧ id ≠ k := ⟨(l, ⟨⟨a, b⟩, c⟩, i), rfl, rfl, rfl, rfl, hne'⟩
  unfold insE
  rw [dif_pos h]
  have e : h.choose = (l, ⟨⟨a, b⟩, c⟩, i) := by
    obtain ⟨e1, e2, _, e4, _⟩ := h.choose_spec
    generalize h.choose = x at e1 e2 e4
    obtain ⟨l', v', i'⟩ := x
    simp only [HO.dvec.injEq, true_and] at e1 e2
    have e1 := rows_inj StampG.row_inj e1
    have e2 := StampG.row_inj ⟨⟨a, b⟩, c⟩ v' (by simpa [StampG.row] using e2)
    rw [e1, ← e2, Int.ofNat_inj.1 e4]
  rw [e]
theorem at_InsertE {id k len : Nat} {i : Int} {H : Heap} : ef_Insert.at [.ref id 3 0 len true, .d (.int .i64 i), .ref k 3 0 1 true] H = insE H.length (H.at id) (H.at k) id k len i := by
  by_cases h : ∃ x : List StampG × StampG × Nat, H.at id = .dvec 3 (x.1.map StampG.row) ∧ H.at k = .dvec 3 [x.2.1.row] ∧ len = x.1.length ∧ i = (x.2.2 : Int) ∧ id ≠ k
  · obtain ⟨⟨l, v, j⟩, h1, h2, h3, h4, h5⟩ := h
    simp only at h1 h2 h3 h4
    subst h3; subst h4
    rw [at_Insert h1 h2 h5, h1, h2]
    obtain ⟨⟨a, b⟩, c⟩ := v
    exact (insE_d (by simpa using h5)).symm
  · unfold insE
    rw [dif_neg h]
    unfold EfI.at
    rw [dif_neg]
    rintro ⟨⟨⟨l, j, v⟩, id', k'⟩, e1, e2, e3, e4⟩
    simp only [ef_Insert, List.cons.injEq, AV.ref.injEq, AV.d.injEq, DV.int.injEq, and_true, true_and] at e1
    obtain ⟨⟨rfl, e5⟩, e6, rfl⟩ := e1
    exact h ⟨(l, v, j), e2, e3, e5.symm, e6.symm, e4⟩
end Go.Ago

/- hist.Do: all steps but writes. Conditions: none. -/
set_option maxRecDepth 100000
set_option linter.unusedSimpArgs false
set_option linter.unusedVariables false
namespace Go.Ago
set_option maxHeartbeats 4000000 in
theorem do_read {T : Tab} {n1 n2 n3 n4 n5 n6 n7 n8 n9 n10 : Nat} (k1 : Knows T n1 sp_act_Right) (k2 : Knows T n2 sp_plain) (k3 : Knows T n3 sp_rat_Right) (k4 : KnowsG T n4 ef_copied0.at) (k5 : Knows T n5 sp_hist_at) (k6 : Knows T n6 sp_rat_Cmp) (k7 : Knows T n7 sp_rat_Least) (k8 : KnowsG T n8 ef_Insert.at) (k9 : Knows T n9 sp_join) (k10 : Knows T n10 (cloneS 2 16))
    (m : MemG) (th o q v : Int) (w : RatG) (hm : m.plain.Wf 1000000) :
    vck T 0 V_hist_Do (L_hist_Do n1 n2 n3 n4 n5 n6 n7 n8 n9 n10) ⟨envFrom 0 [m.av, StepG.av7 ⟨th, ⟨1, o, q, v⟩, w⟩], []⟩ (retK R_hist_Do (SaysK (RetD (.tup [(resM m.plain ⟨th, ⟨1, o, q, v⟩, w⟩).av, .d (.int .i64 (doErr m.plain ⟨th, ⟨1, o, q, v⟩, w⟩))])))) := by
  have F1 := k1.F; have G1 := k1.G; have F2 := k2.F; have G2 := k2.G; have F3 := k3.F; have G3 := k3.G; have G4 := k4.G; have F5 := k5.F; have G5 := k5.G; have F6 := k6.F; have G6 := k6.G; have F7 := k7.F; have G7 := k7.G; have G8 := k8.G; have F9 := k9.F; have G9 := k9.G; have F10 := k10.F; have G10 := k10.G
  generalize hX : SaysK _ = X
  obtain ⟨a1, a2, a3, a4, a5, a6, a7, a8, a9, a10⟩ := m
  obtain ⟨wn, wd⟩ := w
  have hl : a1.length ≤ 16 := hm.locs
  have h1 : a3.length = a1.length := by have := hm.past; simpa [MemG.plain, inn_len] using this
  have h2 : a5.length = a1.length := hm.vals
  have h3 : a7.length = a1.length := by have := hm.marks; simpa [MemG.plain, inn_len] using this
  have h4 : a9.length ≤ 3 := by have := hm.fronts; simpa [MemG.plain, inn_len] using this
  have hcp := cp_ok hm (Nat.le_refl _)
  by_cases hb : (0 ≤ th ∧ th < a9.length) ∧ ActG.right ⟨1, o, q, v⟩ a1 = true
  · obtain ⟨⟨b1, b2⟩, b3⟩ := hb
    obtain ⟨b4, b5⟩ := right_bounds (by decide) b3
    have r6 := rowsL_all (f := StampG.row) (L := a3) (i := o.toNat) (by omega)
    have r8 := rowsL_all (f := RatG.row) (L := a9) (i := th.toNat) (by omega)
    have c1 : (th < 0) = False := by simp; omega
    have c2 : ((a9.length : Int) ≤ th) = False := by simp; omega
    unfold V_hist_Do L_hist_Do R_hist_Do
    simp (maxSteps := 3000000) only [↓vck_skip, ↓vck_ret, ↓vck_exit, ↓vck_region, ↓vck_nilq, ↓nilTo_to, nilG_d, nilG_r, ↓vck_seq, ↓vck_cond, ↓vck_block, ↓vck_loop, ↓vckTo_to, ↓thenK_n, ↓thenK_x, ↓thenK_r, ↓blockK_n, ↓blockK_x, ↓blockK_o, ↓blockK_r, ↓regK_to, ↓retK_r, ↓retK_n, ↓loopV_n, ↓loopV_x, ↓loopV_r, ↓famK_n, ↓famK_x, ↓famK_r, ↓boolK_true, ↓boolK_false, ↓boolK_not, ↓boolK_dec, ↓boolK_and, nf_mk, RGk_end_f, RGk_end_t, RGk_op, RGk_guard, opK_to, evN, evCallN, grow_mk, feet_f, feet_t, foot_mk, stepK_mk, stepK_v, stepK_no, guardG_t, guardG_f, guardG_no, condG_b, evT, Opd.ev, get_hit, get_next, app_to, app_no, app_up, app_skip, app_skipn, know_mk, knowO_t, knowO_c, envFrom, reserve, keeps, LOp.isNew, State.prune, cellsQ, cellsT, AV.leaf, Heap.at, evLoad_ptr, evLoad_dptr, loadO_vec, loadO_dvec1, stepK_load_map, idx_I, idx_U, idx_Rat, idx_Loc, idx_Act, idx_Step, idx_Stamp, stepK_idx_ref, evStore_ptr, storeO_vec, stepK_store_map1, loadDT_f, rowI, rowU, RatG.row, LocG.row, ActG.row, StepG.row, StampG.row, ActG.av, ActG.eta, RatG.eta, LocG.eta, beq_true, beq_false, loadDT_t, set_rowI, set_rowU, app_rowI, app_rowU, rep_rowI, rep_rowU, set_rowRat, app_rowRat, rep_rowRat, set_rowLoc, app_rowLoc, app_rowAct, app_rowStep, List.length_set, List.length_replicate, Int.toNat_natCast, Int.reduceToNat, evLen, evAppend, srcOf, Src.all, Src.len, Src.leaf, Src.leafN, evApart, aliveQ, joinV, drows_rep1, drows_rep2, drows_rep3, drows_rep4, drows_rep5, drows_rep6, drows_rep7, drows_rep8, mkVec, drows, evMk, List.length_map, take_mapF, drop_mapF, List.take_length, List.take_left, List.length_append, Nat.le_add_right, ite_self, List.take_of_length_le, evSlice, intOr, intOpd, Option.isSome_none, Option.isSome_some, Nat.sub_zero, loadQ, loadT, evBin, evUn, binT, binQ, chk, apartF, List.contains_cons, List.contains_nil, Bool.or_false, Bool.false_or, Bool.and_self, resQ, resV, resT, pickV, evCallT, evTake, evCall, fnOf, viewsT, isD, HO.drow, viewT, evInt2, evEq, eqV, eqK, eqC1, buildQ, buildT, buildRQ, buildRT, lens_I, lensA_I, lens_U, lensA_U, lens_Rat, lensA_Rat, lens_Loc, lensA_Loc, lens_Act, lensA_Act, lens_Step, lensA_Step, lens_Stamp, lensA_Stamp, List.mem_cons, List.not_mem_nil, or_false, forall_eq, putRow, dcells, get_nil, RetS, RetF, RetD, AV.frz, AV.frzL, AV.freshP, AV.freshL, DV.less, scal_int, scal_bool, scal_nil, scal_rowI, scal_rowU, scal_rowRat, scal_rowStep, Option.some.injEq, AV.tup.injEq, AV.agg.injEq, List.cons.injEq, DV.list.injEq, List.isEmpty_nil, Nat.le_refl, AV.d.injEq, DV.int.injEq, DV.bool.injEq, ↓reduceIte, Nat.reduceEqDiff, Nat.reduceAdd, Nat.reduceBEq, List.length_cons, List.length_nil, List.replicate_succ, List.replicate_zero, List.nil_append, List.cons_append, List.append_nil, List.foldl_cons, List.foldl_nil, List.map_cons, List.map_nil, List.all_cons, List.all_nil, List.set_cons_zero, List.set_cons_succ, List.getD_cons_zero, List.getD_cons_succ, List.drop_zero, List.drop_succ_cons, List.take_succ_cons, List.take_zero, List.flatten_cons, List.flatten_nil, Bool.true_and, Bool.and_true, Bool.not_true, Bool.not_false, true_and, and_true, true_or, or_true, Option.bind_some, Option.map_some, decide_true, decide_false, beq_self_eq_true, true_implies, false_implies, implies_true, not_true_eq_false, not_false_eq_true, and_self, Bool.and_false, Bool.false_and, Nat.reduceLT, Nat.reduceLeDiff, List.reverse_cons, List.reverse_nil, Nat.zero_add, Nat.add_zero, Bool.false_eq_true, List.getElem?_cons_zero, MemG.av, StepG.av7, F1, G1, F2, G2, F3, G3, G4, F5, G5, F6, G6, F7, G7, G8, F9, G9, F10, G10, at_act_Right, at_plain, at_rat_Right, cp0_eff, at_hist_at, at_rat_Cmp, at_rat_Least, at_join, at_clone, loadO_vec, storeO_vec, rowsL_len, cpL_len, List.length_set, Int.reduceEq, decide_true, decide_false, Bool.or_false, Bool.true_or, c1, c2, b3, r6, r8]
    have hgood : goodQ (MemG.plain ⟨a1, a2, a3, a4, a5, a6, a7, a8, a9, a10⟩) ⟨th, ⟨1, o, q, v⟩, ⟨wn, wd⟩⟩ = rat_right wn wd := by
      have e1 : decide (th < 0) = false := decide_eq_false (by omega)
      have e2 : decide ((a9.length : Int) ≤ th) = false := decide_eq_false (by omega)
      simp [goodQ, MemG.plain, inn_len, isPl, rightQ, b3, e1, e2]
    have hk1 : ((1 : Int) = 1) = True := by simp
    have hp : pastOf (MemG.plain ⟨a1, a2, a3, a4, a5, a6, a7, a8, a9, a10⟩) ⟨th, ⟨1, o, q, v⟩, ⟨wn, wd⟩⟩ = (inn a3).getD o.toNat [] := rfl
    have hf : frontOf (MemG.plain ⟨a1, a2, a3, a4, a5, a6, a7, a8, a9, a10⟩) ⟨th, ⟨1, o, q, v⟩, ⟨wn, wd⟩⟩ = (inn a9).getD th.toNat [] := rfl
    have hpl : ((inn a3).getD o.toNat []).length ≤ 1000000 := by
      exact hm.pasts _ (inn_get (L := a3) (i := o.toNat) (by omega))
    have hfl : ((inn a9).getD th.toNat []).length = a1.length := by
      exact hm.frontsL _ (inn_get (L := a9) (i := th.toNat) (by omega))
    have hD : doErr (MemG.plain ⟨a1, a2, a3, a4, a5, a6, a7, a8, a9, a10⟩) ⟨th, ⟨1, o, q, v⟩, ⟨wn, wd⟩⟩ = if rat_right wn wd = false then 1 else (if bsHas ((inn a3).getD o.toNat []) ⟨wn, wd⟩ = false then 4 else if rat_cmp wn wd (((inn a9).getD th.toNat []).getD o.toNat default).num (((inn a9).getD th.toNat []).getD o.toNat default).den < 0 then 6 else if (((inn a3).getD o.toNat []).getD (bsAt ((inn a3).getD o.toNat []) ⟨wn, wd⟩) default).val ≠ q then 3 else 0) := by
      unfold doErr
      rw [hgood, hp, hf]; rfl
    have hbs : bsHas ((inn a3).getD o.toNat []) ⟨wn, wd⟩ = true → bsAt ((inn a3).getD o.toNat []) ⟨wn, wd⟩ < ((inn a3).getD o.toNat []).length := fun h => by
      unfold bsHas at h
      simp only [Bool.and_eq_true, decide_eq_true_eq] at h
      exact h.1
    have hM : doMem (MemG.plain ⟨a1, a2, a3, a4, a5, a6, a7, a8, a9, a10⟩) ⟨th, ⟨1, o, q, v⟩, ⟨wn, wd⟩⟩ = MemG.plain ⟨a1, a2, a3, a4, a5, a6, a7, a8, a9, a10⟩ := by
      unfold doMem; rw [if_neg (by show ¬ (1 : Int) = 2; decide), if_neg (by show ¬ isAt 1 = true; decide)]
    subst hX
    refine ⟨fun g1 => ⟨hcp, ⟨by omega, by omega⟩, by omega, ⟨by omega, by omega⟩, by omega, by omega, fun g2 => ⟨⟨by omega, by omega⟩, fun g3 => ?_, fun g3 => ⟨⟨by omega, by omega⟩, by omega, ⟨by omega, by have := hbs g2; omega⟩, fun g4 => ?_, fun g4 => ?_⟩⟩, fun g2 => ?_⟩, fun g1 => ?_⟩
    · exact end_err (by rw [hD, g1, g2, if_neg (by simp), if_neg (by simp), if_pos g3]) (by decide)
    · refine end_ok (ids := [3]) (by rw [hD, g1, g2, if_neg (by simp), if_neg (by simp), if_neg g3, if_neg (by simpa using g4)]) (by simp only [State.ices, State.ice, HO.data, iceEnv, iceHeap, HO.ice, AV.ice, AV.iceL, iceRows_cons, iceRows_nil, iceRows_set, iceRows_rowsL, iceL_data, Heap.at, List.getD_cons_zero, List.getD_cons_succ, ↓reduceIte, Nat.reduceEqDiff, Option.map_some, Nat.zero_add, Nat.reduceAdd, Nat.reduceBEq]; rfl) (by rw [hM]; exact ⟨rfl, mk_rowsL _, rfl, mk_rowsL _, mk_rowsL _⟩) (by rw [hM]; rfl) (by rw [hM]; simp [MemG.plain, inn_len]) (by rw [hM]; rfl) (by rw [hM]; simp [MemG.plain, inn_len]) (by rw [hM]; simp [MemG.plain, inn_len])
    · exact end_err (by rw [hD, g1, g2, if_neg (by simp), if_neg (by simp), if_neg g3, if_pos (by simpa using g4)]) (by decide)
    · exact end_err (by rw [hD, g1, g2, if_neg (by simp), if_pos rfl]) (by decide)
    · exact end_err (by rw [hD, g1, if_pos rfl]) (by decide)
  · have hD : doErr (MemG.plain ⟨a1, a2, a3, a4, a5, a6, a7, a8, a9, a10⟩) ⟨th, ⟨1, o, q, v⟩, ⟨wn, wd⟩⟩ = 1 := by
      unfold doErr
      rw [if_pos]
      unfold goodQ
      have e : ((inn a9).length : Int) = a9.length := by rw [inn_len]
      show (!decide (th < 0) && !decide (((inn a9).length : Int) ≤ th) && ActG.right ⟨1, o, q, v⟩ a1 && _ && _) = false
      rw [e]
      by_cases c1 : th < 0
      · simp [c1]
      · by_cases c2 : (a9.length : Int) ≤ th
        · simp [c2]
        · have : ActG.right ⟨1, o, q, v⟩ a1 = false := by
            cases h : ActG.right ⟨1, o, q, v⟩ a1 with
            | false => rfl
            | true => exact absurd ⟨⟨by omega, by omega⟩, h⟩ hb
          simp [this]
    unfold V_hist_Do L_hist_Do R_hist_Do
    simp (maxSteps := 3000000) only [↓vck_skip, ↓vck_ret, ↓vck_exit, ↓vck_region, ↓vck_nilq, ↓nilTo_to, nilG_d, nilG_r, ↓vck_seq, ↓vck_cond, ↓vck_block, ↓vck_loop, ↓vckTo_to, ↓thenK_n, ↓thenK_x, ↓thenK_r, ↓blockK_n, ↓blockK_x, ↓blockK_o, ↓blockK_r, ↓regK_to, ↓retK_r, ↓retK_n, ↓loopV_n, ↓loopV_x, ↓loopV_r, ↓famK_n, ↓famK_x, ↓famK_r, ↓boolK_true, ↓boolK_false, ↓boolK_not, ↓boolK_dec, ↓boolK_and, nf_mk, RGk_end_f, RGk_end_t, RGk_op, RGk_guard, opK_to, evN, evCallN, grow_mk, feet_f, feet_t, foot_mk, stepK_mk, stepK_v, stepK_no, guardG_t, guardG_f, guardG_no, condG_b, evT, Opd.ev, get_hit, get_next, app_to, app_no, app_up, app_skip, app_skipn, know_mk, knowO_t, knowO_c, envFrom, reserve, keeps, LOp.isNew, State.prune, cellsQ, cellsT, AV.leaf, Heap.at, evLoad_ptr, evLoad_dptr, loadO_vec, loadO_dvec1, stepK_load_map, idx_I, idx_U, idx_Rat, idx_Loc, idx_Act, idx_Step, idx_Stamp, stepK_idx_ref, evStore_ptr, storeO_vec, stepK_store_map1, loadDT_f, rowI, rowU, RatG.row, LocG.row, ActG.row, StepG.row, StampG.row, ActG.av, ActG.eta, RatG.eta, LocG.eta, beq_true, beq_false, loadDT_t, set_rowI, set_rowU, app_rowI, app_rowU, rep_rowI, rep_rowU, set_rowRat, app_rowRat, rep_rowRat, set_rowLoc, app_rowLoc, app_rowAct, app_rowStep, List.length_set, List.length_replicate, Int.toNat_natCast, Int.reduceToNat, evLen, evAppend, srcOf, Src.all, Src.len, Src.leaf, Src.leafN, evApart, aliveQ, joinV, drows_rep1, drows_rep2, drows_rep3, drows_rep4, drows_rep5, drows_rep6, drows_rep7, drows_rep8, mkVec, drows, evMk, List.length_map, take_mapF, drop_mapF, List.take_length, List.take_left, List.length_append, Nat.le_add_right, ite_self, List.take_of_length_le, evSlice, intOr, intOpd, Option.isSome_none, Option.isSome_some, Nat.sub_zero, loadQ, loadT, evBin, evUn, binT, binQ, chk, apartF, List.contains_cons, List.contains_nil, Bool.or_false, Bool.false_or, Bool.and_self, resQ, resV, resT, pickV, evCallT, evTake, evCall, fnOf, viewsT, isD, HO.drow, viewT, evInt2, evEq, eqV, eqK, eqC1, buildQ, buildT, buildRQ, buildRT, lens_I, lensA_I, lens_U, lensA_U, lens_Rat, lensA_Rat, lens_Loc, lensA_Loc, lens_Act, lensA_Act, lens_Step, lensA_Step, lens_Stamp, lensA_Stamp, List.mem_cons, List.not_mem_nil, or_false, forall_eq, putRow, dcells, get_nil, RetS, RetF, RetD, AV.frz, AV.frzL, AV.freshP, AV.freshL, DV.less, scal_int, scal_bool, scal_nil, scal_rowI, scal_rowU, scal_rowRat, scal_rowStep, Option.some.injEq, AV.tup.injEq, AV.agg.injEq, List.cons.injEq, DV.list.injEq, List.isEmpty_nil, Nat.le_refl, AV.d.injEq, DV.int.injEq, DV.bool.injEq, ↓reduceIte, Nat.reduceEqDiff, Nat.reduceAdd, Nat.reduceBEq, List.length_cons, List.length_nil, List.replicate_succ, List.replicate_zero, List.nil_append, List.cons_append, List.append_nil, List.foldl_cons, List.foldl_nil, List.map_cons, List.map_nil, List.all_cons, List.all_nil, List.set_cons_zero, List.set_cons_succ, List.getD_cons_zero, List.getD_cons_succ, List.drop_zero, List.drop_succ_cons, List.take_succ_cons, List.take_zero, List.flatten_cons, List.flatten_nil, Bool.true_and, Bool.and_true, Bool.not_true, Bool.not_false, true_and, and_true, true_or, or_true, Option.bind_some, Option.map_some, decide_true, decide_false, beq_self_eq_true, true_implies, false_implies, implies_true, not_true_eq_false, not_false_eq_true, and_self, Bool.and_false, Bool.false_and, Nat.reduceLT, Nat.reduceLeDiff, List.reverse_cons, List.reverse_nil, Nat.zero_add, Nat.add_zero, Bool.false_eq_true, List.getElem?_cons_zero, MemG.av, StepG.av7, F1, G1, F2, G2, F3, G3, G4, F5, G5, F6, G6, F7, G7, G8, F9, G9, F10, G10, at_act_Right, at_plain, at_rat_Right, cp0_eff, at_hist_at, at_rat_Cmp, at_rat_Least, at_join, at_clone, loadO_vec, storeO_vec, rowsL_len, cpL_len, List.length_set, Int.reduceEq, decide_true, decide_false, Bool.or_false, Bool.true_or]
    subst hX
    exact ⟨fun _ => end_err hD (by decide), fun g1 => ⟨fun _ => end_err hD (by decide), fun g2 => ⟨fun g3 => absurd ⟨⟨by omega, by omega⟩, g3⟩ hb, fun _ => end_err hD (by decide)⟩⟩⟩
end Go.Ago

/- hist.Do: acts on atomic locations, and what is no act on a location. Conditions: none. -/
set_option maxRecDepth 100000
set_option linter.unusedSimpArgs false
set_option linter.unusedVariables false
namespace Go.Ago
theorem mk_rowsL_set {α : Type} {f : α → List DV} (L : List (List α × Bool)) (i : Nat) (x : List α) : mkVec 1 ((rowsL f (cpL L L.length)).set i [.d (.list (x.map f) false)]) = .dvec 1 (((inn L).set i x).map fun l => [.list (l.map f) false]) := by
  have e : (rowsL f (cpL L L.length)).set i [.d (.list (x.map f) false)] = rowsL f (((inn L).set i x).map (·, false)) := by
    rw [cpL_all]
    unfold rowsL
    rw [List.map_map, List.map_map, List.map_set]; rfl
  rw [e]
  unfold mkVec
  rw [drows_rowsL, List.map_map]; rfl
theorem right_atom {k o q v : Int} {l : List LocG} (hk : isAt k = true) (h : ActG.right ⟨k, o, q, v⟩ l = true) : (l.getD o.toNat default).atom = true := by
  have hk' : k = 3 ∨ k = 4 ∨ k = 5 := by simpa [isAt, or_assoc] using hk
  unfold ActG.right at h
  rw [if_neg (by show ¬ k = 6; omega)] at h
  simp only [Bool.and_eq_true, beq_iff_eq] at h
  have e : ActG.isA ⟨k, o, q, v⟩ = true := by rcases hk' with rfl | rfl | rfl <;> rfl
  rw [h.1.1.2]; exact e
theorem doErr_at {m : Mem} {s : StepG} (h : isAt s.act.kind = true) : doErr m s = if goodQ m s = false then 1 else if s.act.kind ≠ 4 ∧ m.vals.getD s.act.loc.toNat 0 ≠ s.act.old then 3 else 0 := by
  have hk : s.act.kind = 3 ∨ s.act.kind = 4 ∨ s.act.kind = 5 := by simpa [isAt, or_assoc] using h
  unfold doErr
  by_cases g : goodQ m s = false
  · rw [if_pos g, if_pos g]
  · rw [if_neg g, if_neg g, if_neg (by omega), if_neg (by omega)]
    by_cases c : s.act.kind ≠ 4 ∧ m.vals.getD s.act.loc.toNat 0 ≠ s.act.old
    · rw [if_pos c, if_pos ⟨h, c⟩]
    · rw [if_neg c, if_neg (fun h => c h.2)]
theorem joinG_len (a b : List RatG) : (joinG a b).length = a.length := by simp [joinG]
set_option maxHeartbeats 8000000 in
theorem do_get {T : Tab} {n1 n2 n3 n4 n5 n6 n7 n8 n9 n10 : Nat} (k1 : Knows T n1 sp_act_Right) (k2 : Knows T n2 sp_plain) (k3 : Knows T n3 sp_rat_Right) (k4 : KnowsG T n4 ef_copied0.at) (k5 : Knows T n5 sp_hist_at) (k6 : Knows T n6 sp_rat_Cmp) (k7 : Knows T n7 sp_rat_Least) (k8 : KnowsG T n8 ef_Insert.at) (k9 : Knows T n9 sp_join) (k10 : Knows T n10 (cloneS 2 16))
    (m : MemG) (th o q v : Int) (w : RatG) (hm : m.plain.Wf 1000000) :
    vck T 0 V_hist_Do (L_hist_Do n1 n2 n3 n4 n5 n6 n7 n8 n9 n10) ⟨envFrom 0 [m.av, StepG.av7 ⟨th, ⟨3, o, q, v⟩, w⟩], []⟩ (retK R_hist_Do (SaysK (RetD (.tup [(resM m.plain ⟨th, ⟨3, o, q, v⟩, w⟩).av, .d (.int .i64 (doErr m.plain ⟨th, ⟨3, o, q, v⟩, w⟩))])))) := by
  have F1 := k1.F; have G1 := k1.G; have F2 := k2.F; have G2 := k2.G; have F3 := k3.F; have G3 := k3.G; have G4 := k4.G; have F5 := k5.F; have G5 := k5.G; have F6 := k6.F; have G6 := k6.G; have F7 := k7.F; have G7 := k7.G; have G8 := k8.G; have F9 := k9.F; have G9 := k9.G; have F10 := k10.F; have G10 := k10.G
  generalize hX : SaysK _ = X
  obtain ⟨a1, a2, a3, a4, a5, a6, a7, a8, a9, a10⟩ := m
  obtain ⟨wn, wd⟩ := w
  have hl : a1.length ≤ 16 := hm.locs
  have h1 : a3.length = a1.length := by have := hm.past; simpa [MemG.plain, inn_len] using this
  have h2 : a5.length = a1.length := hm.vals
  have h3 : a7.length = a1.length := by have := hm.marks; simpa [MemG.plain, inn_len] using this
  have h4 : a9.length ≤ 3 := by have := hm.fronts; simpa [MemG.plain, inn_len] using this
  have hcp := cp_ok hm (Nat.le_refl _)
  by_cases hb : (0 ≤ th ∧ th < a9.length) ∧ ActG.right ⟨3, o, q, v⟩ a1 = true
  · obtain ⟨⟨b1, b2⟩, b3⟩ := hb
    obtain ⟨b4, b5⟩ := right_bounds (by decide) b3
    have b6 := right_atom (by decide) b3
    have r7 := rowsL_all (f := RatG.row) (L := a7) (i := o.toNat) (by omega)
    have r8 := rowsL_all (f := RatG.row) (L := a9) (i := th.toNat) (by omega)
    have c1 : (th < 0) = False := by simp; omega
    have c2 : ((a9.length : Int) ≤ th) = False := by simp; omega
    have hfl : ((inn a9).getD th.toNat []).length = a1.length := hm.frontsL _ (inn_get (L := a9) (i := th.toNat) (by omega))
    have hml : ((inn a7).getD o.toNat []).length = a1.length := hm.marksA o.toNat (by show o.toNat < a1.length; omega) b6
    have hjl := joinG_len ((inn a9).getD th.toNat []) ((inn a7).getD o.toNat [])
    have hgood : goodQ (MemG.plain ⟨a1, a2, a3, a4, a5, a6, a7, a8, a9, a10⟩) ⟨th, ⟨3, o, q, v⟩, ⟨wn, wd⟩⟩ = decide (wn = 0 ∧ wd = 0) := by
      have e1 : decide (th < 0) = false := decide_eq_false (by omega)
      have e2 : decide ((a9.length : Int) ≤ th) = false := decide_eq_false (by omega)
      simp [goodQ, MemG.plain, inn_len, isPl, b3, e1, e2]
    have hD : doErr (MemG.plain ⟨a1, a2, a3, a4, a5, a6, a7, a8, a9, a10⟩) ⟨th, ⟨3, o, q, v⟩, ⟨wn, wd⟩⟩ = if decide (wn = 0 ∧ wd = 0) = false then 1 else if a5.getD o.toNat 0 ≠ q then 3 else 0 := by
      rw [doErr_at (by show isAt 3 = true; decide), hgood]
      have e : ((3 : Int) ≠ 4 ∧ a5.getD o.toNat 0 ≠ q) = (a5.getD o.toNat 0 ≠ q) := by apply propext; exact ⟨fun h => h.2, fun h => ⟨by decide, h⟩⟩
      show (if _ then (1 : Int) else if ((3 : Int) ≠ 4 ∧ a5.getD o.toNat 0 ≠ q) then 3 else 0) = _
      simp only [e]
    have hM : doMem (MemG.plain ⟨a1, a2, a3, a4, a5, a6, a7, a8, a9, a10⟩) ⟨th, ⟨3, o, q, v⟩, ⟨wn, wd⟩⟩ = ⟨a1, inn a3, a5, inn a7, (inn a9).set th.toNat (joinG ((inn a9).getD th.toNat []) ((inn a7).getD o.toNat []))⟩ := by
      unfold doMem
      rw [if_neg (by show ¬ (3 : Int) = 2; decide), if_pos (by show isAt 3 = true; decide)]
      show (if (3 : Int) = 3 then _ else _) = _
      rw [if_pos rfl]; rfl
    unfold V_hist_Do L_hist_Do R_hist_Do
    simp (maxSteps := 3000000) only [↓vck_skip, ↓vck_ret, ↓vck_exit, ↓vck_region, ↓vck_nilq, ↓nilTo_to, nilG_d, nilG_r, ↓vck_seq, ↓vck_cond, ↓vck_block, ↓vck_loop, ↓vckTo_to, ↓thenK_n, ↓thenK_x, ↓thenK_r, ↓blockK_n, ↓blockK_x, ↓blockK_o, ↓blockK_r, ↓regK_to, ↓retK_r, ↓retK_n, ↓loopV_n, ↓loopV_x, ↓loopV_r, ↓famK_n, ↓famK_x, ↓famK_r, ↓boolK_true, ↓boolK_false, ↓boolK_not, ↓boolK_dec, ↓boolK_and, nf_mk, RGk_end_f, RGk_end_t, RGk_op, RGk_guard, opK_to, evN, evCallN, grow_mk, feet_f, feet_t, foot_mk, stepK_mk, stepK_v, stepK_no, guardG_t, guardG_f, guardG_no, condG_b, evT, Opd.ev, get_hit, get_next, app_to, app_no, app_up, app_skip, app_skipn, know_mk, knowO_t, knowO_c, envFrom, reserve, keeps, LOp.isNew, State.prune, cellsQ, cellsT, AV.leaf, Heap.at, evLoad_ptr, evLoad_dptr, loadO_vec, loadO_dvec1, stepK_load_map, idx_I, idx_U, idx_Rat, idx_Loc, idx_Act, idx_Step, idx_Stamp, stepK_idx_ref, evStore_ptr, storeO_vec, stepK_store_map1, loadDT_f, rowI, rowU, RatG.row, LocG.row, ActG.row, StepG.row, StampG.row, ActG.av, ActG.eta, RatG.eta, LocG.eta, beq_true, beq_false, loadDT_t, set_rowI, set_rowU, app_rowI, app_rowU, rep_rowI, rep_rowU, set_rowRat, app_rowRat, rep_rowRat, set_rowLoc, app_rowLoc, app_rowAct, app_rowStep, List.length_set, List.length_replicate, Int.toNat_natCast, Int.reduceToNat, evLen, evAppend, srcOf, Src.all, Src.len, Src.leaf, Src.leafN, evApart, aliveQ, joinV, drows_rep1, drows_rep2, drows_rep3, drows_rep4, drows_rep5, drows_rep6, drows_rep7, drows_rep8, mkVec, drows, evMk, List.length_map, take_mapF, drop_mapF, List.take_length, List.take_left, List.length_append, Nat.le_add_right, ite_self, List.take_of_length_le, evSlice, intOr, intOpd, Option.isSome_none, Option.isSome_some, Nat.sub_zero, loadQ, loadT, evBin, evUn, binT, binQ, chk, apartF, List.contains_cons, List.contains_nil, Bool.or_false, Bool.false_or, Bool.and_self, resQ, resV, resT, pickV, evCallT, evTake, evCall, fnOf, viewsT, isD, HO.drow, viewT, evInt2, evEq, eqV, eqK, eqC1, buildQ, buildT, buildRQ, buildRT, lens_I, lensA_I, lens_U, lensA_U, lens_Rat, lensA_Rat, lens_Loc, lensA_Loc, lens_Act, lensA_Act, lens_Step, lensA_Step, lens_Stamp, lensA_Stamp, List.mem_cons, List.not_mem_nil, or_false, forall_eq, putRow, dcells, get_nil, RetS, RetF, RetD, AV.frz, AV.frzL, AV.freshP, AV.freshL, DV.less, scal_int, scal_bool, scal_nil, scal_rowI, scal_rowU, scal_rowRat, scal_rowStep, Option.some.injEq, AV.tup.injEq, AV.agg.injEq, List.cons.injEq, DV.list.injEq, List.isEmpty_nil, Nat.le_refl, AV.d.injEq, DV.int.injEq, DV.bool.injEq, ↓reduceIte, Nat.reduceEqDiff, Nat.reduceAdd, Nat.reduceBEq, List.length_cons, List.length_nil, List.replicate_succ, List.replicate_zero, List.nil_append, List.cons_append, List.append_nil, List.foldl_cons, List.foldl_nil, List.map_cons, List.map_nil, List.all_cons, List.all_nil, List.set_cons_zero, List.set_cons_succ, List.getD_cons_zero, List.getD_cons_succ, List.drop_zero, List.drop_succ_cons, List.take_succ_cons, List.take_zero, List.flatten_cons, List.flatten_nil, Bool.true_and, Bool.and_true, Bool.not_true, Bool.not_false, true_and, and_true, true_or, or_true, Option.bind_some, Option.map_some, decide_true, decide_false, beq_self_eq_true, true_implies, false_implies, implies_true, not_true_eq_false, not_false_eq_true, and_self, Bool.and_false, Bool.false_and, Nat.reduceLT, Nat.reduceLeDiff, List.reverse_cons, List.reverse_nil, Nat.zero_add, Nat.add_zero, Bool.false_eq_true, List.getElem?_cons_zero, MemG.av, StepG.av7, F1, G1, F2, G2, F3, G3, G4, F5, G5, F6, G6, F7, G7, G8, F9, G9, F10, G10, at_act_Right, at_plain, at_rat_Right, cp0_eff, at_hist_at, at_rat_Cmp, at_rat_Least, at_join, at_clone, loadO_vec, storeO_vec, rowsL_len, cpL_len, List.length_set, Int.reduceEq, decide_true, decide_false, Bool.or_false, Bool.true_or, Bool.or_self, c1, c2, b3, r7, r8]
    subst hX
    have endg : ∀ {P : Prop}, (decide (wn = 0) = true ∧ decide (wd = 0) = true) → ¬ decide (wn = 0 ∧ wd = 0) = false := fun h => by
      simp only [decide_eq_true_eq] at h
      simp [h]
    have endb : (decide (wn = 0) = false ∨ decide (wd = 0) = false) → decide (wn = 0 ∧ wd = 0) = false := fun h => by
      simp only [decide_eq_false_iff_not] at h ⊢
      intro h2; rcases h with h | h
      · exact h h2.1
      · exact h h2.2
    refine ⟨fun g1 => ⟨hcp, ⟨by omega, by omega⟩, by omega, ⟨by omega, by omega⟩, by omega, fun g4 => ⟨⟨by omega, by omega⟩, by omega, ⟨by omega, by omega⟩, ⟨by omega, by omega⟩, by omega, ?_⟩, fun g4 => ?_⟩, fun g1 => ?_⟩
    · exact end_ok (ids := [3]) (by rw [hD, if_neg (endg (P := True) g1), if_neg (by simpa using g4)]) (by simp only [State.ices, State.ice, HO.data, iceEnv, iceHeap, HO.ice, AV.ice, AV.iceL, iceRows_cons, iceRows_nil, iceRows_set, iceRows_rowsL, iceL_data, Heap.at, List.getD_cons_zero, List.getD_cons_succ, ↓reduceIte, Nat.reduceEqDiff, Option.map_some, Nat.zero_add, Nat.reduceAdd, Nat.reduceBEq, List.drop_zero, take_mapF, List.take_length, List.length_map, Nat.le_refl, and_self, Bool.not_true]; rfl) (by rw [hM]; exact ⟨rfl, mk_rowsL _, rfl, mk_rowsL _, mk_rowsL_set _ _ _⟩) (by rw [hM]) (by rw [hM]; simp [inn_len]) (by rw [hM] <;> simp) (by rw [hM]; simp [inn_len]) (by rw [hM]; simp [inn_len])
    · exact end_err (by rw [hD, if_neg (endg (P := True) g1), if_pos (by simpa using g4)]) (by decide)
    · exact end_err (by rw [hD, if_pos (endb g1)]) (by decide)
  · have hD : doErr (MemG.plain ⟨a1, a2, a3, a4, a5, a6, a7, a8, a9, a10⟩) ⟨th, ⟨3, o, q, v⟩, ⟨wn, wd⟩⟩ = 1 := by
      unfold doErr
      rw [if_pos]
      unfold goodQ
      have e : ((inn a9).length : Int) = a9.length := by rw [inn_len]
      show (!decide (th < 0) && !decide (((inn a9).length : Int) ≤ th) && ActG.right ⟨3, o, q, v⟩ a1 && _ && _) = false
      rw [e]
      by_cases c1 : th < 0
      · simp [c1]
      · by_cases c2 : (a9.length : Int) ≤ th
        · simp [c2]
        · have : ActG.right ⟨3, o, q, v⟩ a1 = false := by
            cases h : ActG.right ⟨3, o, q, v⟩ a1 with
            | false => rfl
            | true => exact absurd ⟨⟨by omega, by omega⟩, h⟩ hb
          simp [this]
    unfold V_hist_Do L_hist_Do R_hist_Do
    simp (maxSteps := 3000000) only [↓vck_skip, ↓vck_ret, ↓vck_exit, ↓vck_region, ↓vck_nilq, ↓nilTo_to, nilG_d, nilG_r, ↓vck_seq, ↓vck_cond, ↓vck_block, ↓vck_loop, ↓vckTo_to, ↓thenK_n, ↓thenK_x, ↓thenK_r, ↓blockK_n, ↓blockK_x, ↓blockK_o, ↓blockK_r, ↓regK_to, ↓retK_r, ↓retK_n, ↓loopV_n, ↓loopV_x, ↓loopV_r, ↓famK_n, ↓famK_x, ↓famK_r, ↓boolK_true, ↓boolK_false, ↓boolK_not, ↓boolK_dec, ↓boolK_and, nf_mk, RGk_end_f, RGk_end_t, RGk_op, RGk_guard, opK_to, evN, evCallN, grow_mk, feet_f, feet_t, foot_mk, stepK_mk, stepK_v, stepK_no, guardG_t, guardG_f, guardG_no, condG_b, evT, Opd.ev, get_hit, get_next, app_to, app_no, app_up, app_skip, app_skipn, know_mk, knowO_t, knowO_c, envFrom, reserve, keeps, LOp.isNew, State.prune, cellsQ, cellsT, AV.leaf, Heap.at, evLoad_ptr, evLoad_dptr, loadO_vec, loadO_dvec1, stepK_load_map, idx_I, idx_U, idx_Rat, idx_Loc, idx_Act, idx_Step, idx_Stamp, stepK_idx_ref, evStore_ptr, storeO_vec, stepK_store_map1, loadDT_f, rowI, rowU, RatG.row, LocG.row, ActG.row, StepG.row, StampG.row, ActG.av, ActG.eta, RatG.eta, LocG.eta, beq_true, beq_false, loadDT_t, set_rowI, set_rowU, app_rowI, app_rowU, rep_rowI, rep_rowU, set_rowRat, app_rowRat, rep_rowRat, set_rowLoc, app_rowLoc, app_rowAct, app_rowStep, List.length_set, List.length_replicate, Int.toNat_natCast, Int.reduceToNat, evLen, evAppend, srcOf, Src.all, Src.len, Src.leaf, Src.leafN, evApart, aliveQ, joinV, drows_rep1, drows_rep2, drows_rep3, drows_rep4, drows_rep5, drows_rep6, drows_rep7, drows_rep8, mkVec, drows, evMk, List.length_map, take_mapF, drop_mapF, List.take_length, List.take_left, List.length_append, Nat.le_add_right, ite_self, List.take_of_length_le, evSlice, intOr, intOpd, Option.isSome_none, Option.isSome_some, Nat.sub_zero, loadQ, loadT, evBin, evUn, binT, binQ, chk, apartF, List.contains_cons, List.contains_nil, Bool.or_false, Bool.false_or, Bool.and_self, resQ, resV, resT, pickV, evCallT, evTake, evCall, fnOf, viewsT, isD, HO.drow, viewT, evInt2, evEq, eqV, eqK, eqC1, buildQ, buildT, buildRQ, buildRT, lens_I, lensA_I, lens_U, lensA_U, lens_Rat, lensA_Rat, lens_Loc, lensA_Loc, lens_Act, lensA_Act, lens_Step, lensA_Step, lens_Stamp, lensA_Stamp, List.mem_cons, List.not_mem_nil, or_false, forall_eq, putRow, dcells, get_nil, RetS, RetF, RetD, AV.frz, AV.frzL, AV.freshP, AV.freshL, DV.less, scal_int, scal_bool, scal_nil, scal_rowI, scal_rowU, scal_rowRat, scal_rowStep, Option.some.injEq, AV.tup.injEq, AV.agg.injEq, List.cons.injEq, DV.list.injEq, List.isEmpty_nil, Nat.le_refl, AV.d.injEq, DV.int.injEq, DV.bool.injEq, ↓reduceIte, Nat.reduceEqDiff, Nat.reduceAdd, Nat.reduceBEq, List.length_cons, List.length_nil, List.replicate_succ, List.replicate_zero, List.nil_append, List.cons_append, List.append_nil, List.foldl_cons, List.foldl_nil, List.map_cons, List.map_nil, List.all_cons, List.all_nil, List.set_cons_zero, List.set_cons_succ, List.getD_cons_zero, List.getD_cons_succ, List.drop_zero, List.drop_succ_cons, List.take_succ_cons, List.take_zero, List.flatten_cons, List.flatten_nil, Bool.true_and, Bool.and_true, Bool.not_true, Bool.not_false, true_and, and_true, true_or, or_true, Option.bind_some, Option.map_some, decide_true, decide_false, beq_self_eq_true, true_implies, false_implies, implies_true, not_true_eq_false, not_false_eq_true, and_self, Bool.and_false, Bool.false_and, Nat.reduceLT, Nat.reduceLeDiff, List.reverse_cons, List.reverse_nil, Nat.zero_add, Nat.add_zero, Bool.false_eq_true, List.getElem?_cons_zero, MemG.av, StepG.av7, F1, G1, F2, G2, F3, G3, G4, F5, G5, F6, G6, F7, G7, G8, F9, G9, F10, G10, at_act_Right, at_plain, at_rat_Right, cp0_eff, at_hist_at, at_rat_Cmp, at_rat_Least, at_join, at_clone, loadO_vec, storeO_vec, rowsL_len, cpL_len, List.length_set, Int.reduceEq, decide_true, decide_false, Bool.or_false, Bool.true_or, Bool.or_self]
    subst hX
    exact ⟨fun _ => end_err hD (by decide), fun g1 => ⟨fun _ => end_err hD (by decide), fun g2 => ⟨fun g3 => absurd ⟨⟨by omega, by omega⟩, g3⟩ hb, fun _ => end_err hD (by decide)⟩⟩⟩
set_option maxHeartbeats 8000000 in
theorem do_set {T : Tab} {n1 n2 n3 n4 n5 n6 n7 n8 n9 n10 : Nat} (k1 : Knows T n1 sp_act_Right) (k2 : Knows T n2 sp_plain) (k3 : Knows T n3 sp_rat_Right) (k4 : KnowsG T n4 ef_copied0.at) (k5 : Knows T n5 sp_hist_at) (k6 : Knows T n6 sp_rat_Cmp) (k7 : Knows T n7 sp_rat_Least) (k8 : KnowsG T n8 ef_Insert.at) (k9 : Knows T n9 sp_join) (k10 : Knows T n10 (cloneS 2 16))
    (m : MemG) (th o q v : Int) (w : RatG) (hm : m.plain.Wf 1000000) :
    vck T 0 V_hist_Do (L_hist_Do n1 n2 n3 n4 n5 n6 n7 n8 n9 n10) ⟨envFrom 0 [m.av, StepG.av7 ⟨th, ⟨4, o, q, v⟩, w⟩], []⟩ (retK R_hist_Do (SaysK (RetD (.tup [(resM m.plain ⟨th, ⟨4, o, q, v⟩, w⟩).av, .d (.int .i64 (doErr m.plain ⟨th, ⟨4, o, q, v⟩, w⟩))])))) := by
  have F1 := k1.F; have G1 := k1.G; have F2 := k2.F; have G2 := k2.G; have F3 := k3.F; have G3 := k3.G; have G4 := k4.G; have F5 := k5.F; have G5 := k5.G; have F6 := k6.F; have G6 := k6.G; have F7 := k7.F; have G7 := k7.G; have G8 := k8.G; have F9 := k9.F; have G9 := k9.G; have F10 := k10.F; have G10 := k10.G
  generalize hX : SaysK _ = X
  obtain ⟨a1, a2, a3, a4, a5, a6, a7, a8, a9, a10⟩ := m
  obtain ⟨wn, wd⟩ := w
  have hl : a1.length ≤ 16 := hm.locs
  have h1 : a3.length = a1.length := by have := hm.past; simpa [MemG.plain, inn_len] using this
  have h2 : a5.length = a1.length := hm.vals
  have h3 : a7.length = a1.length := by have := hm.marks; simpa [MemG.plain, inn_len] using this
  have h4 : a9.length ≤ 3 := by have := hm.fronts; simpa [MemG.plain, inn_len] using this
  have hcp := cp_ok hm (Nat.le_refl _)
  by_cases hb : (0 ≤ th ∧ th < a9.length) ∧ ActG.right ⟨4, o, q, v⟩ a1 = true
  · obtain ⟨⟨b1, b2⟩, b3⟩ := hb
    obtain ⟨b4, b5⟩ := right_bounds (by decide) b3
    have b6 := right_atom (by decide) b3
    have r7 := rowsL_all (f := RatG.row) (L := a7) (i := o.toNat) (by omega)
    have r8 := rowsL_all (f := RatG.row) (L := a9) (i := th.toNat) (by omega)
    have c1 : (th < 0) = False := by simp; omega
    have c2 : ((a9.length : Int) ≤ th) = False := by simp; omega
    have hfl : ((inn a9).getD th.toNat []).length = a1.length := hm.frontsL _ (inn_get (L := a9) (i := th.toNat) (by omega))
    have hml : ((inn a7).getD o.toNat []).length = a1.length := hm.marksA o.toNat (by show o.toNat < a1.length; omega) b6
    have hjl := joinG_len ((inn a9).getD th.toNat []) ((inn a7).getD o.toNat [])
    have hgood : goodQ (MemG.plain ⟨a1, a2, a3, a4, a5, a6, a7, a8, a9, a10⟩) ⟨th, ⟨4, o, q, v⟩, ⟨wn, wd⟩⟩ = decide (wn = 0 ∧ wd = 0) := by
      have e1 : decide (th < 0) = false := decide_eq_false (by omega)
      have e2 : decide ((a9.length : Int) ≤ th) = false := decide_eq_false (by omega)
      simp [goodQ, MemG.plain, inn_len, isPl, b3, e1, e2]
    have hD : doErr (MemG.plain ⟨a1, a2, a3, a4, a5, a6, a7, a8, a9, a10⟩) ⟨th, ⟨4, o, q, v⟩, ⟨wn, wd⟩⟩ = if decide (wn = 0 ∧ wd = 0) = false then 1 else 0 := by
      rw [doErr_at (by show isAt 4 = true; decide), hgood]
      congr 1
    have hM : doMem (MemG.plain ⟨a1, a2, a3, a4, a5, a6, a7, a8, a9, a10⟩) ⟨th, ⟨4, o, q, v⟩, ⟨wn, wd⟩⟩ = ⟨a1, inn a3, a5.set o.toNat v, (inn a7).set o.toNat (joinG ((inn a9).getD th.toNat []) ((inn a7).getD o.toNat [])), (inn a9).set th.toNat (joinG ((inn a9).getD th.toNat []) ((inn a7).getD o.toNat []))⟩ := by
      unfold doMem
      rw [if_neg (by show ¬ (4 : Int) = 2; decide), if_pos (by show isAt 4 = true; decide)]
      show (if (4 : Int) = 3 then _ else _) = _
      rw [if_neg (by decide)]; rfl
    unfold V_hist_Do L_hist_Do R_hist_Do
    simp (maxSteps := 3000000) only [↓vck_skip, ↓vck_ret, ↓vck_exit, ↓vck_region, ↓vck_nilq, ↓nilTo_to, nilG_d, nilG_r, ↓vck_seq, ↓vck_cond, ↓vck_block, ↓vck_loop, ↓vckTo_to, ↓thenK_n, ↓thenK_x, ↓thenK_r, ↓blockK_n, ↓blockK_x, ↓blockK_o, ↓blockK_r, ↓regK_to, ↓retK_r, ↓retK_n, ↓loopV_n, ↓loopV_x, ↓loopV_r, ↓famK_n, ↓famK_x, ↓famK_r, ↓boolK_true, ↓boolK_false, ↓boolK_not, ↓boolK_dec, ↓boolK_and, nf_mk, RGk_end_f, RGk_end_t, RGk_op, RGk_guard, opK_to, evN, evCallN, grow_mk, feet_f, feet_t, foot_mk, stepK_mk, stepK_v, stepK_no, guardG_t, guardG_f, guardG_no, condG_b, evT, Opd.ev, get_hit, get_next, app_to, app_no, app_up, app_skip, app_skipn, know_mk, knowO_t, knowO_c, envFrom, reserve, keeps, LOp.isNew, State.prune, cellsQ, cellsT, AV.leaf, Heap.at, evLoad_ptr, evLoad_dptr, loadO_vec, loadO_dvec1, stepK_load_map, idx_I, idx_U, idx_Rat, idx_Loc, idx_Act, idx_Step, idx_Stamp, stepK_idx_ref, evStore_ptr, storeO_vec, stepK_store_map1, loadDT_f, rowI, rowU, RatG.row, LocG.row, ActG.row, StepG.row, StampG.row, ActG.av, ActG.eta, RatG.eta, LocG.eta, beq_true, beq_false, loadDT_t, set_rowI, set_rowU, app_rowI, app_rowU, rep_rowI, rep_rowU, set_rowRat, app_rowRat, rep_rowRat, set_rowLoc, app_rowLoc, app_rowAct, app_rowStep, List.length_set, List.length_replicate, Int.toNat_natCast, Int.reduceToNat, evLen, evAppend, srcOf, Src.all, Src.len, Src.leaf, Src.leafN, evApart, aliveQ, joinV, drows_rep1, drows_rep2, drows_rep3, drows_rep4, drows_rep5, drows_rep6, drows_rep7, drows_rep8, mkVec, drows, evMk, List.length_map, take_mapF, drop_mapF, List.take_length, List.take_left, List.length_append, Nat.le_add_right, ite_self, List.take_of_length_le, evSlice, intOr, intOpd, Option.isSome_none, Option.isSome_some, Nat.sub_zero, loadQ, loadT, evBin, evUn, binT, binQ, chk, apartF, List.contains_cons, List.contains_nil, Bool.or_false, Bool.false_or, Bool.and_self, resQ, resV, resT, pickV, evCallT, evTake, evCall, fnOf, viewsT, isD, HO.drow, viewT, evInt2, evEq, eqV, eqK, eqC1, buildQ, buildT, buildRQ, buildRT, lens_I, lensA_I, lens_U, lensA_U, lens_Rat, lensA_Rat, lens_Loc, lensA_Loc, lens_Act, lensA_Act, lens_Step, lensA_Step, lens_Stamp, lensA_Stamp, List.mem_cons, List.not_mem_nil, or_false, forall_eq, putRow, dcells, get_nil, RetS, RetF, RetD, AV.frz, AV.frzL, AV.freshP, AV.freshL, DV.less, scal_int, scal_bool, scal_nil, scal_rowI, scal_rowU, scal_rowRat, scal_rowStep, Option.some.injEq, AV.tup.injEq, AV.agg.injEq, List.cons.injEq, DV.list.injEq, List.isEmpty_nil, Nat.le_refl, AV.d.injEq, DV.int.injEq, DV.bool.injEq, ↓reduceIte, Nat.reduceEqDiff, Nat.reduceAdd, Nat.reduceBEq, List.length_cons, List.length_nil, List.replicate_succ, List.replicate_zero, List.nil_append, List.cons_append, List.append_nil, List.foldl_cons, List.foldl_nil, List.map_cons, List.map_nil, List.all_cons, List.all_nil, List.set_cons_zero, List.set_cons_succ, List.getD_cons_zero, List.getD_cons_succ, List.drop_zero, List.drop_succ_cons, List.take_succ_cons, List.take_zero, List.flatten_cons, List.flatten_nil, Bool.true_and, Bool.and_true, Bool.not_true, Bool.not_false, true_and, and_true, true_or, or_true, Option.bind_some, Option.map_some, decide_true, decide_false, beq_self_eq_true, true_implies, false_implies, implies_true, not_true_eq_false, not_false_eq_true, and_self, Bool.and_false, Bool.false_and, Nat.reduceLT, Nat.reduceLeDiff, List.reverse_cons, List.reverse_nil, Nat.zero_add, Nat.add_zero, Bool.false_eq_true, List.getElem?_cons_zero, MemG.av, StepG.av7, F1, G1, F2, G2, F3, G3, G4, F5, G5, F6, G6, F7, G7, G8, F9, G9, F10, G10, at_act_Right, at_plain, at_rat_Right, cp0_eff, at_hist_at, at_rat_Cmp, at_rat_Least, at_join, at_clone, loadO_vec, storeO_vec, rowsL_len, cpL_len, List.length_set, Int.reduceEq, decide_true, decide_false, Bool.or_false, Bool.true_or, Bool.or_self, c1, c2, b3, r7, r8]
    subst hX
    have endg : ∀ {P : Prop}, (decide (wn = 0) = true ∧ decide (wd = 0) = true) → ¬ decide (wn = 0 ∧ wd = 0) = false := fun h => by
      simp only [decide_eq_true_eq] at h
      simp [h]
    have endb : (decide (wn = 0) = false ∨ decide (wd = 0) = false) → decide (wn = 0 ∧ wd = 0) = false := fun h => by
      simp only [decide_eq_false_iff_not] at h ⊢
      intro h2; rcases h with h | h
      · exact h h2.1
      · exact h h2.2
    refine ⟨fun g1 => ⟨hcp, ⟨by omega, by omega⟩, by omega, ⟨by omega, by omega⟩, by omega, ⟨by omega, by omega⟩, ⟨by omega, by omega⟩, by omega, roomy_of (by omega) (by omega), ⟨by omega, by omega⟩, by omega, ⟨by omega, by omega⟩, by omega, ?_⟩, fun g1 => ?_⟩
    · exact end_ok (ids := [10]) (by rw [hD, if_neg (endg (P := True) g1)]) (by simp only [State.ices, State.ice, HO.data, iceEnv, iceHeap, HO.ice, AV.ice, AV.iceL, iceRows_cons, iceRows_nil, iceRows_set, iceRows_rowsL, iceL_data, Heap.at, List.getD_cons_zero, List.getD_cons_succ, ↓reduceIte, Nat.reduceEqDiff, Option.map_some, Nat.zero_add, Nat.reduceAdd, Nat.reduceBEq, List.drop_zero, take_mapF, List.take_length, List.length_map, Nat.le_refl, and_self, Bool.not_true]; rfl) (by rw [hM]; exact ⟨rfl, mk_rowsL _, rfl, mk_rowsL_set _ _ _, mk_rowsL_set _ _ _⟩) (by rw [hM]) (by rw [hM]; simp [inn_len]) (by rw [hM] <;> simp) (by rw [hM]; simp [inn_len]) (by rw [hM]; simp [inn_len])
    · exact end_err (by rw [hD, if_pos (endb g1)]) (by decide)
  · have hD : doErr (MemG.plain ⟨a1, a2, a3, a4, a5, a6, a7, a8, a9, a10⟩) ⟨th, ⟨4, o, q, v⟩, ⟨wn, wd⟩⟩ = 1 := by
      unfold doErr
      rw [if_pos]
      unfold goodQ
      have e : ((inn a9).length : Int) = a9.length := by rw [inn_len]
      show (!decide (th < 0) && !decide (((inn a9).length : Int) ≤ th) && ActG.right ⟨4, o, q, v⟩ a1 && _ && _) = false
      rw [e]
      by_cases c1 : th < 0
      · simp [c1]
      · by_cases c2 : (a9.length : Int) ≤ th
        · simp [c2]
        · have : ActG.right ⟨4, o, q, v⟩ a1 = false := by
            cases h : ActG.right ⟨4, o, q, v⟩ a1 with
            | false => rfl
            | true => exact absurd ⟨⟨by omega, by omega⟩, h⟩ hb
          simp [this]
    unfold V_hist_Do L_hist_Do R_hist_Do
    simp (maxSteps := 3000000) only [↓vck_skip, ↓vck_ret, ↓vck_exit, ↓vck_region, ↓vck_nilq, ↓nilTo_to, nilG_d, nilG_r, ↓vck_seq, ↓vck_cond, ↓vck_block, ↓vck_loop, ↓vckTo_to, ↓thenK_n, ↓thenK_x, ↓thenK_r, ↓blockK_n, ↓blockK_x, ↓blockK_o, ↓blockK_r, ↓regK_to, ↓retK_r, ↓retK_n, ↓loopV_n, ↓loopV_x, ↓loopV_r, ↓famK_n, ↓famK_x, ↓famK_r, ↓boolK_true, ↓boolK_false, ↓boolK_not, ↓boolK_dec, ↓boolK_and, nf_mk, RGk_end_f, RGk_end_t, RGk_op, RGk_guard, opK_to, evN, evCallN, grow_mk, feet_f, feet_t, foot_mk, stepK_mk, stepK_v, stepK_no, guardG_t, guardG_f, guardG_no, condG_b, evT, Opd.ev, get_hit, get_next, app_to, app_no, app_up, app_skip, app_skipn, know_mk, knowO_t, knowO_c, envFrom, reserve, keeps, LOp.isNew, State.prune, cellsQ, cellsT, AV.leaf, Heap.at, evLoad_ptr, evLoad_dptr, loadO_vec, loadO_dvec1, stepK_load_map, idx_I, idx_U, idx_Rat, idx_Loc, idx_Act, idx_Step, idx_Stamp, stepK_idx_ref, evStore_ptr, storeO_vec, stepK_store_map1, loadDT_f, rowI, rowU, RatG.row, LocG.row, ActG.row, StepG.row, StampG.row, ActG.av, ActG.eta, RatG.eta, LocG.eta, beq_true, beq_false, loadDT_t, set_rowI, set_rowU, app_rowI, app_rowU, rep_rowI, rep_rowU, set_rowRat, app_rowRat, rep_rowRat, set_rowLoc, app_rowLoc, app_rowAct, app_rowStep, List.length_set, List.length_replicate, Int.toNat_natCast, Int.reduceToNat, evLen, evAppend, srcOf, Src.all, Src.len, Src.leaf, Src.leafN, evApart, aliveQ, joinV, drows_rep1, drows_rep2, drows_rep3, drows_rep4, drows_rep5, drows_rep6, drows_rep7, drows_rep8, mkVec, drows, evMk, List.length_map, take_mapF, drop_mapF, List.take_length, List.take_left, List.length_append, Nat.le_add_right, ite_self, List.take_of_length_le, evSlice, intOr, intOpd, Option.isSome_none, Option.isSome_some, Nat.sub_zero, loadQ, loadT, evBin, evUn, binT, binQ, chk, apartF, List.contains_cons, List.contains_nil, Bool.or_false, Bool.false_or, Bool.and_self, resQ, resV, resT, pickV, evCallT, evTake, evCall, fnOf, viewsT, isD, HO.drow, viewT, evInt2, evEq, eqV, eqK, eqC1, buildQ, buildT, buildRQ, buildRT, lens_I, lensA_I, lens_U, lensA_U, lens_Rat, lensA_Rat, lens_Loc, lensA_Loc, lens_Act, lensA_Act, lens_Step, lensA_Step, lens_Stamp, lensA_Stamp, List.mem_cons, List.not_mem_nil, or_false, forall_eq, putRow, dcells, get_nil, RetS, RetF, RetD, AV.frz, AV.frzL, AV.freshP, AV.freshL, DV.less, scal_int, scal_bool, scal_nil, scal_rowI, scal_rowU, scal_rowRat, scal_rowStep, Option.some.injEq, AV.tup.injEq, AV.agg.injEq, List.cons.injEq, DV.list.injEq, List.isEmpty_nil, Nat.le_refl, AV.d.injEq, DV.int.injEq, DV.bool.injEq, ↓reduceIte, Nat.reduceEqDiff, Nat.reduceAdd, Nat.reduceBEq, List.length_cons, List.length_nil, List.replicate_succ, List.replicate_zero, List.nil_append, List.cons_append, List.append_nil, List.foldl_cons, List.foldl_nil, List.map_cons, List.map_nil, List.all_cons, List.all_nil, List.set_cons_zero, List.set_cons_succ, List.getD_cons_zero, List.getD_cons_succ, List.drop_zero, List.drop_succ_cons, List.take_succ_cons, List.take_zero, List.flatten_cons, List.flatten_nil, Bool.true_and, Bool.and_true, Bool.not_true, Bool.not_false, true_and, and_true, true_or, or_true, Option.bind_some, Option.map_some, decide_true, decide_false, beq_self_eq_true, true_implies, false_implies, implies_true, not_true_eq_false, not_false_eq_true, and_self, Bool.and_false, Bool.false_and, Nat.reduceLT, Nat.reduceLeDiff, List.reverse_cons, List.reverse_nil, Nat.zero_add, Nat.add_zero, Bool.false_eq_true, List.getElem?_cons_zero, MemG.av, StepG.av7, F1, G1, F2, G2, F3, G3, G4, F5, G5, F6, G6, F7, G7, G8, F9, G9, F10, G10, at_act_Right, at_plain, at_rat_Right, cp0_eff, at_hist_at, at_rat_Cmp, at_rat_Least, at_join, at_clone, loadO_vec, storeO_vec, rowsL_len, cpL_len, List.length_set, Int.reduceEq, decide_true, decide_false, Bool.or_false, Bool.true_or, Bool.or_self]
    subst hX
    exact ⟨fun _ => end_err hD (by decide), fun g1 => ⟨fun _ => end_err hD (by decide), fun g2 => ⟨fun g3 => absurd ⟨⟨by omega, by omega⟩, g3⟩ hb, fun _ => end_err hD (by decide)⟩⟩⟩
set_option maxHeartbeats 8000000 in
theorem do_turn {T : Tab} {n1 n2 n3 n4 n5 n6 n7 n8 n9 n10 : Nat} (k1 : Knows T n1 sp_act_Right) (k2 : Knows T n2 sp_plain) (k3 : Knows T n3 sp_rat_Right) (k4 : KnowsG T n4 ef_copied0.at) (k5 : Knows T n5 sp_hist_at) (k6 : Knows T n6 sp_rat_Cmp) (k7 : Knows T n7 sp_rat_Least) (k8 : KnowsG T n8 ef_Insert.at) (k9 : Knows T n9 sp_join) (k10 : Knows T n10 (cloneS 2 16))
    (m : MemG) (th o q v : Int) (w : RatG) (hm : m.plain.Wf 1000000) :
    vck T 0 V_hist_Do (L_hist_Do n1 n2 n3 n4 n5 n6 n7 n8 n9 n10) ⟨envFrom 0 [m.av, StepG.av7 ⟨th, ⟨5, o, q, v⟩, w⟩], []⟩ (retK R_hist_Do (SaysK (RetD (.tup [(resM m.plain ⟨th, ⟨5, o, q, v⟩, w⟩).av, .d (.int .i64 (doErr m.plain ⟨th, ⟨5, o, q, v⟩, w⟩))])))) := by
  have F1 := k1.F; have G1 := k1.G; have F2 := k2.F; have G2 := k2.G; have F3 := k3.F; have G3 := k3.G; have G4 := k4.G; have F5 := k5.F; have G5 := k5.G; have F6 := k6.F; have G6 := k6.G; have F7 := k7.F; have G7 := k7.G; have G8 := k8.G; have F9 := k9.F; have G9 := k9.G; have F10 := k10.F; have G10 := k10.G
  generalize hX : SaysK _ = X
  obtain ⟨a1, a2, a3, a4, a5, a6, a7, a8, a9, a10⟩ := m
  obtain ⟨wn, wd⟩ := w
  have hl : a1.length ≤ 16 := hm.locs
  have h1 : a3.length = a1.length := by have := hm.past; simpa [MemG.plain, inn_len] using this
  have h2 : a5.length = a1.length := hm.vals
  have h3 : a7.length = a1.length := by have := hm.marks; simpa [MemG.plain, inn_len] using this
  have h4 : a9.length ≤ 3 := by have := hm.fronts; simpa [MemG.plain, inn_len] using this
  have hcp := cp_ok hm (Nat.le_refl _)
  by_cases hb : (0 ≤ th ∧ th < a9.length) ∧ ActG.right ⟨5, o, q, v⟩ a1 = true
  · obtain ⟨⟨b1, b2⟩, b3⟩ := hb
    obtain ⟨b4, b5⟩ := right_bounds (by decide) b3
    have b6 := right_atom (by decide) b3
    have r7 := rowsL_all (f := RatG.row) (L := a7) (i := o.toNat) (by omega)
    have r8 := rowsL_all (f := RatG.row) (L := a9) (i := th.toNat) (by omega)
    have c1 : (th < 0) = False := by simp; omega
    have c2 : ((a9.length : Int) ≤ th) = False := by simp; omega
    have hfl : ((inn a9).getD th.toNat []).length = a1.length := hm.frontsL _ (inn_get (L := a9) (i := th.toNat) (by omega))
    have hml : ((inn a7).getD o.toNat []).length = a1.length := hm.marksA o.toNat (by show o.toNat < a1.length; omega) b6
    have hjl := joinG_len ((inn a9).getD th.toNat []) ((inn a7).getD o.toNat [])
    have hgood : goodQ (MemG.plain ⟨a1, a2, a3, a4, a5, a6, a7, a8, a9, a10⟩) ⟨th, ⟨5, o, q, v⟩, ⟨wn, wd⟩⟩ = decide (wn = 0 ∧ wd = 0) := by
      have e1 : decide (th < 0) = false := decide_eq_false (by omega)
      have e2 : decide ((a9.length : Int) ≤ th) = false := decide_eq_false (by omega)
      simp [goodQ, MemG.plain, inn_len, isPl, b3, e1, e2]
    have hD : doErr (MemG.plain ⟨a1, a2, a3, a4, a5, a6, a7, a8, a9, a10⟩) ⟨th, ⟨5, o, q, v⟩, ⟨wn, wd⟩⟩ = if decide (wn = 0 ∧ wd = 0) = false then 1 else if a5.getD o.toNat 0 ≠ q then 3 else 0 := by
      rw [doErr_at (by show isAt 5 = true; decide), hgood]
      have e : ((5 : Int) ≠ 4 ∧ a5.getD o.toNat 0 ≠ q) = (a5.getD o.toNat 0 ≠ q) := by apply propext; exact ⟨fun h => h.2, fun h => ⟨by decide, h⟩⟩
      show (if _ then (1 : Int) else if ((5 : Int) ≠ 4 ∧ a5.getD o.toNat 0 ≠ q) then 3 else 0) = _
      simp only [e]
    have hM : doMem (MemG.plain ⟨a1, a2, a3, a4, a5, a6, a7, a8, a9, a10⟩) ⟨th, ⟨5, o, q, v⟩, ⟨wn, wd⟩⟩ = ⟨a1, inn a3, a5.set o.toNat v, (inn a7).set o.toNat (joinG ((inn a9).getD th.toNat []) ((inn a7).getD o.toNat [])), (inn a9).set th.toNat (joinG ((inn a9).getD th.toNat []) ((inn a7).getD o.toNat []))⟩ := by
      unfold doMem
      rw [if_neg (by show ¬ (5 : Int) = 2; decide), if_pos (by show isAt 5 = true; decide)]
      show (if (5 : Int) = 3 then _ else _) = _
      rw [if_neg (by decide)]; rfl
    unfold V_hist_Do L_hist_Do R_hist_Do
    simp (maxSteps := 3000000) only [↓vck_skip, ↓vck_ret, ↓vck_exit, ↓vck_region, ↓vck_nilq, ↓nilTo_to, nilG_d, nilG_r, ↓vck_seq, ↓vck_cond, ↓vck_block, ↓vck_loop, ↓vckTo_to, ↓thenK_n, ↓thenK_x, ↓thenK_r, ↓blockK_n, ↓blockK_x, ↓blockK_o, ↓blockK_r, ↓regK_to, ↓retK_r, ↓retK_n, ↓loopV_n, ↓loopV_x, ↓loopV_r, ↓famK_n, ↓famK_x, ↓famK_r, ↓boolK_true, ↓boolK_false, ↓boolK_not, ↓boolK_dec, ↓boolK_and, nf_mk, RGk_end_f, RGk_end_t, RGk_op, RGk_guard, opK_to, evN, evCallN, grow_mk, feet_f, feet_t, foot_mk, stepK_mk, stepK_v, stepK_no, guardG_t, guardG_f, guardG_no, condG_b, evT, Opd.ev, get_hit, get_next, app_to, app_no, app_up, app_skip, app_skipn, know_mk, knowO_t, knowO_c, envFrom, reserve, keeps, LOp.isNew, State.prune, cellsQ, cellsT, AV.leaf, Heap.at, evLoad_ptr, evLoad_dptr, loadO_vec, loadO_dvec1, stepK_load_map, idx_I, idx_U, idx_Rat, idx_Loc, idx_Act, idx_Step, idx_Stamp, stepK_idx_ref, evStore_ptr, storeO_vec, stepK_store_map1, loadDT_f, rowI, rowU, RatG.row, LocG.row, ActG.row, StepG.row, StampG.row, ActG.av, ActG.eta, RatG.eta, LocG.eta, beq_true, beq_false, loadDT_t, set_rowI, set_rowU, app_rowI, app_rowU, rep_rowI, rep_rowU, set_rowRat, app_rowRat, rep_rowRat, set_rowLoc, app_rowLoc, app_rowAct, app_rowStep, List.length_set, List.length_replicate, Int.toNat_natCast, Int.reduceToNat, evLen, evAppend, srcOf, Src.all, Src.len, Src.leaf, Src.leafN, evApart, aliveQ, joinV, drows_rep1, drows_rep2, drows_rep3, drows_rep4, drows_rep5, drows_rep6, drows_rep7, drows_rep8, mkVec, drows, evMk, List.length_map, take_mapF, drop_mapF, List.take_length, List.take_left, List.length_append, Nat.le_add_right, ite_self, List.take_of_length_le, evSlice, intOr, intOpd, Option.isSome_none, Option.isSome_some, Nat.sub_zero, loadQ, loadT, evBin, evUn, binT, binQ, chk, apartF, List.contains_cons, List.contains_nil, Bool.or_false, Bool.false_or, Bool.and_self, resQ, resV, resT, pickV, evCallT, evTake, evCall, fnOf, viewsT, isD, HO.drow, viewT, evInt2, evEq, eqV, eqK, eqC1, buildQ, buildT, buildRQ, buildRT, lens_I, lensA_I, lens_U, lensA_U, lens_Rat, lensA_Rat, lens_Loc, lensA_Loc, lens_Act, lensA_Act, lens_Step, lensA_Step, lens_Stamp, lensA_Stamp, List.mem_cons, List.not_mem_nil, or_false, forall_eq, putRow, dcells, get_nil, RetS, RetF, RetD, AV.frz, AV.frzL, AV.freshP, AV.freshL, DV.less, scal_int, scal_bool, scal_nil, scal_rowI, scal_rowU, scal_rowRat, scal_rowStep, Option.some.injEq, AV.tup.injEq, AV.agg.injEq, List.cons.injEq, DV.list.injEq, List.isEmpty_nil, Nat.le_refl, AV.d.injEq, DV.int.injEq, DV.bool.injEq, ↓reduceIte, Nat.reduceEqDiff, Nat.reduceAdd, Nat.reduceBEq, List.length_cons, List.length_nil, List.replicate_succ, List.replicate_zero, List.nil_append, List.cons_append, List.append_nil, List.foldl_cons, List.foldl_nil, List.map_cons, List.map_nil, List.all_cons, List.all_nil, List.set_cons_zero, List.set_cons_succ, List.getD_cons_zero, List.getD_cons_succ, List.drop_zero, List.drop_succ_cons, List.take_succ_cons, List.take_zero, List.flatten_cons, List.flatten_nil, Bool.true_and, Bool.and_true, Bool.not_true, Bool.not_false, true_and, and_true, true_or, or_true, Option.bind_some, Option.map_some, decide_true, decide_false, beq_self_eq_true, true_implies, false_implies, implies_true, not_true_eq_false, not_false_eq_true, and_self, Bool.and_false, Bool.false_and, Nat.reduceLT, Nat.reduceLeDiff, List.reverse_cons, List.reverse_nil, Nat.zero_add, Nat.add_zero, Bool.false_eq_true, List.getElem?_cons_zero, MemG.av, StepG.av7, F1, G1, F2, G2, F3, G3, G4, F5, G5, F6, G6, F7, G7, G8, F9, G9, F10, G10, at_act_Right, at_plain, at_rat_Right, cp0_eff, at_hist_at, at_rat_Cmp, at_rat_Least, at_join, at_clone, loadO_vec, storeO_vec, rowsL_len, cpL_len, List.length_set, Int.reduceEq, decide_true, decide_false, Bool.or_false, Bool.true_or, Bool.or_self, c1, c2, b3, r7, r8]
    subst hX
    have endg : ∀ {P : Prop}, (decide (wn = 0) = true ∧ decide (wd = 0) = true) → ¬ decide (wn = 0 ∧ wd = 0) = false := fun h => by
      simp only [decide_eq_true_eq] at h
      simp [h]
    have endb : (decide (wn = 0) = false ∨ decide (wd = 0) = false) → decide (wn = 0 ∧ wd = 0) = false := fun h => by
      simp only [decide_eq_false_iff_not] at h ⊢
      intro h2; rcases h with h | h
      · exact h h2.1
      · exact h h2.2
    refine ⟨fun g1 => ⟨hcp, ⟨by omega, by omega⟩, by omega, ⟨by omega, by omega⟩, by omega, fun g4 => ⟨⟨by omega, by omega⟩, by omega, ⟨by omega, by omega⟩, ⟨by omega, by omega⟩, by omega, roomy_of (by omega) (by omega), ⟨by omega, by omega⟩, by omega, ⟨by omega, by omega⟩, by omega, ?_⟩, fun g4 => ?_⟩, fun g1 => ?_⟩
    · exact end_ok (ids := [10]) (by rw [hD, if_neg (endg (P := True) g1), if_neg (by simpa using g4)]) (by simp only [State.ices, State.ice, HO.data, iceEnv, iceHeap, HO.ice, AV.ice, AV.iceL, iceRows_cons, iceRows_nil, iceRows_set, iceRows_rowsL, iceL_data, Heap.at, List.getD_cons_zero, List.getD_cons_succ, ↓reduceIte, Nat.reduceEqDiff, Option.map_some, Nat.zero_add, Nat.reduceAdd, Nat.reduceBEq, List.drop_zero, take_mapF, List.take_length, List.length_map, Nat.le_refl, and_self, Bool.not_true]; rfl) (by rw [hM]; exact ⟨rfl, mk_rowsL _, rfl, mk_rowsL_set _ _ _, mk_rowsL_set _ _ _⟩) (by rw [hM]) (by rw [hM]; simp [inn_len]) (by rw [hM] <;> simp) (by rw [hM]; simp [inn_len]) (by rw [hM]; simp [inn_len])
    · exact end_err (by rw [hD, if_neg (endg (P := True) g1), if_pos (by simpa using g4)]) (by decide)
    · exact end_err (by rw [hD, if_pos (endb g1)]) (by decide)
  · have hD : doErr (MemG.plain ⟨a1, a2, a3, a4, a5, a6, a7, a8, a9, a10⟩) ⟨th, ⟨5, o, q, v⟩, ⟨wn, wd⟩⟩ = 1 := by
      unfold doErr
      rw [if_pos]
      unfold goodQ
      have e : ((inn a9).length : Int) = a9.length := by rw [inn_len]
      show (!decide (th < 0) && !decide (((inn a9).length : Int) ≤ th) && ActG.right ⟨5, o, q, v⟩ a1 && _ && _) = false
      rw [e]
      by_cases c1 : th < 0
      · simp [c1]
      · by_cases c2 : (a9.length : Int) ≤ th
        · simp [c2]
        · have : ActG.right ⟨5, o, q, v⟩ a1 = false := by
            cases h : ActG.right ⟨5, o, q, v⟩ a1 with
            | false => rfl
            | true => exact absurd ⟨⟨by omega, by omega⟩, h⟩ hb
          simp [this]
    unfold V_hist_Do L_hist_Do R_hist_Do
    simp (maxSteps := 3000000) only [↓vck_skip, ↓vck_ret, ↓vck_exit, ↓vck_region, ↓vck_nilq, ↓nilTo_to, nilG_d, nilG_r, ↓vck_seq, ↓vck_cond, ↓vck_block, ↓vck_loop, ↓vckTo_to, ↓thenK_n, ↓thenK_x, ↓thenK_r, ↓blockK_n, ↓blockK_x, ↓blockK_o, ↓blockK_r, ↓regK_to, ↓retK_r, ↓retK_n, ↓loopV_n, ↓loopV_x, ↓loopV_r, ↓famK_n, ↓famK_x, ↓famK_r, ↓boolK_true, ↓boolK_false, ↓boolK_not, ↓boolK_dec, ↓boolK_and, nf_mk, RGk_end_f, RGk_end_t, RGk_op, RGk_guard, opK_to, evN, evCallN, grow_mk, feet_f, feet_t, foot_mk, stepK_mk, stepK_v, stepK_no, guardG_t, guardG_f, guardG_no, condG_b, evT, Opd.ev, get_hit, get_next, app_to, app_no, app_up, app_skip, app_skipn, know_mk, knowO_t, knowO_c, envFrom, reserve, keeps, LOp.isNew, State.prune, cellsQ, cellsT, AV.leaf, Heap.at, evLoad_ptr, evLoad_dptr, loadO_vec, loadO_dvec1, stepK_load_map, idx_I, idx_U, idx_Rat, idx_Loc, idx_Act, idx_Step, idx_Stamp, stepK_idx_ref, evStore_ptr, storeO_vec, stepK_store_map1, loadDT_f, rowI, rowU, RatG.row, LocG.row, ActG.row, StepG.row, StampG.row, ActG.av, ActG.eta, RatG.eta, LocG.eta, beq_true, beq_false, loadDT_t, set_rowI, set_rowU, app_rowI, app_rowU, rep_rowI, rep_rowU, set_rowRat, app_rowRat, rep_rowRat, set_rowLoc, app_rowLoc, app_rowAct, app_rowStep, List.length_set, List.length_replicate, Int.toNat_natCast, Int.reduceToNat, evLen, evAppend, srcOf, Src.all, Src.len, Src.leaf, Src.leafN, evApart, aliveQ, joinV, drows_rep1, drows_rep2, drows_rep3, drows_rep4, drows_rep5, drows_rep6, drows_rep7, drows_rep8, mkVec, drows, evMk, List.length_map, take_mapF, drop_mapF, List.take_length, List.take_left, List.length_append, Nat.le_add_right, ite_self, List.take_of_length_le, evSlice, intOr, intOpd, Option.isSome_none, Option.isSome_some, Nat.sub_zero, loadQ, loadT, evBin, evUn, binT, binQ, chk, apartF, List.contains_cons, List.contains_nil, Bool.or_false, Bool.false_or, Bool.and_self, resQ, resV, resT, pickV, evCallT, evTake, evCall, fnOf, viewsT, isD, HO.drow, viewT, evInt2, evEq, eqV, eqK, eqC1, buildQ, buildT, buildRQ, buildRT, lens_I, lensA_I, lens_U, lensA_U, lens_Rat, lensA_Rat, lens_Loc, lensA_Loc, lens_Act, lensA_Act, lens_Step, lensA_Step, lens_Stamp, lensA_Stamp, List.mem_cons, List.not_mem_nil, or_false, forall_eq, putRow, dcells, get_nil, RetS, RetF, RetD, AV.frz, AV.frzL, AV.freshP, AV.freshL, DV.less, scal_int, scal_bool, scal_nil, scal_rowI, scal_rowU, scal_rowRat, scal_rowStep, Option.some.injEq, AV.tup.injEq, AV.agg.injEq, List.cons.injEq, DV.list.injEq, List.isEmpty_nil, Nat.le_refl, AV.d.injEq, DV.int.injEq, DV.bool.injEq, ↓reduceIte, Nat.reduceEqDiff, Nat.reduceAdd, Nat.reduceBEq, List.length_cons, List.length_nil, List.replicate_succ, List.replicate_zero, List.nil_append, List.cons_append, List.append_nil, List.foldl_cons, List.foldl_nil, List.map_cons, List.map_nil, List.all_cons, List.all_nil, List.set_cons_zero, List.set_cons_succ, List.getD_cons_zero, List.getD_cons_succ, List.drop_zero, List.drop_succ_cons, List.take_succ_cons, List.take_zero, List.flatten_cons, List.flatten_nil, Bool.true_and, Bool.and_true, Bool.not_true, Bool.not_false, true_and, and_true, true_or, or_true, Option.bind_some, Option.map_some, decide_true, decide_false, beq_self_eq_true, true_implies, false_implies, implies_true, not_true_eq_false, not_false_eq_true, and_self, Bool.and_false, Bool.false_and, Nat.reduceLT, Nat.reduceLeDiff, List.reverse_cons, List.reverse_nil, Nat.zero_add, Nat.add_zero, Bool.false_eq_true, List.getElem?_cons_zero, MemG.av, StepG.av7, F1, G1, F2, G2, F3, G3, G4, F5, G5, F6, G6, F7, G7, G8, F9, G9, F10, G10, at_act_Right, at_plain, at_rat_Right, cp0_eff, at_hist_at, at_rat_Cmp, at_rat_Least, at_join, at_clone, loadO_vec, storeO_vec, rowsL_len, cpL_len, List.length_set, Int.reduceEq, decide_true, decide_false, Bool.or_false, Bool.true_or, Bool.or_self]
    subst hX
    exact ⟨fun _ => end_err hD (by decide), fun g1 => ⟨fun _ => end_err hD (by decide), fun g2 => ⟨fun g3 => absurd ⟨⟨by omega, by omega⟩, g3⟩ hb, fun _ => end_err hD (by decide)⟩⟩⟩
set_option maxHeartbeats 8000000 in
theorem do_other {T : Tab} {n1 n2 n3 n4 n5 n6 n7 n8 n9 n10 : Nat} (k1 : Knows T n1 sp_act_Right) (k2 : Knows T n2 sp_plain) (k3 : Knows T n3 sp_rat_Right) (k4 : KnowsG T n4 ef_copied0.at) (k5 : Knows T n5 sp_hist_at) (k6 : Knows T n6 sp_rat_Cmp) (k7 : Knows T n7 sp_rat_Least) (k8 : KnowsG T n8 ef_Insert.at) (k9 : Knows T n9 sp_join) (k10 : Knows T n10 (cloneS 2 16))
    (m : MemG) (th o q v : Int) (w : RatG) (hm : m.plain.Wf 1000000) {k : Int} (hk : k ≠ 1 ∧ k ≠ 2 ∧ k ≠ 3 ∧ k ≠ 4 ∧ k ≠ 5) :
    vck T 0 V_hist_Do (L_hist_Do n1 n2 n3 n4 n5 n6 n7 n8 n9 n10) ⟨envFrom 0 [m.av, StepG.av7 ⟨th, ⟨k, o, q, v⟩, w⟩], []⟩ (retK R_hist_Do (SaysK (RetD (.tup [(resM m.plain ⟨th, ⟨k, o, q, v⟩, w⟩).av, .d (.int .i64 (doErr m.plain ⟨th, ⟨k, o, q, v⟩, w⟩))])))) := by
  have F1 := k1.F; have G1 := k1.G; have F2 := k2.F; have G2 := k2.G; have F3 := k3.F; have G3 := k3.G; have G4 := k4.G; have F5 := k5.F; have G5 := k5.G; have F6 := k6.F; have G6 := k6.G; have F7 := k7.F; have G7 := k7.G; have G8 := k8.G; have F9 := k9.F; have G9 := k9.G; have F10 := k10.F; have G10 := k10.G
  generalize hX : SaysK _ = X
  obtain ⟨a1, a2, a3, a4, a5, a6, a7, a8, a9, a10⟩ := m
  obtain ⟨wn, wd⟩ := w
  have hl : a1.length ≤ 16 := hm.locs
  have h1 : a3.length = a1.length := by have := hm.past; simpa [MemG.plain, inn_len] using this
  have h2 : a5.length = a1.length := hm.vals
  have h3 : a7.length = a1.length := by have := hm.marks; simpa [MemG.plain, inn_len] using this
  have h4 : a9.length ≤ 3 := by have := hm.fronts; simpa [MemG.plain, inn_len] using this
  have hcp := cp_ok hm (Nat.le_refl _)
  obtain ⟨q1, q2, q3, q4, q5⟩ := hk
  have kk1 : (k = 1) = False := by simp [q1]
  have kk2 : (k = 2) = False := by simp [q2]
  have kk3 : (k = 3) = False := by simp [q3]
  have kk4 : (k = 4) = False := by simp [q4]
  have kk5 : (k = 5) = False := by simp [q5]
  have kpl : (decide (k = 1) || decide (k = 2)) = false := by simp [q1, q2]
  by_cases hb : (0 ≤ th ∧ th < a9.length) ∧ ActG.right ⟨k, o, q, v⟩ a1 = true
  · obtain ⟨⟨b1, b2⟩, b3⟩ := hb
    have r8 := rowsL_all (f := RatG.row) (L := a9) (i := th.toNat) (by omega)
    have c1 : (th < 0) = False := by simp; omega
    have c2 : ((a9.length : Int) ≤ th) = False := by simp; omega
    have hgood : goodQ (MemG.plain ⟨a1, a2, a3, a4, a5, a6, a7, a8, a9, a10⟩) ⟨th, ⟨k, o, q, v⟩, ⟨wn, wd⟩⟩ = decide (wn = 0 ∧ wd = 0) := by
      have e1 : decide (th < 0) = false := decide_eq_false (by omega)
      have e2 : decide ((a9.length : Int) ≤ th) = false := decide_eq_false (by omega)
      simp [goodQ, MemG.plain, inn_len, isPl, b3, e1, e2, q1, q2]
    have hD : doErr (MemG.plain ⟨a1, a2, a3, a4, a5, a6, a7, a8, a9, a10⟩) ⟨th, ⟨k, o, q, v⟩, ⟨wn, wd⟩⟩ = if decide (wn = 0 ∧ wd = 0) = false then 1 else 0 := by
      unfold doErr
      rw [hgood]
      simp [isAt, q1, q2, q3, q4, q5]
    have hM : doMem (MemG.plain ⟨a1, a2, a3, a4, a5, a6, a7, a8, a9, a10⟩) ⟨th, ⟨k, o, q, v⟩, ⟨wn, wd⟩⟩ = (MemG.plain ⟨a1, a2, a3, a4, a5, a6, a7, a8, a9, a10⟩) := by
      simp [doMem, isAt, q2, q3, q4, q5]
    unfold V_hist_Do L_hist_Do R_hist_Do
    simp (maxSteps := 3000000) only [↓vck_skip, ↓vck_ret, ↓vck_exit, ↓vck_region, ↓vck_nilq, ↓nilTo_to, nilG_d, nilG_r, ↓vck_seq, ↓vck_cond, ↓vck_block, ↓vck_loop, ↓vckTo_to, ↓thenK_n, ↓thenK_x, ↓thenK_r, ↓blockK_n, ↓blockK_x, ↓blockK_o, ↓blockK_r, ↓regK_to, ↓retK_r, ↓retK_n, ↓loopV_n, ↓loopV_x, ↓loopV_r, ↓famK_n, ↓famK_x, ↓famK_r, ↓boolK_true, ↓boolK_false, ↓boolK_not, ↓boolK_dec, ↓boolK_and, nf_mk, RGk_end_f, RGk_end_t, RGk_op, RGk_guard, opK_to, evN, evCallN, grow_mk, feet_f, feet_t, foot_mk, stepK_mk, stepK_v, stepK_no, guardG_t, guardG_f, guardG_no, condG_b, evT, Opd.ev, get_hit, get_next, app_to, app_no, app_up, app_skip, app_skipn, know_mk, knowO_t, knowO_c, envFrom, reserve, keeps, LOp.isNew, State.prune, cellsQ, cellsT, AV.leaf, Heap.at, evLoad_ptr, evLoad_dptr, loadO_vec, loadO_dvec1, stepK_load_map, idx_I, idx_U, idx_Rat, idx_Loc, idx_Act, idx_Step, idx_Stamp, stepK_idx_ref, evStore_ptr, storeO_vec, stepK_store_map1, loadDT_f, rowI, rowU, RatG.row, LocG.row, ActG.row, StepG.row, StampG.row, ActG.av, ActG.eta, RatG.eta, LocG.eta, beq_true, beq_false, loadDT_t, set_rowI, set_rowU, app_rowI, app_rowU, rep_rowI, rep_rowU, set_rowRat, app_rowRat, rep_rowRat, set_rowLoc, app_rowLoc, app_rowAct, app_rowStep, List.length_set, List.length_replicate, Int.toNat_natCast, Int.reduceToNat, evLen, evAppend, srcOf, Src.all, Src.len, Src.leaf, Src.leafN, evApart, aliveQ, joinV, drows_rep1, drows_rep2, drows_rep3, drows_rep4, drows_rep5, drows_rep6, drows_rep7, drows_rep8, mkVec, drows, evMk, List.length_map, take_mapF, drop_mapF, List.take_length, List.take_left, List.length_append, Nat.le_add_right, ite_self, List.take_of_length_le, evSlice, intOr, intOpd, Option.isSome_none, Option.isSome_some, Nat.sub_zero, loadQ, loadT, evBin, evUn, binT, binQ, chk, apartF, List.contains_cons, List.contains_nil, Bool.or_false, Bool.false_or, Bool.and_self, resQ, resV, resT, pickV, evCallT, evTake, evCall, fnOf, viewsT, isD, HO.drow, viewT, evInt2, evEq, eqV, eqK, eqC1, buildQ, buildT, buildRQ, buildRT, lens_I, lensA_I, lens_U, lensA_U, lens_Rat, lensA_Rat, lens_Loc, lensA_Loc, lens_Act, lensA_Act, lens_Step, lensA_Step, lens_Stamp, lensA_Stamp, List.mem_cons, List.not_mem_nil, or_false, forall_eq, putRow, dcells, get_nil, RetS, RetF, RetD, AV.frz, AV.frzL, AV.freshP, AV.freshL, DV.less, scal_int, scal_bool, scal_nil, scal_rowI, scal_rowU, scal_rowRat, scal_rowStep, Option.some.injEq, AV.tup.injEq, AV.agg.injEq, List.cons.injEq, DV.list.injEq, List.isEmpty_nil, Nat.le_refl, AV.d.injEq, DV.int.injEq, DV.bool.injEq, ↓reduceIte, Nat.reduceEqDiff, Nat.reduceAdd, Nat.reduceBEq, List.length_cons, List.length_nil, List.replicate_succ, List.replicate_zero, List.nil_append, List.cons_append, List.append_nil, List.foldl_cons, List.foldl_nil, List.map_cons, List.map_nil, List.all_cons, List.all_nil, List.set_cons_zero, List.set_cons_succ, List.getD_cons_zero, List.getD_cons_succ, List.drop_zero, List.drop_succ_cons, List.take_succ_cons, List.take_zero, List.flatten_cons, List.flatten_nil, Bool.true_and, Bool.and_true, Bool.not_true, Bool.not_false, true_and, and_true, true_or, or_true, Option.bind_some, Option.map_some, decide_true, decide_false, beq_self_eq_true, true_implies, false_implies, implies_true, not_true_eq_false, not_false_eq_true, and_self, Bool.and_false, Bool.false_and, Nat.reduceLT, Nat.reduceLeDiff, List.reverse_cons, List.reverse_nil, Nat.zero_add, Nat.add_zero, Bool.false_eq_true, List.getElem?_cons_zero, MemG.av, StepG.av7, F1, G1, F2, G2, F3, G3, G4, F5, G5, F6, G6, F7, G7, G8, F9, G9, F10, G10, at_act_Right, at_plain, at_rat_Right, cp0_eff, at_hist_at, at_rat_Cmp, at_rat_Least, at_join, at_clone, loadO_vec, storeO_vec, rowsL_len, cpL_len, List.length_set, Int.reduceEq, decide_true, decide_false, Bool.or_false, Bool.true_or, Bool.or_self, c1, c2, b3, r8, kk1, kk2, kk3, kk4, kk5, kpl]
    subst hX
    have endg : ∀ {P : Prop}, (decide (wn = 0) = true ∧ decide (wd = 0) = true) → ¬ decide (wn = 0 ∧ wd = 0) = false := fun h => by
      simp only [decide_eq_true_eq] at h
      simp [h]
    have endb : (decide (wn = 0) = false ∨ decide (wd = 0) = false) → decide (wn = 0 ∧ wd = 0) = false := fun h => by
      simp only [decide_eq_false_iff_not] at h ⊢
      intro h2; rcases h with h | h
      · exact h h2.1
      · exact h h2.2
    refine ⟨fun g1 => ⟨hcp, ⟨by omega, by omega⟩, by omega, ?_⟩, fun g1 => ?_⟩
    · exact end_ok (ids := [3]) (by rw [hD, if_neg (endg (P := True) g1)]) (by simp only [State.ices, State.ice, HO.data, iceEnv, iceHeap, HO.ice, AV.ice, AV.iceL, iceRows_cons, iceRows_nil, iceRows_set, iceRows_rowsL, iceL_data, Heap.at, List.getD_cons_zero, List.getD_cons_succ, ↓reduceIte, Nat.reduceEqDiff, Option.map_some, Nat.zero_add, Nat.reduceAdd, Nat.reduceBEq, List.drop_zero, take_mapF, List.take_length, List.length_map, Nat.le_refl, and_self, Bool.not_true]; rfl) (by rw [hM]; exact ⟨rfl, mk_rowsL _, rfl, mk_rowsL _, mk_rowsL _⟩) (by rw [hM]; rfl) (by rw [hM]; simp [MemG.plain, inn_len]) (by rw [hM]; rfl) (by rw [hM]; simp [MemG.plain, inn_len]) (by rw [hM]; simp [MemG.plain, inn_len])
    · exact end_err (by rw [hD, if_pos (endb g1)]) (by decide)
  · have hD : doErr (MemG.plain ⟨a1, a2, a3, a4, a5, a6, a7, a8, a9, a10⟩) ⟨th, ⟨k, o, q, v⟩, ⟨wn, wd⟩⟩ = 1 := by
      unfold doErr
      rw [if_pos]
      unfold goodQ
      have e : ((inn a9).length : Int) = a9.length := by rw [inn_len]
      show (!decide (th < 0) && !decide (((inn a9).length : Int) ≤ th) && ActG.right ⟨k, o, q, v⟩ a1 && _ && _) = false
      rw [e]
      by_cases c1 : th < 0
      · simp [c1]
      · by_cases c2 : (a9.length : Int) ≤ th
        · simp [c2]
        · have : ActG.right ⟨k, o, q, v⟩ a1 = false := by
            cases h : ActG.right ⟨k, o, q, v⟩ a1 with
            | false => rfl
            | true => exact absurd ⟨⟨by omega, by omega⟩, h⟩ hb
          simp [this]
    unfold V_hist_Do L_hist_Do R_hist_Do
    simp (maxSteps := 3000000) only [↓vck_skip, ↓vck_ret, ↓vck_exit, ↓vck_region, ↓vck_nilq, ↓nilTo_to, nilG_d, nilG_r, ↓vck_seq, ↓vck_cond, ↓vck_block, ↓vck_loop, ↓vckTo_to, ↓thenK_n, ↓thenK_x, ↓thenK_r, ↓blockK_n, ↓blockK_x, ↓blockK_o, ↓blockK_r, ↓regK_to, ↓retK_r, ↓retK_n, ↓loopV_n, ↓loopV_x, ↓loopV_r, ↓famK_n, ↓famK_x, ↓famK_r, ↓boolK_true, ↓boolK_false, ↓boolK_not, ↓boolK_dec, ↓boolK_and, nf_mk, RGk_end_f, RGk_end_t, RGk_op, RGk_guard, opK_to, evN, evCallN, grow_mk, feet_f, feet_t, foot_mk, stepK_mk, stepK_v, stepK_no, guardG_t, guardG_f, guardG_no, condG_b, evT, Opd.ev, get_hit, get_next, app_to, app_no, app_up, app_skip, app_skipn, know_mk, knowO_t, knowO_c, envFrom, reserve, keeps, LOp.isNew, State.prune, cellsQ, cellsT, AV.leaf, Heap.at, evLoad_ptr, evLoad_dptr, loadO_vec, loadO_dvec1, stepK_load_map, idx_I, idx_U, idx_Rat, idx_Loc, idx_Act, idx_Step, idx_Stamp, stepK_idx_ref, evStore_ptr, storeO_vec, stepK_store_map1, loadDT_f, rowI, rowU, RatG.row, LocG.row, ActG.row, StepG.row, StampG.row, ActG.av, ActG.eta, RatG.eta, LocG.eta, beq_true, beq_false, loadDT_t, set_rowI, set_rowU, app_rowI, app_rowU, rep_rowI, rep_rowU, set_rowRat, app_rowRat, rep_rowRat, set_rowLoc, app_rowLoc, app_rowAct, app_rowStep, List.length_set, List.length_replicate, Int.toNat_natCast, Int.reduceToNat, evLen, evAppend, srcOf, Src.all, Src.len, Src.leaf, Src.leafN, evApart, aliveQ, joinV, drows_rep1, drows_rep2, drows_rep3, drows_rep4, drows_rep5, drows_rep6, drows_rep7, drows_rep8, mkVec, drows, evMk, List.length_map, take_mapF, drop_mapF, List.take_length, List.take_left, List.length_append, Nat.le_add_right, ite_self, List.take_of_length_le, evSlice, intOr, intOpd, Option.isSome_none, Option.isSome_some, Nat.sub_zero, loadQ, loadT, evBin, evUn, binT, binQ, chk, apartF, List.contains_cons, List.contains_nil, Bool.or_false, Bool.false_or, Bool.and_self, resQ, resV, resT, pickV, evCallT, evTake, evCall, fnOf, viewsT, isD, HO.drow, viewT, evInt2, evEq, eqV, eqK, eqC1, buildQ, buildT, buildRQ, buildRT, lens_I, lensA_I, lens_U, lensA_U, lens_Rat, lensA_Rat, lens_Loc, lensA_Loc, lens_Act, lensA_Act, lens_Step, lensA_Step, lens_Stamp, lensA_Stamp, List.mem_cons, List.not_mem_nil, or_false, forall_eq, putRow, dcells, get_nil, RetS, RetF, RetD, AV.frz, AV.frzL, AV.freshP, AV.freshL, DV.less, scal_int, scal_bool, scal_nil, scal_rowI, scal_rowU, scal_rowRat, scal_rowStep, Option.some.injEq, AV.tup.injEq, AV.agg.injEq, List.cons.injEq, DV.list.injEq, List.isEmpty_nil, Nat.le_refl, AV.d.injEq, DV.int.injEq, DV.bool.injEq, ↓reduceIte, Nat.reduceEqDiff, Nat.reduceAdd, Nat.reduceBEq, List.length_cons, List.length_nil, List.replicate_succ, List.replicate_zero, List.nil_append, List.cons_append, List.append_nil, List.foldl_cons, List.foldl_nil, List.map_cons, List.map_nil, List.all_cons, List.all_nil, List.set_cons_zero, List.set_cons_succ, List.getD_cons_zero, List.getD_cons_succ, List.drop_zero, List.drop_succ_cons, List.take_succ_cons, List.take_zero, List.flatten_cons, List.flatten_nil, Bool.true_and, Bool.and_true, Bool.not_true, Bool.not_false, true_and, and_true, true_or, or_true, Option.bind_some, Option.map_some, decide_true, decide_false, beq_self_eq_true, true_implies, false_implies, implies_true, not_true_eq_false, not_false_eq_true, and_self, Bool.and_false, Bool.false_and, Nat.reduceLT, Nat.reduceLeDiff, List.reverse_cons, List.reverse_nil, Nat.zero_add, Nat.add_zero, Bool.false_eq_true, List.getElem?_cons_zero, MemG.av, StepG.av7, F1, G1, F2, G2, F3, G3, G4, F5, G5, F6, G6, F7, G7, G8, F9, G9, F10, G10, at_act_Right, at_plain, at_rat_Right, cp0_eff, at_hist_at, at_rat_Cmp, at_rat_Least, at_join, at_clone, loadO_vec, storeO_vec, rowsL_len, cpL_len, List.length_set, Int.reduceEq, decide_true, decide_false, Bool.or_false, Bool.true_or, Bool.or_self, kk1, kk2, kk3, kk4, kk5, kpl]
    subst hX
    exact ⟨fun _ => end_err hD (by decide), fun g1 => ⟨fun _ => end_err hD (by decide), fun g2 => ⟨fun g3 => absurd ⟨⟨by omega, by omega⟩, g3⟩ hb, fun _ => end_err hD (by decide)⟩⟩⟩
end Go.Ago

/- hist.Do: writes. Conditions: none. -/
set_option maxRecDepth 100000
set_option linter.unusedSimpArgs false
set_option linter.unusedVariables false
namespace Go.Ago
theorem ice_vec {id sz0 sz : Nat} {rows : List (List DV)} {l : List (List AV)} : (HO.vec sz l).ice id sz0 rows = mkVec sz (iceRows id sz0 rows l) := rfl
theorem ice_dvec {id sz0 sz : Nat} {rows l : List (List DV)} : (HO.dvec sz l).ice id sz0 rows = .dvec sz l := rfl
theorem ice_dead {id sz0 : Nat} {rows : List (List DV)} : HO.dead.ice id sz0 rows = .dead := rfl
theorem ice_mkVec {id sz0 sz : Nat} {rows : List (List DV)} {l : List (List AV)} : (mkVec sz l).ice id sz0 rows = mkVec sz (iceRows id sz0 rows l) := by
  cases h : drows l with
  | none =>
    have : mkVec sz l = .vec sz l := by unfold mkVec; rw [h]
    rw [this]; rfl
  | some ds =>
    have e := drows_map _ _ h
    rw [mkVec_some h, e, iceRows_d, mkVec_some (drows_d ds)]; rfl
theorem bsGo_le (p : Nat → Bool) : ∀ (f i j : Nat), i ≤ j → bsGo p f i j ≤ j := by
  intro f
  induction f with
  | zero => intro i j h; exact h
  | succ f ih =>
    intro i j h
    simp only [bsGo]
    split
    · split
      · exact ih _ _ (by omega)
      · exact Nat.le_trans (ih _ _ (by omega)) (by omega)
    · exact h
theorem bsAt_le (l : List StampG) (w : RatG) : bsAt l w ≤ l.length := bsGo_le _ _ _ _ (Nat.zero_le _)
theorem cp_okH {m : MemG} {h : Hole} (hc : CpOk0 m) (hp : h.p < m.past.length) (hf : h.f < m.fronts.length) : CpOk h m := ⟨hc.locs, hc.vals, hc.past, hc.marks, hc.fronts, hc.pasts, hc.markss, hc.frontss, hp, hf⟩
set_option maxHeartbeats 8000000 in
theorem do_write {T : Tab} {n1 n2 n3 n4 n5 n6 n7 n8 n9 n10 : Nat} {hole : Hole} (k1 : Knows T n1 sp_act_Right) (k2 : Knows T n2 sp_plain) (k3 : Knows T n3 sp_rat_Right) (k4 : KnowsG T n4 (ef_copied hole).at) (k5 : Knows T n5 sp_hist_at) (k6 : Knows T n6 sp_rat_Cmp) (k7 : Knows T n7 sp_rat_Least) (k8 : KnowsG T n8 ef_Insert.at) (k9 : Knows T n9 sp_join) (k10 : Knows T n10 (cloneS 2 16))
    (m : MemG) (th o q v : Int) (w : RatG) (hm : m.plain.Wf 1000000) (hhole : hole = ⟨o.toNat, th.toNat⟩) :
    vck T 0 V_hist_Do (L_hist_Do n1 n2 n3 n4 n5 n6 n7 n8 n9 n10) ⟨envFrom 0 [m.av, StepG.av7 ⟨th, ⟨2, o, q, v⟩, w⟩], []⟩ (retK R_hist_Do (SaysK (RetD (.tup [(resM m.plain ⟨th, ⟨2, o, q, v⟩, w⟩).av, .d (.int .i64 (doErr m.plain ⟨th, ⟨2, o, q, v⟩, w⟩))])))) := by
  have F1 := k1.F; have G1 := k1.G; have F2 := k2.F; have G2 := k2.G; have F3 := k3.F; have G3 := k3.G; have G4 := k4.G; have F5 := k5.F; have G5 := k5.G; have F6 := k6.F; have G6 := k6.G; have F7 := k7.F; have G7 := k7.G; have G8 := k8.G; have F9 := k9.F; have G9 := k9.G; have F10 := k10.F; have G10 := k10.G
  subst hhole
  generalize hX : SaysK _ = X
  obtain ⟨a1, a2, a3, a4, a5, a6, a7, a8, a9, a10⟩ := m
  obtain ⟨wn, wd⟩ := w
  have hl : a1.length ≤ 16 := hm.locs
  have h1 : a3.length = a1.length := by have := hm.past; simpa [MemG.plain, inn_len] using this
  have h2 : a5.length = a1.length := hm.vals
  have h3 : a7.length = a1.length := by have := hm.marks; simpa [MemG.plain, inn_len] using this
  have h4 : a9.length ≤ 3 := by have := hm.fronts; simpa [MemG.plain, inn_len] using this
  have hcp := cp_ok hm (Nat.le_refl _)
  by_cases hb : (0 ≤ th ∧ th < a9.length) ∧ ActG.right ⟨2, o, q, v⟩ a1 = true
  · obtain ⟨⟨b1, b2⟩, b3⟩ := hb
    obtain ⟨b4, b5⟩ := right_bounds (by decide) b3
    have r6 : ∀ x, ((rowsL StampG.row (cpL a3 a3.length)).set o.toNat x).getD o.toNat [] = x := fun x => by
      rw [List.getD_eq_getElem?_getD, List.getElem?_set_self (by rw [rowsL_len, cpL_len]; omega)]; rfl
    have r8 : ∀ x, ((rowsL RatG.row (cpL a9 a9.length)).set th.toNat x).getD th.toNat [] = x := fun x => by
      rw [List.getD_eq_getElem?_getD, List.getElem?_set_self (by rw [rowsL_len, cpL_len]; omega)]; rfl
    have c1 : (th < 0) = False := by simp; omega
    have c2 : ((a9.length : Int) ≤ th) = False := by simp; omega
    unfold V_hist_Do L_hist_Do R_hist_Do
    simp (maxSteps := 3000000) only [↓vck_skip, ↓vck_ret, ↓vck_exit, ↓vck_region, ↓vck_nilq, ↓nilTo_to, nilG_d, nilG_r, ↓vck_seq, ↓vck_cond, ↓vck_block, ↓vck_loop, ↓vckTo_to, ↓thenK_n, ↓thenK_x, ↓thenK_r, ↓blockK_n, ↓blockK_x, ↓blockK_o, ↓blockK_r, ↓regK_to, ↓retK_r, ↓retK_n, ↓loopV_n, ↓loopV_x, ↓loopV_r, ↓famK_n, ↓famK_x, ↓famK_r, ↓boolK_true, ↓boolK_false, ↓boolK_not, ↓boolK_dec, ↓boolK_and, nf_mk, RGk_end_f, RGk_end_t, RGk_op, RGk_guard, opK_to, evN, evCallN, grow_mk, feet_f, feet_t, foot_mk, stepK_mk, stepK_v, stepK_no, guardG_t, guardG_f, guardG_no, condG_b, evT, Opd.ev, get_hit, get_next, app_to, app_no, app_up, app_skip, app_skipn, know_mk, knowO_t, knowO_c, envFrom, reserve, keeps, LOp.isNew, State.prune, cellsQ, cellsT, AV.leaf, Heap.at, evLoad_ptr, evLoad_dptr, loadO_vec, loadO_dvec1, stepK_load_map, idx_I, idx_U, idx_Rat, idx_Loc, idx_Act, idx_Step, idx_Stamp, stepK_idx_ref, evStore_ptr, storeO_vec, stepK_store_map1, loadDT_f, rowI, rowU, RatG.row, LocG.row, ActG.row, StepG.row, StampG.row, ActG.av, ActG.eta, RatG.eta, LocG.eta, beq_true, beq_false, loadDT_t, set_rowI, set_rowU, app_rowI, app_rowU, rep_rowI, rep_rowU, set_rowRat, app_rowRat, rep_rowRat, set_rowLoc, app_rowLoc, app_rowAct, app_rowStep, List.length_set, List.length_replicate, Int.toNat_natCast, Int.reduceToNat, evLen, evAppend, srcOf, Src.all, Src.len, Src.leaf, Src.leafN, evApart, aliveQ, joinV, drows_rep1, drows_rep2, drows_rep3, drows_rep4, drows_rep5, drows_rep6, drows_rep7, drows_rep8, mkVec, drows, evMk, List.length_map, take_mapF, drop_mapF, List.take_length, List.take_left, List.length_append, Nat.le_add_right, ite_self, List.take_of_length_le, evSlice, intOr, intOpd, Option.isSome_none, Option.isSome_some, Nat.sub_zero, loadQ, loadT, evBin, evUn, binT, binQ, chk, apartF, List.contains_cons, List.contains_nil, Bool.or_false, Bool.false_or, Bool.and_self, resQ, resV, resT, pickV, evCallT, evTake, evCall, fnOf, viewsT, isD, HO.drow, viewT, evInt2, evEq, eqV, eqK, eqC1, buildQ, buildT, buildRQ, buildRT, lens_I, lensA_I, lens_U, lensA_U, lens_Rat, lensA_Rat, lens_Loc, lensA_Loc, lens_Act, lensA_Act, lens_Step, lensA_Step, lens_Stamp, lensA_Stamp, List.mem_cons, List.not_mem_nil, or_false, forall_eq, putRow, dcells, get_nil, RetS, RetF, RetD, AV.frz, AV.frzL, AV.freshP, AV.freshL, DV.less, scal_int, scal_bool, scal_nil, scal_rowI, scal_rowU, scal_rowRat, scal_rowStep, Option.some.injEq, AV.tup.injEq, AV.agg.injEq, List.cons.injEq, DV.list.injEq, List.isEmpty_nil, Nat.le_refl, AV.d.injEq, DV.int.injEq, DV.bool.injEq, ↓reduceIte, Nat.reduceEqDiff, Nat.reduceAdd, Nat.reduceBEq, List.length_cons, List.length_nil, List.replicate_succ, List.replicate_zero, List.nil_append, List.cons_append, List.append_nil, List.foldl_cons, List.foldl_nil, List.map_cons, List.map_nil, List.all_cons, List.all_nil, List.set_cons_zero, List.set_cons_succ, List.getD_cons_zero, List.getD_cons_succ, List.drop_zero, List.drop_succ_cons, List.take_succ_cons, List.take_zero, List.flatten_cons, List.flatten_nil, Bool.true_and, Bool.and_true, Bool.not_true, Bool.not_false, true_and, and_true, true_or, or_true, Option.bind_some, Option.map_some, decide_true, decide_false, beq_self_eq_true, true_implies, false_implies, implies_true, not_true_eq_false, not_false_eq_true, and_self, Bool.and_false, Bool.false_and, Nat.reduceLT, Nat.reduceLeDiff, List.reverse_cons, List.reverse_nil, Nat.zero_add, Nat.add_zero, Bool.false_eq_true, List.getElem?_cons_zero, MemG.av, StepG.av7, F1, G1, F2, G2, F3, G3, G4, F5, G5, F6, G6, F7, G7, G8, F9, G9, F10, G10, at_act_Right, at_plain, at_rat_Right, cp_eff, at_InsertE, insE_d, store_rowRat, inn_at, List.set_set, at_hist_at, at_rat_Cmp, at_rat_Least, at_join, at_clone, loadO_vec, storeO_vec, rowsL_len, cpL_len, List.length_set, Int.reduceEq, decide_true, decide_false, Bool.or_false, Bool.true_or, Bool.or_self, c1, c2, b3, r6, r8]
    have hpl : ((inn a3).getD o.toNat []).length ≤ 1000000 := hm.pasts _ (inn_get (L := a3) (i := o.toNat) (by omega))
    have hfl : ((inn a9).getD th.toNat []).length = a1.length := hm.frontsL _ (inn_get (L := a9) (i := th.toNat) (by omega))
    have hgood : goodQ (MemG.plain ⟨a1, a2, a3, a4, a5, a6, a7, a8, a9, a10⟩) ⟨th, ⟨2, o, q, v⟩, ⟨wn, wd⟩⟩ = rat_right wn wd := by
      have e1 : decide (th < 0) = false := decide_eq_false (by omega)
      have e2 : decide ((a9.length : Int) ≤ th) = false := decide_eq_false (by omega)
      simp [goodQ, MemG.plain, inn_len, isPl, rightQ, b3, e1, e2]
    have hD : doErr (MemG.plain ⟨a1, a2, a3, a4, a5, a6, a7, a8, a9, a10⟩) ⟨th, ⟨2, o, q, v⟩, ⟨wn, wd⟩⟩ = if rat_right wn wd = false then 1 else (if bsHas ((inn a3).getD o.toNat []) ⟨wn, wd⟩ = true then 5 else if rat_cmp wn wd (((inn a9).getD th.toNat []).getD o.toNat default).num (((inn a9).getD th.toNat []).getD o.toNat default).den ≤ 0 then 6 else 0) := by
      unfold doErr
      rw [hgood]
      by_cases g : rat_right wn wd = false
      · rw [if_pos g, if_pos g]
      · rw [if_neg g, if_neg g, if_neg (by show ¬ (2 : Int) = 1; decide), if_pos (by show (2 : Int) = 2; rfl)]; rfl
    have hM : doMem (MemG.plain ⟨a1, a2, a3, a4, a5, a6, a7, a8, a9, a10⟩) ⟨th, ⟨2, o, q, v⟩, ⟨wn, wd⟩⟩ = ⟨a1, (inn a3).set o.toNat (insG ((inn a3).getD o.toNat []) (bsAt ((inn a3).getD o.toNat []) ⟨wn, wd⟩) ⟨⟨(rat_least wn wd).1, (rat_least wn wd).2⟩, v⟩), a5, inn a7, (inn a9).set th.toNat (((inn a9).getD th.toNat []).set o.toNat ⟨(rat_least wn wd).1, (rat_least wn wd).2⟩)⟩ := by
      unfold doMem
      rw [if_pos (by show (2 : Int) = 2; rfl)]; rfl
    have hft : List.take ((inn a9).getD th.toNat []).length (((inn a9).getD th.toNat []).set o.toNat ⟨(rat_least wn wd).1, (rat_least wn wd).2⟩) = ((inn a9).getD th.toNat []).set o.toNat ⟨(rat_least wn wd).1, (rat_least wn wd).2⟩ := List.take_of_length_le (by simp)
    have hcp' : CpOk ⟨o.toNat, th.toNat⟩ ⟨a1, a2, a3, a4, a5, a6, a7, a8, a9, a10⟩ := cp_okH hcp (by show o.toNat < a3.length; omega) (by show th.toNat < a9.length; omega)
    have hbl := bsAt_le ((inn a3).getD o.toNat []) ⟨wn, wd⟩
    subst hX
    refine ⟨fun g1 => ⟨hcp', ⟨by omega, by omega⟩, by omega, ⟨by omega, by omega⟩, by omega, by omega, fun g2 => ?_, fun g2 => ⟨⟨by omega, by omega⟩, by omega, fun g3 => ?_, fun g3 => ⟨⟨by omega, by omega⟩, by omega, ⟨hbl, roomy_of (by omega) (by omega)⟩, ⟨by omega, by omega⟩, by omega, ⟨by omega, by omega⟩, by omega, ?_⟩⟩⟩, fun g1 => ?_⟩
    · exact end_err (by rw [hD, g1, if_neg (by simp), if_pos g2]) (by decide)
    · exact end_err (by rw [hD, g1, if_neg (by simp), g2, if_neg (by simp), if_pos g3]) (by decide)
    · exact end_ok (ids := [10, 13]) (by rw [hD, g1, if_neg (by simp), g2, if_neg (by simp), if_neg g3]) (by simp only [State.ices, State.ice, HO.data, iceEnv, iceHeap, ice_vec, ice_dvec, ice_dead, ice_mkVec, AV.ice, AV.iceL, iceRows_cons, iceRows_nil, iceRows_set, iceRows_rowsL, iceL_data, Heap.at, List.getD_cons_zero, List.getD_cons_succ, ↓reduceIte, Nat.reduceEqDiff, Option.map_some, Nat.zero_add, Nat.reduceAdd, Nat.reduceBEq, List.drop_zero, take_mapF, List.take_length, List.length_map, List.length_set, Nat.le_refl, and_self, Bool.not_true, hft]; rfl) (by rw [hM]; exact ⟨rfl, mk_rowsL_set _ _ _, rfl, mk_rowsL _, mk_rowsL_set _ _ _⟩) (by rw [hM]) (by rw [hM]; simp [inn_len]) (by rw [hM]) (by rw [hM]; simp [inn_len]) (by rw [hM]; simp [inn_len])
    · exact end_err (by rw [hD, g1, if_pos rfl]) (by decide)
  · have hD : doErr (MemG.plain ⟨a1, a2, a3, a4, a5, a6, a7, a8, a9, a10⟩) ⟨th, ⟨2, o, q, v⟩, ⟨wn, wd⟩⟩ = 1 := by
      unfold doErr
      rw [if_pos]
      unfold goodQ
      have e : ((inn a9).length : Int) = a9.length := by rw [inn_len]
      show (!decide (th < 0) && !decide (((inn a9).length : Int) ≤ th) && ActG.right ⟨2, o, q, v⟩ a1 && _ && _) = false
      rw [e]
      by_cases c1 : th < 0
      · simp [c1]
      · by_cases c2 : (a9.length : Int) ≤ th
        · simp [c2]
        · have : ActG.right ⟨2, o, q, v⟩ a1 = false := by
            cases h : ActG.right ⟨2, o, q, v⟩ a1 with
            | false => rfl
            | true => exact absurd ⟨⟨by omega, by omega⟩, h⟩ hb
          simp [this]
    unfold V_hist_Do L_hist_Do R_hist_Do
    simp (maxSteps := 3000000) only [↓vck_skip, ↓vck_ret, ↓vck_exit, ↓vck_region, ↓vck_nilq, ↓nilTo_to, nilG_d, nilG_r, ↓vck_seq, ↓vck_cond, ↓vck_block, ↓vck_loop, ↓vckTo_to, ↓thenK_n, ↓thenK_x, ↓thenK_r, ↓blockK_n, ↓blockK_x, ↓blockK_o, ↓blockK_r, ↓regK_to, ↓retK_r, ↓retK_n, ↓loopV_n, ↓loopV_x, ↓loopV_r, ↓famK_n, ↓famK_x, ↓famK_r, ↓boolK_true, ↓boolK_false, ↓boolK_not, ↓boolK_dec, ↓boolK_and, nf_mk, RGk_end_f, RGk_end_t, RGk_op, RGk_guard, opK_to, evN, evCallN, grow_mk, feet_f, feet_t, foot_mk, stepK_mk, stepK_v, stepK_no, guardG_t, guardG_f, guardG_no, condG_b, evT, Opd.ev, get_hit, get_next, app_to, app_no, app_up, app_skip, app_skipn, know_mk, knowO_t, knowO_c, envFrom, reserve, keeps, LOp.isNew, State.prune, cellsQ, cellsT, AV.leaf, Heap.at, evLoad_ptr, evLoad_dptr, loadO_vec, loadO_dvec1, stepK_load_map, idx_I, idx_U, idx_Rat, idx_Loc, idx_Act, idx_Step, idx_Stamp, stepK_idx_ref, evStore_ptr, storeO_vec, stepK_store_map1, loadDT_f, rowI, rowU, RatG.row, LocG.row, ActG.row, StepG.row, StampG.row, ActG.av, ActG.eta, RatG.eta, LocG.eta, beq_true, beq_false, loadDT_t, set_rowI, set_rowU, app_rowI, app_rowU, rep_rowI, rep_rowU, set_rowRat, app_rowRat, rep_rowRat, set_rowLoc, app_rowLoc, app_rowAct, app_rowStep, List.length_set, List.length_replicate, Int.toNat_natCast, Int.reduceToNat, evLen, evAppend, srcOf, Src.all, Src.len, Src.leaf, Src.leafN, evApart, aliveQ, joinV, drows_rep1, drows_rep2, drows_rep3, drows_rep4, drows_rep5, drows_rep6, drows_rep7, drows_rep8, mkVec, drows, evMk, List.length_map, take_mapF, drop_mapF, List.take_length, List.take_left, List.length_append, Nat.le_add_right, ite_self, List.take_of_length_le, evSlice, intOr, intOpd, Option.isSome_none, Option.isSome_some, Nat.sub_zero, loadQ, loadT, evBin, evUn, binT, binQ, chk, apartF, List.contains_cons, List.contains_nil, Bool.or_false, Bool.false_or, Bool.and_self, resQ, resV, resT, pickV, evCallT, evTake, evCall, fnOf, viewsT, isD, HO.drow, viewT, evInt2, evEq, eqV, eqK, eqC1, buildQ, buildT, buildRQ, buildRT, lens_I, lensA_I, lens_U, lensA_U, lens_Rat, lensA_Rat, lens_Loc, lensA_Loc, lens_Act, lensA_Act, lens_Step, lensA_Step, lens_Stamp, lensA_Stamp, List.mem_cons, List.not_mem_nil, or_false, forall_eq, putRow, dcells, get_nil, RetS, RetF, RetD, AV.frz, AV.frzL, AV.freshP, AV.freshL, DV.less, scal_int, scal_bool, scal_nil, scal_rowI, scal_rowU, scal_rowRat, scal_rowStep, Option.some.injEq, AV.tup.injEq, AV.agg.injEq, List.cons.injEq, DV.list.injEq, List.isEmpty_nil, Nat.le_refl, AV.d.injEq, DV.int.injEq, DV.bool.injEq, ↓reduceIte, Nat.reduceEqDiff, Nat.reduceAdd, Nat.reduceBEq, List.length_cons, List.length_nil, List.replicate_succ, List.replicate_zero, List.nil_append, List.cons_append, List.append_nil, List.foldl_cons, List.foldl_nil, List.map_cons, List.map_nil, List.all_cons, List.all_nil, List.set_cons_zero, List.set_cons_succ, List.getD_cons_zero, List.getD_cons_succ, List.drop_zero, List.drop_succ_cons, List.take_succ_cons, List.take_zero, List.flatten_cons, List.flatten_nil, Bool.true_and, Bool.and_true, Bool.not_true, Bool.not_false, true_and, and_true, true_or, or_true, Option.bind_some, Option.map_some, decide_true, decide_false, beq_self_eq_true, true_implies, false_implies, implies_true, not_true_eq_false, not_false_eq_true, and_self, Bool.and_false, Bool.false_and, Nat.reduceLT, Nat.reduceLeDiff, List.reverse_cons, List.reverse_nil, Nat.zero_add, Nat.add_zero, Bool.false_eq_true, List.getElem?_cons_zero, MemG.av, StepG.av7, F1, G1, F2, G2, F3, G3, G4, F5, G5, F6, G6, F7, G7, G8, F9, G9, F10, G10, at_act_Right, at_plain, at_rat_Right, cp_eff, at_InsertE, insE_d, store_rowRat, inn_at, List.set_set, at_hist_at, at_rat_Cmp, at_rat_Least, at_join, at_clone, loadO_vec, storeO_vec, rowsL_len, cpL_len, List.length_set, Int.reduceEq, decide_true, decide_false, Bool.or_false, Bool.true_or, Bool.or_self]
    subst hX
    exact ⟨fun _ => end_err hD (by decide), fun g1 => ⟨fun _ => end_err hD (by decide), fun g2 => ⟨fun g3 => absurd ⟨⟨by omega, by omega⟩, g3⟩ hb, fun _ => end_err hD (by decide)⟩⟩⟩
end Go.Ago

/- hist.Do: its contract. Conditions: none. -/
set_option maxRecDepth 100000
set_option linter.unusedSimpArgs false
set_option linter.unusedVariables false
namespace Go.Ago
def NeN (a b : Nat) : Prop := (a == b) = false
theorem KnowsG.nextG {T : Tab} {g g' : FuncId} {e e' : List AV → Heap → Option Eff} (hn : (g == g') = false) (h : KnowsG T g e) : KnowsG (T.addG g' e') g e :=
  ⟨by have : ¬ g = g' := by simpa using hn
      simp [Tab.addG, this, h.G]⟩
theorem KnowsG.hit {T : Tab} {g : FuncId} {e : List AV → Heap → Option Eff} : KnowsG (T.addG g e) g e := ⟨by simp [Tab.addG]⟩
theorem at_Do (a1 : List LocG) (a2 : Bool) (a3 : List StampsF) (a4 : Bool) (a5 : List Int) (a6 : Bool) (a7 : List RatsF) (a8 : Bool) (a9 : List RatsF) (a10 : Bool) (t k o q v n d : Int) :
    sp_Do.at [.agg [.d (.list (a1.map LocG.row) a2), .d (.list (a3.map rowStamps) a4), .d (.list (a5.map rowI) a6), .d (.list (a7.map rowRats) a8), .d (.list (a9.map rowRats) a10)], .agg [.d (.int .i64 t), .d (.int .i64 k), .d (.int .i64 o), .d (.int .i64 q), .d (.int .i64 v), .d (.int .i64 n), .d (.int .i64 d)]] =
      .data ((MemG.plain ⟨a1, a2, a3, a4, a5, a6, a7, a8, a9, a10⟩).Wf 1000000) (.tup [(resM (MemG.plain ⟨a1, a2, a3, a4, a5, a6, a7, a8, a9, a10⟩) ⟨t, ⟨k, o, q, v⟩, ⟨n, d⟩⟩).av, .d (.int .i64 (doErr (MemG.plain ⟨a1, a2, a3, a4, a5, a6, a7, a8, a9, a10⟩) ⟨t, ⟨k, o, q, v⟩, ⟨n, d⟩⟩))]) false :=
  Sp.at_enc (s := sp_Do) (fun x y h => by
    obtain ⟨m, ⟨t, ⟨k, o, q, v⟩, n, d⟩⟩ := x; obtain ⟨m', ⟨t', ⟨k', o', q', v'⟩, n', d'⟩⟩ := y
    simp only [sp_Do, StepG.av7, List.cons.injEq, AV.agg.injEq, AV.d.injEq, DV.int.injEq, and_true, true_and] at h
    obtain ⟨h1, h2, h3, h4, h5, h6, h7, h8⟩ := h
    rw [MemG.av_inj _ _ h1, h2, h3, h4, h5, h6, h7, h8]) (⟨a1, a2, a3, a4, a5, a6, a7, a8, a9, a10⟩, ⟨t, ⟨k, o, q, v⟩, ⟨n, d⟩⟩)
theorem Do_ok {P : Program} {T : Tab} {n1 n2 n3 n4 n5 n6 n7 n8 n9 n10 : Nat} (hH : ∀ h, TabOK P (T.addG n4 (ef_copied h).at)) (h0 : TabOK P (T.addG n4 ef_copied0.at)) (k1 : Knows T n1 sp_act_Right) (k2 : Knows T n2 sp_plain) (k3 : Knows T n3 sp_rat_Right) (k5 : Knows T n5 sp_hist_at) (k6 : Knows T n6 sp_rat_Cmp) (k7 : Knows T n7 sp_rat_Least) (k8 : KnowsG T n8 ef_Insert.at) (k9 : Knows T n9 sp_join) (k10 : Knows T n10 (cloneS 2 16))
    (e1 : NeN n1 n4) (e2 : NeN n2 n4) (e3 : NeN n3 n4) (e5 : NeN n5 n4) (e6 : NeN n6 n4) (e7 : NeN n7 n4) (e8 : NeN n8 n4) (e9 : NeN n9 n4) (e10 : NeN n10 n4)
    {f : FuncId} {fn : Func} {c : Code} (hf : P.funcs[f]? = some fn) (hname : (fn.name == "runtime.NumGoroutine") = false) (hb : fn.body = some c) (hl : lowCode P fn.ntmps c = some (L_hist_Do n1 n2 n3 n4 n5 n6 n7 n8 n9 n10)) (hr : lowRess P fn.results.toList = some R_hist_Do)
    (ha : 2 ≤ fn.ntmps) : sp_Do.Ok P f := by
  rintro ⟨m, ⟨th, ⟨k, o, q, v⟩, w⟩⟩ hok
  have hok : m.plain.Wf 1000000 := hok
  have fin : ∀ {e : List AV → Heap → Option Eff}, TabOK P (T.addG n4 e) →
      (Knows (T.addG n4 e) n1 sp_act_Right → Knows (T.addG n4 e) n2 sp_plain → Knows (T.addG n4 e) n3 sp_rat_Right → KnowsG (T.addG n4 e) n4 e → Knows (T.addG n4 e) n5 sp_hist_at → Knows (T.addG n4 e) n6 sp_rat_Cmp → Knows (T.addG n4 e) n7 sp_rat_Least → KnowsG (T.addG n4 e) n8 ef_Insert.at → Knows (T.addG n4 e) n9 sp_join → Knows (T.addG n4 e) n10 (cloneS 2 16) →
        vck (T.addG n4 e) 0 V_hist_Do (L_hist_Do n1 n2 n3 n4 n5 n6 n7 n8 n9 n10) ⟨envFrom 0 [m.av, StepG.av7 ⟨th, ⟨k, o, q, v⟩, w⟩], []⟩ (retK R_hist_Do (SaysK (RetD (.tup [(resM m.plain ⟨th, ⟨k, o, q, v⟩, w⟩).av, .d (.int .i64 (doErr m.plain ⟨th, ⟨k, o, q, v⟩, w⟩))]))))) →
      ACalls P f [m.av, StepG.av7 ⟨th, ⟨k, o, q, v⟩, w⟩] [] (RetD (.tup [(resM m.plain ⟨th, ⟨k, o, q, v⟩, w⟩).av, .d (.int .i64 (doErr m.plain ⟨th, ⟨k, o, q, v⟩, w⟩))])) := fun hT hv =>
    ACalls.saysK (ACalls.of_vck hT V_hist_Do hf hname hb hl hr ha (hv (k1.nextG e1) (k2.nextG e2) (k3.nextG e3) .hit (k5.nextG e5) (k6.nextG e6) (k7.nextG e7) (k8.nextG e8) (k9.nextG e9) (k10.nextG e10)))
  have hA : ACalls P f [m.av, StepG.av7 ⟨th, ⟨k, o, q, v⟩, w⟩] [] (RetD (.tup [(resM m.plain ⟨th, ⟨k, o, q, v⟩, w⟩).av, .d (.int .i64 (doErr m.plain ⟨th, ⟨k, o, q, v⟩, w⟩))])) := by
    by_cases c2 : k = 2
    · subst c2
      exact fin (hH ⟨o.toNat, th.toNat⟩) fun k1 k2 k3 k4 k5 k6 k7 k8 k9 k10 => do_write k1 k2 k3 k4 k5 k6 k7 k8 k9 k10 m th o q v w hok rfl
    · refine fin h0 fun k1 k2 k3 k4 k5 k6 k7 k8 k9 k10 => ?_
      by_cases c1 : k = 1
      · subst c1; exact do_read k1 k2 k3 k4 k5 k6 k7 k8 k9 k10 m th o q v w hok
      · by_cases c3 : k = 3
        · subst c3; exact do_get k1 k2 k3 k4 k5 k6 k7 k8 k9 k10 m th o q v w hok
        · by_cases c4 : k = 4
          · subst c4; exact do_set k1 k2 k3 k4 k5 k6 k7 k8 k9 k10 m th o q v w hok
          · by_cases c5 : k = 5
            · subst c5; exact do_turn k1 k2 k3 k4 k5 k6 k7 k8 k9 k10 m th o q v w hok
            · exact do_other k1 k2 k3 k4 k5 k6 k7 k8 k9 k10 m th o q v w hok ⟨c1, c2, c3, c4, c5⟩
  exact ⟨AV.plain_spec _ rfl, hA.mono fun r H' e => ⟨(AV.frz_spec _ _ e).1, fun h => by cases h⟩⟩
end Go.Ago

/- hist.Sees and hist.New. Conditions: none. -/
set_option maxRecDepth 100000
set_option linter.unusedSimpArgs false
set_option linter.unusedVariables false
namespace Go.Ago
/-! ### Sees -/
def seesG (m : Mem) (t l : Int) : List StampG :=
  if t < 0 ∨ (m.fronts.length : Int) ≤ t ∨ l < 0 ∨ (m.past.length : Int) ≤ l then []
  else (m.past.getD l.toNat []).filter fun s => decide (0 ≤ cmpQ' s.when ((m.fronts.getD t.toNat []).getD l.toNat default))
def sp_Sees : Sp := ⟨MemG × Int × Int, fun x => [x.1.av, .d (.int .i64 x.2.1), .d (.int .i64 x.2.2)], fun x => .data (x.1.plain.Wf 1000000) (.d (.list ((seesG x.1.plain x.2.1 x.2.2).map StampG.row) false)) false⟩
theorem at_Sees (a1 : List LocG) (a2 : Bool) (a3 : List StampsF) (a4 : Bool) (a5 : List Int) (a6 : Bool) (a7 : List RatsF) (a8 : Bool) (a9 : List RatsF) (a10 : Bool) (t l : Int) :
    sp_Sees.at [.agg [.d (.list (a1.map LocG.row) a2), .d (.list (a3.map rowStamps) a4), .d (.list (a5.map rowI) a6), .d (.list (a7.map rowRats) a8), .d (.list (a9.map rowRats) a10)], .d (.int .i64 t), .d (.int .i64 l)] =
      .data ((MemG.plain ⟨a1, a2, a3, a4, a5, a6, a7, a8, a9, a10⟩).Wf 1000000) (.d (.list ((seesG (MemG.plain ⟨a1, a2, a3, a4, a5, a6, a7, a8, a9, a10⟩) t l).map StampG.row) false)) false :=
  Sp.at_enc (s := sp_Sees) (fun x y h => by
    obtain ⟨m, t, l⟩ := x; obtain ⟨m', t', l'⟩ := y
    simp only [sp_Sees, List.cons.injEq, AV.d.injEq, DV.int.injEq, and_true, true_and] at h
    obtain ⟨h1, h2, h3⟩ := h
    rw [MemG.av_inj _ _ h1, h2, h3]) (⟨a1, a2, a3, a4, a5, a6, a7, a8, a9, a10⟩, t, l)
def seeSt (m : MemG) (t l : Int) (P : List StampG) (pf : Bool) : Nat × List StampG → State
  | (i, []) => ⟨[(3, .ptr 0 5 0 0), (1, .d (.int .i64 t)), (2, .d (.int .i64 l)), (7, .d (.list [] true)), (34, .d (.list (P.map StampG.row) pf)), (35, .d (.int .i64 P.length)), (36, .d (.int .i64 i))],
      [.vec 5 [[.d (.list (m.locs.map LocG.row) m.lf), .d (.list (m.past.map rowStamps) m.pf), .d (.list (m.vals.map rowI) m.vf), .d (.list (m.marks.map rowRats) m.mf), .d (.list (m.fronts.map rowRats) m.ff)]]]⟩
  | (i, a :: r) => ⟨[(3, .ptr 0 5 0 0), (1, .d (.int .i64 t)), (2, .d (.int .i64 l)), (7, .ref 1 3 0 (r.length + 1) true), (34, .d (.list (P.map StampG.row) pf)), (35, .d (.int .i64 P.length)), (36, .d (.int .i64 i))],
      [.vec 5 [[.d (.list (m.locs.map LocG.row) m.lf), .d (.list (m.past.map rowStamps) m.pf), .d (.list (m.vals.map rowI) m.vf), .d (.list (m.marks.map rowRats) m.mf), .d (.list (m.fronts.map rowRats) m.ff)]], .dvec 3 ((a :: r).map StampG.row)]⟩
set_option maxHeartbeats 4000000 in
theorem body_hist_Sees {T : Tab} {n1 : Nat} (k1 : Knows T n1 sp_rat_Cmp) : sp_Sees.Body T V_hist_Sees (L_hist_Sees n1) R_hist_Sees := by
  have F1 := k1.F; have G1 := k1.G
  rintro ⟨m, t, l⟩ (hm : m.plain.Wf 1000000)
  refine ⟨rfl, ?_⟩
  obtain ⟨a1, a2, a3, a4, a5, a6, a7, a8, a9, a10⟩ := m
  have hl : a1.length ≤ 16 := hm.locs
  have h1 : a3.length = a1.length := by have := hm.past; simpa [MemG.plain, inn_len] using this
  have h4 : a9.length ≤ 3 := by have := hm.fronts; simpa [MemG.plain, inn_len] using this
  unfold V_hist_Sees L_hist_Sees R_hist_Sees
  simp (maxSteps := 3000000) only [↓vck_skip, ↓vck_ret, ↓vck_exit, ↓vck_region, ↓vck_nilq, ↓nilTo_to, nilG_d, nilG_r, ↓vck_seq, ↓vck_cond, ↓vck_block, ↓vck_loop, ↓vckTo_to, ↓thenK_n, ↓thenK_x, ↓thenK_r, ↓blockK_n, ↓blockK_x, ↓blockK_o, ↓blockK_r, ↓regK_to, ↓retK_r, ↓retK_n, ↓loopV_n, ↓loopV_x, ↓loopV_r, ↓famK_n, ↓famK_x, ↓famK_r, ↓boolK_true, ↓boolK_false, ↓boolK_not, ↓boolK_dec, ↓boolK_and, nf_mk, RGk_end_f, RGk_end_t, RGk_op, RGk_guard, opK_to, evN, evCallN, grow_mk, feet_f, feet_t, foot_mk, stepK_mk, stepK_v, stepK_no, guardG_t, guardG_f, guardG_no, condG_b, evT, Opd.ev, get_hit, get_next, app_to, app_no, app_up, app_skip, app_skipn, know_mk, knowO_t, knowO_c, envFrom, reserve, keeps, LOp.isNew, State.prune, cellsQ, cellsT, AV.leaf, Heap.at, evLoad_ptr, evLoad_dptr, loadO_vec, loadO_dvec1, stepK_load_map, idx_I, idx_U, idx_Rat, idx_Loc, idx_Act, idx_Step, idx_Stamp, stepK_idx_ref, evStore_ptr, storeO_vec, stepK_store_map1, loadDT_f, rowI, rowU, RatG.row, LocG.row, ActG.row, StepG.row, StampG.row, ActG.av, ActG.eta, RatG.eta, LocG.eta, beq_true, beq_false, loadDT_t, set_rowI, set_rowU, app_rowI, app_rowU, rep_rowI, rep_rowU, set_rowRat, app_rowRat, rep_rowRat, set_rowLoc, app_rowLoc, app_rowAct, app_rowStep, List.length_set, List.length_replicate, Int.toNat_natCast, Int.reduceToNat, evLen, evAppend, srcOf, Src.all, Src.len, Src.leaf, Src.leafN, evApart, aliveQ, joinV, drows_rep1, drows_rep2, drows_rep3, drows_rep4, drows_rep5, drows_rep6, drows_rep7, drows_rep8, mkVec, drows, evMk, List.length_map, take_mapF, drop_mapF, List.take_length, List.take_left, List.length_append, Nat.le_add_right, ite_self, List.take_of_length_le, evSlice, intOr, intOpd, Option.isSome_none, Option.isSome_some, Nat.sub_zero, loadQ, loadT, evBin, evUn, binT, binQ, chk, apartF, List.contains_cons, List.contains_nil, Bool.or_false, Bool.false_or, Bool.and_self, resQ, resV, resT, pickV, evCallT, evTake, evCall, fnOf, viewsT, isD, HO.drow, viewT, evInt2, evEq, eqV, eqK, eqC1, buildQ, buildT, buildRQ, buildRT, lens_I, lensA_I, lens_U, lensA_U, lens_Rat, lensA_Rat, lens_Loc, lensA_Loc, lens_Act, lensA_Act, lens_Step, lensA_Step, lens_Stamp, lensA_Stamp, List.mem_cons, List.not_mem_nil, or_false, forall_eq, putRow, dcells, get_nil, RetS, RetF, RetD, AV.frz, AV.frzL, AV.freshP, AV.freshL, DV.less, scal_int, scal_bool, scal_nil, scal_rowI, scal_rowU, scal_rowRat, scal_rowStep, Option.some.injEq, AV.tup.injEq, AV.agg.injEq, List.cons.injEq, DV.list.injEq, List.isEmpty_nil, Nat.le_refl, AV.d.injEq, DV.int.injEq, DV.bool.injEq, ↓reduceIte, Nat.reduceEqDiff, Nat.reduceAdd, Nat.reduceBEq, List.length_cons, List.length_nil, List.replicate_succ, List.replicate_zero, List.nil_append, List.cons_append, List.append_nil, List.foldl_cons, List.foldl_nil, List.map_cons, List.map_nil, List.all_cons, List.all_nil, List.set_cons_zero, List.set_cons_succ, List.getD_cons_zero, List.getD_cons_succ, List.drop_zero, List.drop_succ_cons, List.take_succ_cons, List.take_zero, List.flatten_cons, List.flatten_nil, Bool.true_and, Bool.and_true, Bool.not_true, Bool.not_false, true_and, and_true, true_or, or_true, Option.bind_some, Option.map_some, decide_true, decide_false, beq_self_eq_true, true_implies, false_implies, implies_true, not_true_eq_false, not_false_eq_true, and_self, Bool.and_false, Bool.false_and, Nat.reduceLT, Nat.reduceLeDiff, List.reverse_cons, List.reverse_nil, Nat.zero_add, Nat.add_zero, Bool.false_eq_true, List.getElem?_cons_zero, sp_Sees, MemG.av, F1, G1, at_rat_Cmp, getStamps, rowStamps_len, idx_Stamps, idx_Rats, getRats, rowRats_len]
  have nil : (t < 0 ∨ (a9.length : Int) ≤ t ∨ l < 0 ∨ (a3.length : Int) ≤ l) → [] = List.map StampG.row (seesG (MemG.plain ⟨a1, a2, a3, a4, a5, a6, a7, a8, a9, a10⟩) t l) := fun h => by
    unfold seesG
    rw [if_pos (by
      show t < 0 ∨ ((inn a9).length : Int) ≤ t ∨ l < 0 ∨ ((inn a3).length : Int) ≤ l
      rw [inn_len, inn_len]; exact h)]; rfl
  refine ⟨fun b1 => nil (.inl b1), fun b1 => ⟨fun b2 => nil (.inr (.inl b2)), fun b2 => ⟨fun b3 => nil (.inr (.inr (.inl b3))), fun b3 => ⟨fun b4 => nil (.inr (.inr (.inr b4))), fun b4 => ⟨⟨by omega, by omega⟩, ?_⟩⟩⟩⟩⟩
  have hP : seesG (MemG.plain ⟨a1, a2, a3, a4, a5, a6, a7, a8, a9, a10⟩) t l = (a3.getD l.toNat default).1.filter fun s => decide (0 ≤ rat_cmp s.when.num s.when.den ((a9.getD t.toNat default).1.getD l.toNat default).num ((a9.getD t.toNat default).1.getD l.toNat default).den) := by
    unfold seesG
    rw [if_neg (by
      show ¬ (t < 0 ∨ ((inn a9).length : Int) ≤ t ∨ l < 0 ∨ ((inn a3).length : Int) ≤ l)
      rw [inn_len, inn_len]; omega), inn_at, inn_at]; rfl
  have hpl : (a3.getD l.toNat default).1.length ≤ 1000000 := by rw [inn_at]; exact hm.pasts _ (inn_get (L := a3) (i := l.toNat) (by omega))
  have hfl : (a9.getD t.toNat default).1.length = a1.length := by rw [inn_at]; exact hm.frontsL _ (inn_get (L := a9) (i := t.toNat) (by omega))
  rw [hP]
  generalize (a3.getD l.toNat default).1 = P at *
  generalize (a3.getD l.toNat default).2 = pf at *
  generalize hq : (fun s : StampG => decide (0 ≤ rat_cmp s.when.num s.when.den ((a9.getD t.toNat default).1.getD l.toNat default).num ((a9.getD t.toNat default).1.getD l.toNat default).den)) = qq
  have hqs : ∀ s : StampG, qq s = decide (0 ≤ rat_cmp s.when.num s.when.den ((a9.getD t.toNat default).1.getD l.toNat default).num ((a9.getD t.toNat default).1.getD l.toNat default).den) := fun s => by rw [← hq]
  have tk : ∀ i, i < P.length → (P.take (i + 1)).filter qq = (P.take i).filter qq ++ (if qq (P.getD i default) = true then [P.getD i default] else []) := fun i hi => by
    rw [List.take_add_one, List.getElem?_eq_getElem hi, List.filter_append, getD_lt hi]
    by_cases h : qq P[i] = true <;> simp [h]
  refine Loop.fam [3, 1, 2, 7, 34, 35, 36] (seeSt ⟨a1, a2, a3, a4, a5, a6, a7, a8, a9, a10⟩ t l P pf) (fun x => x.1 ≤ P.length ∧ x.2 = (P.take x.1).filter qq) (fun x => P.length - x.1) (0, []) [0] (by simp) (by simp) (by simp only [State.can, AV.can, AV.canL, HO.can, canRows, idx, get_hit, get_next, Heap.at, Nat.reduceBEq, ↓reduceIte, Nat.reduceEqDiff, Option.getD_some, Option.map_some, List.map_cons, List.map_nil, List.getD_cons_zero, List.getD_cons_succ, seeSt]; rfl) ⟨Nat.zero_le _, by simp⟩ ?_
  rintro ⟨i, acc⟩ ⟨hi, ha⟩
  have hi : i ≤ P.length := hi
  have ha : acc = (P.take i).filter qq := ha
  have hal : acc.length ≤ i := by rw [ha]; exact Nat.le_trans (List.length_filter_le _ _) (by rw [List.length_take]; omega)
  cases acc with
  | nil =>
    simp (maxSteps := 3000000) only [↓vck_skip, ↓vck_ret, ↓vck_exit, ↓vck_region, ↓vck_nilq, ↓nilTo_to, nilG_d, nilG_r, ↓vck_seq, ↓vck_cond, ↓vck_block, ↓vck_loop, ↓vckTo_to, ↓thenK_n, ↓thenK_x, ↓thenK_r, ↓blockK_n, ↓blockK_x, ↓blockK_o, ↓blockK_r, ↓regK_to, ↓retK_r, ↓retK_n, ↓loopV_n, ↓loopV_x, ↓loopV_r, ↓famK_n, ↓famK_x, ↓famK_r, ↓boolK_true, ↓boolK_false, ↓boolK_not, ↓boolK_dec, ↓boolK_and, nf_mk, RGk_end_f, RGk_end_t, RGk_op, RGk_guard, opK_to, evN, evCallN, grow_mk, feet_f, feet_t, foot_mk, stepK_mk, stepK_v, stepK_no, guardG_t, guardG_f, guardG_no, condG_b, evT, Opd.ev, get_hit, get_next, app_to, app_no, app_up, app_skip, app_skipn, know_mk, knowO_t, knowO_c, envFrom, reserve, keeps, LOp.isNew, State.prune, cellsQ, cellsT, AV.leaf, Heap.at, evLoad_ptr, evLoad_dptr, loadO_vec, loadO_dvec1, stepK_load_map, idx_I, idx_U, idx_Rat, idx_Loc, idx_Act, idx_Step, idx_Stamp, stepK_idx_ref, evStore_ptr, storeO_vec, stepK_store_map1, loadDT_f, rowI, rowU, RatG.row, LocG.row, ActG.row, StepG.row, StampG.row, ActG.av, ActG.eta, RatG.eta, LocG.eta, beq_true, beq_false, loadDT_t, set_rowI, set_rowU, app_rowI, app_rowU, rep_rowI, rep_rowU, set_rowRat, app_rowRat, rep_rowRat, set_rowLoc, app_rowLoc, app_rowAct, app_rowStep, List.length_set, List.length_replicate, Int.toNat_natCast, Int.reduceToNat, evLen, evAppend, srcOf, Src.all, Src.len, Src.leaf, Src.leafN, evApart, aliveQ, joinV, drows_rep1, drows_rep2, drows_rep3, drows_rep4, drows_rep5, drows_rep6, drows_rep7, drows_rep8, mkVec, drows, evMk, List.length_map, take_mapF, drop_mapF, List.take_length, List.take_left, List.length_append, Nat.le_add_right, ite_self, List.take_of_length_le, evSlice, intOr, intOpd, Option.isSome_none, Option.isSome_some, Nat.sub_zero, loadQ, loadT, evBin, evUn, binT, binQ, chk, apartF, List.contains_cons, List.contains_nil, Bool.or_false, Bool.false_or, Bool.and_self, resQ, resV, resT, pickV, evCallT, evTake, evCall, fnOf, viewsT, isD, HO.drow, viewT, evInt2, evEq, eqV, eqK, eqC1, buildQ, buildT, buildRQ, buildRT, lens_I, lensA_I, lens_U, lensA_U, lens_Rat, lensA_Rat, lens_Loc, lensA_Loc, lens_Act, lensA_Act, lens_Step, lensA_Step, lens_Stamp, lensA_Stamp, List.mem_cons, List.not_mem_nil, or_false, forall_eq, putRow, dcells, get_nil, RetS, RetF, RetD, AV.frz, AV.frzL, AV.freshP, AV.freshL, DV.less, scal_int, scal_bool, scal_nil, scal_rowI, scal_rowU, scal_rowRat, scal_rowStep, Option.some.injEq, AV.tup.injEq, AV.agg.injEq, List.cons.injEq, DV.list.injEq, List.isEmpty_nil, Nat.le_refl, AV.d.injEq, DV.int.injEq, DV.bool.injEq, ↓reduceIte, Nat.reduceEqDiff, Nat.reduceAdd, Nat.reduceBEq, List.length_cons, List.length_nil, List.replicate_succ, List.replicate_zero, List.nil_append, List.cons_append, List.append_nil, List.foldl_cons, List.foldl_nil, List.map_cons, List.map_nil, List.all_cons, List.all_nil, List.set_cons_zero, List.set_cons_succ, List.getD_cons_zero, List.getD_cons_succ, List.drop_zero, List.drop_succ_cons, List.take_succ_cons, List.take_zero, List.flatten_cons, List.flatten_nil, Bool.true_and, Bool.and_true, Bool.not_true, Bool.not_false, true_and, and_true, true_or, or_true, Option.bind_some, Option.map_some, decide_true, decide_false, beq_self_eq_true, true_implies, false_implies, implies_true, not_true_eq_false, not_false_eq_true, and_self, Bool.and_false, Bool.false_and, Nat.reduceLT, Nat.reduceLeDiff, List.reverse_cons, List.reverse_nil, Nat.zero_add, Nat.add_zero, Bool.false_eq_true, List.getElem?_cons_zero, seeSt, sp_Sees, MemG.av, F1, G1, at_rat_Cmp, getStamps, rowStamps_len, idx_Stamps, idx_Rats, getRats, rowRats_len]
    refine ⟨fun c => ⟨⟨by omega, by omega⟩, ⟨by omega, by omega⟩, ⟨by omega, by omega⟩, fun g => ?_, fun g => ?_⟩, fun c => ?_⟩
    · have c' : i < P.length := by omega
      rw [wrap_succ c' (by unfold maxLen; omega)]
      refine ⟨roomy_of (by omega) (by omega), FamNext.mk [0, 3] (i + 1, [P.getD i default]) (by simp) (by simp) (by simp only [State.can, AV.can, AV.canL, HO.can, canRows, idx, get_hit, get_next, Heap.at, Nat.reduceBEq, ↓reduceIte, Nat.reduceEqDiff, Option.getD_some, Option.map_some, List.map_cons, List.map_nil, List.getD_cons_zero, List.getD_cons_succ, seeSt]; rfl) ⟨by show i + 1 ≤ P.length; omega, ?_⟩ (by show P.length - (i + 1) < P.length - i; omega)⟩
      show [P.getD i default] = (P.take (i + 1)).filter qq
      rw [tk i c', ← ha, if_pos (by rw [hqs]; exact decide_eq_true g)]; rfl
    · have c' : i < P.length := by omega
      rw [wrap_succ c' (by unfold maxLen; omega)]
      refine FamNext.mk [0] (i + 1, []) (by simp) (by simp) (by simp only [State.can, AV.can, AV.canL, HO.can, canRows, idx, get_hit, get_next, Heap.at, Nat.reduceBEq, ↓reduceIte, Nat.reduceEqDiff, Option.getD_some, Option.map_some, List.map_cons, List.map_nil, List.getD_cons_zero, List.getD_cons_succ, seeSt]) ⟨by show i + 1 ≤ P.length; omega, ?_⟩ (by show P.length - (i + 1) < P.length - i; omega)
      show [] = (P.take (i + 1)).filter qq
      rw [tk i c', ← ha, if_neg (by rw [hqs]; simpa using g)]; rfl
    · have : i = P.length := by omega
      subst this
      rw [List.take_length] at ha
      rw [← ha]; rfl
  | cons a r =>
    simp (maxSteps := 3000000) only [↓vck_skip, ↓vck_ret, ↓vck_exit, ↓vck_region, ↓vck_nilq, ↓nilTo_to, nilG_d, nilG_r, ↓vck_seq, ↓vck_cond, ↓vck_block, ↓vck_loop, ↓vckTo_to, ↓thenK_n, ↓thenK_x, ↓thenK_r, ↓blockK_n, ↓blockK_x, ↓blockK_o, ↓blockK_r, ↓regK_to, ↓retK_r, ↓retK_n, ↓loopV_n, ↓loopV_x, ↓loopV_r, ↓famK_n, ↓famK_x, ↓famK_r, ↓boolK_true, ↓boolK_false, ↓boolK_not, ↓boolK_dec, ↓boolK_and, nf_mk, RGk_end_f, RGk_end_t, RGk_op, RGk_guard, opK_to, evN, evCallN, grow_mk, feet_f, feet_t, foot_mk, stepK_mk, stepK_v, stepK_no, guardG_t, guardG_f, guardG_no, condG_b, evT, Opd.ev, get_hit, get_next, app_to, app_no, app_up, app_skip, app_skipn, know_mk, knowO_t, knowO_c, envFrom, reserve, keeps, LOp.isNew, State.prune, cellsQ, cellsT, AV.leaf, Heap.at, evLoad_ptr, evLoad_dptr, loadO_vec, loadO_dvec1, stepK_load_map, idx_I, idx_U, idx_Rat, idx_Loc, idx_Act, idx_Step, idx_Stamp, stepK_idx_ref, evStore_ptr, storeO_vec, stepK_store_map1, loadDT_f, rowI, rowU, RatG.row, LocG.row, ActG.row, StepG.row, StampG.row, ActG.av, ActG.eta, RatG.eta, LocG.eta, beq_true, beq_false, loadDT_t, set_rowI, set_rowU, app_rowI, app_rowU, rep_rowI, rep_rowU, set_rowRat, app_rowRat, rep_rowRat, set_rowLoc, app_rowLoc, app_rowAct, app_rowStep, List.length_set, List.length_replicate, Int.toNat_natCast, Int.reduceToNat, evLen, evAppend, srcOf, Src.all, Src.len, Src.leaf, Src.leafN, evApart, aliveQ, joinV, drows_rep1, drows_rep2, drows_rep3, drows_rep4, drows_rep5, drows_rep6, drows_rep7, drows_rep8, mkVec, drows, evMk, List.length_map, take_mapF, drop_mapF, List.take_length, List.take_left, List.length_append, Nat.le_add_right, ite_self, List.take_of_length_le, evSlice, intOr, intOpd, Option.isSome_none, Option.isSome_some, Nat.sub_zero, loadQ, loadT, evBin, evUn, binT, binQ, chk, apartF, List.contains_cons, List.contains_nil, Bool.or_false, Bool.false_or, Bool.and_self, resQ, resV, resT, pickV, evCallT, evTake, evCall, fnOf, viewsT, isD, HO.drow, viewT, evInt2, evEq, eqV, eqK, eqC1, buildQ, buildT, buildRQ, buildRT, lens_I, lensA_I, lens_U, lensA_U, lens_Rat, lensA_Rat, lens_Loc, lensA_Loc, lens_Act, lensA_Act, lens_Step, lensA_Step, lens_Stamp, lensA_Stamp, List.mem_cons, List.not_mem_nil, or_false, forall_eq, putRow, dcells, get_nil, RetS, RetF, RetD, AV.frz, AV.frzL, AV.freshP, AV.freshL, DV.less, scal_int, scal_bool, scal_nil, scal_rowI, scal_rowU, scal_rowRat, scal_rowStep, Option.some.injEq, AV.tup.injEq, AV.agg.injEq, List.cons.injEq, DV.list.injEq, List.isEmpty_nil, Nat.le_refl, AV.d.injEq, DV.int.injEq, DV.bool.injEq, ↓reduceIte, Nat.reduceEqDiff, Nat.reduceAdd, Nat.reduceBEq, List.length_cons, List.length_nil, List.replicate_succ, List.replicate_zero, List.nil_append, List.cons_append, List.append_nil, List.foldl_cons, List.foldl_nil, List.map_cons, List.map_nil, List.all_cons, List.all_nil, List.set_cons_zero, List.set_cons_succ, List.getD_cons_zero, List.getD_cons_succ, List.drop_zero, List.drop_succ_cons, List.take_succ_cons, List.take_zero, List.flatten_cons, List.flatten_nil, Bool.true_and, Bool.and_true, Bool.not_true, Bool.not_false, true_and, and_true, true_or, or_true, Option.bind_some, Option.map_some, decide_true, decide_false, beq_self_eq_true, true_implies, false_implies, implies_true, not_true_eq_false, not_false_eq_true, and_self, Bool.and_false, Bool.false_and, Nat.reduceLT, Nat.reduceLeDiff, List.reverse_cons, List.reverse_nil, Nat.zero_add, Nat.add_zero, Bool.false_eq_true, List.getElem?_cons_zero, seeSt, sp_Sees, MemG.av, F1, G1, at_rat_Cmp, getStamps, rowStamps_len, idx_Stamps, idx_Rats, getRats, rowRats_len]
    simp only [List.length_cons] at hal
    refine ⟨fun c => ⟨⟨by omega, by omega⟩, ⟨by omega, by omega⟩, ⟨by omega, by omega⟩, fun g => ?_, fun g => ?_⟩, fun c => ?_⟩
    · have c' : i < P.length := by omega
      rw [wrap_succ c' (by unfold maxLen; omega)]
      refine ⟨roomy_of (by omega) (by omega), FamNext.mk [0, 4] (i + 1, a :: (r ++ [P.getD i default])) (by simp) (by simp) (by simp only [State.can, AV.can, AV.canL, HO.can, canRows, idx, get_hit, get_next, Heap.at, Nat.reduceBEq, ↓reduceIte, Nat.reduceEqDiff, Option.getD_some, Option.map_some, List.map_cons, List.map_nil, List.getD_cons_zero, List.getD_cons_succ, seeSt]; simp [StampG.row]) ⟨by show i + 1 ≤ P.length; omega, ?_⟩ (by show P.length - (i + 1) < P.length - i; omega)⟩
      show a :: (r ++ [P.getD i default]) = (P.take (i + 1)).filter qq
      rw [tk i c', ← ha, if_pos (by rw [hqs]; exact decide_eq_true g)]; rfl
    · have c' : i < P.length := by omega
      rw [wrap_succ c' (by unfold maxLen; omega)]
      refine FamNext.mk [0, 1] (i + 1, a :: r) (by simp) (by simp) (by simp only [State.can, AV.can, AV.canL, HO.can, canRows, idx, get_hit, get_next, Heap.at, Nat.reduceBEq, ↓reduceIte, Nat.reduceEqDiff, Option.getD_some, Option.map_some, List.map_cons, List.map_nil, List.getD_cons_zero, List.getD_cons_succ, seeSt]; rfl) ⟨by show i + 1 ≤ P.length; omega, ?_⟩ (by show P.length - (i + 1) < P.length - i; omega)
      show a :: r = (P.take (i + 1)).filter qq
      rw [tk i c', ← ha, if_neg (by rw [hqs]; simpa using g)]; simp
    · have : i = P.length := by omega
      subst this
      rw [List.take_length] at ha
      rw [← ha]; rfl
end Go.Ago
