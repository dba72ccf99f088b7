/- The laws of layer 1, as bodies that answer true. Conditions: none. -/
import Derived.Test.YtlphhmgfjdecjaaAgoRef01
import Derived.Test.YtlphhmgfjdecjaaAgoLowLaw01
set_option maxRecDepth 100000
set_option linter.unusedSimpArgs false
set_option linter.unusedVariables false
namespace Go.Ago

def sp_true : Sp := ⟨Unit, fun _ => [], fun _ => .data True (.d (.bool true)) true⟩
theorem at_true : sp_true.at [] = .data True (.d (.bool true)) true := Sp.at_enc (s := sp_true) (fun x y h => rfl) ()

theorem body_law01_awake {T : Tab} {n1 n2 n3 : Nat} (k1 : Knows T n1 sp_rat_Right) (k2 : Knows T n2 sp_rat_Cmp) (k3 : Knows T n3 sp_rat_Between) : sp_true.Body T V_law01_awake (L_law01_awake n1 n2 n3) R_law01_awake := by
  have F1 := k1.F; have G1 := k1.G; have F2 := k2.F; have G2 := k2.G; have F3 := k3.F; have G3 := k3.G
  rintro x -
  refine .inl ⟨rfl, ?_⟩
  unfold V_law01_awake L_law01_awake R_law01_awake
  have e : rat_between 0 1 1 1 = some (1, 2) := by decide
  have e2 : rat_right 1 2 = true := by decide
  have e3 : rat_cmp 1 2 2 4 = 0 := by decide
  simp only [↓vck_skip, ↓vck_ret, ↓vck_exit, ↓vck_region, ↓vck_nilq, ↓nilTo_to, nilG_d, nilG_r, ↓vck_seq, ↓vck_cond, ↓vck_block, ↓vck_loop, ↓vckTo_to, ↓thenK_n, ↓thenK_x, ↓thenK_r, ↓blockK_n, ↓blockK_x, ↓blockK_o, ↓blockK_r, ↓regK_to, ↓retK_r, ↓retK_n, ↓loopV_n, ↓loopV_x, ↓loopV_r, ↓famK_n, ↓famK_x, ↓famK_r, ↓boolK_true, ↓boolK_false, ↓boolK_not, ↓boolK_dec, ↓boolK_and, nf_mk, RGk_end_f, RGk_end_t, RGk_op, RGk_guard, opK_to, feet_f, feet_t, foot_mk, stepK_mk, stepK_v, stepK_no, guardG_t, guardG_f, guardG_no, condG_b, evT, Opd.ev, get_hit, get_next, app_to, app_no, app_up, app_skip, app_skipn, know_mk, knowO_t, knowO_c, envFrom, reserve, keeps, LOp.isNew, State.prune, cellsQ, cellsT, AV.leaf, Heap.at, evLoad_ptr, evLoad_dptr, loadO_vec, loadO_dvec1, stepK_load_map, idx_I, idx_U, idx_Rat, idx_Loc, idx_Act, idx_Step, idx_Stamp, stepK_idx_ref, evStore_ptr, storeO_vec, stepK_store_map1, loadDT_f, rowI, rowU, RatG.row, LocG.row, ActG.row, StepG.row, StampG.row, ActG.av, ActG.eta, RatG.eta, LocG.eta, beq_true, beq_false, loadDT_t, set_rowI, set_rowU, app_rowI, app_rowU, rep_rowI, rep_rowU, set_rowRat, app_rowRat, rep_rowRat, set_rowLoc, app_rowLoc, app_rowAct, app_rowStep, List.length_set, List.length_replicate, Int.toNat_natCast, Int.reduceToNat, evLen, evAppend, srcOf, Src.all, Src.len, Src.leaf, joinV, drows_rep1, drows_rep2, drows_rep3, drows_rep4, drows_rep5, drows_rep6, drows_rep7, drows_rep8, mkVec, drows, evMk, List.length_map, take_map_len, take_map_ge, loadQ, loadT, evBin, evUn, binT, binQ, chk, apartF, List.contains_cons, List.contains_nil, Bool.or_false, Bool.false_or, Bool.and_self, resQ, resV, resT, pickV, evCallT, evCall, fnOf, viewsT, viewT, evInt2, evEq, eqV, eqK, eqC1, buildQ, buildT, buildRQ, buildRT, lens_I, lensA_I, lens_U, lensA_U, lens_Rat, lensA_Rat, lens_Loc, lensA_Loc, lens_Act, lensA_Act, lens_Step, lensA_Step, lens_Stamp, lensA_Stamp, List.mem_cons, List.not_mem_nil, or_false, forall_eq, putRow, dcells, get_nil, RetS, RetF, RetD, AV.frz, AV.frzL, AV.freshP, AV.freshL, DV.less, scal_int, scal_bool, scal_nil, scal_rowI, scal_rowU, scal_rowRat, scal_rowStep, Option.some.injEq, AV.tup.injEq, AV.agg.injEq, List.cons.injEq, DV.list.injEq, List.isEmpty_nil, Nat.le_refl, AV.d.injEq, DV.int.injEq, DV.bool.injEq, ↓reduceIte, Nat.reduceEqDiff, Nat.reduceAdd, Nat.reduceBEq, List.length_cons, List.length_nil, List.replicate_succ, List.replicate_zero, List.nil_append, List.cons_append, List.append_nil, List.foldl_cons, List.foldl_nil, List.map_cons, List.map_nil, List.all_cons, List.all_nil, List.set_cons_zero, List.set_cons_succ, List.getD_cons_zero, List.getD_cons_succ, List.drop_zero, List.drop_succ_cons, List.take_succ_cons, List.take_zero, List.flatten_cons, List.flatten_nil, Bool.true_and, Bool.and_true, Bool.not_true, Bool.not_false, true_and, and_true, true_or, or_true, Option.bind_some, Option.map_some, decide_true, decide_false, beq_self_eq_true, true_implies, false_implies, implies_true, not_true_eq_false, not_false_eq_true, and_self, Bool.and_false, Bool.false_and, Nat.reduceLT, Nat.reduceLeDiff, List.reverse_cons, List.reverse_nil, Nat.zero_add, Nat.add_zero, Bool.false_eq_true, List.getElem?_cons_zero, sp_true, F1, G1, at_rat_Right, F2, G2, at_rat_Cmp, F3, G3, at_rat_Between, e, e2, e3, mo]

/-! ### The plain laws -/
theorem cmp_eq {a b c d : Int} (h1 : rat_right a b = true) (h2 : rat_right c d = true) : rat_cmp a b c d = sgn (a * d - c * b) := by simp [rat_cmp, h1, h2]

theorem sgn_mul {d x : Int} (h : 0 < d) : sgn (d * x) = sgn x := by
  unfold sgn
  rcases Int.lt_trichotomy x 0 with hx | hx | hx
  · have := Int.mul_neg_of_pos_of_neg h hx
    rw [if_pos this, if_pos hx]
  · subst hx; simp
  · have := Int.mul_pos h hx
    rw [if_neg (by omega), if_pos this, if_neg (by omega), if_pos hx]

theorem sgn_nonpos {x : Int} : sgn x ≤ 0 ↔ x ≤ 0 := by unfold sgn; split <;> (try split) <;> omega
theorem sgn_zero {x : Int} : sgn x = 0 ↔ x = 0 := by unfold sgn; split <;> (try split) <;> omega
theorem sgn_neg {x : Int} : sgn x = -1 ↔ x < 0 := by unfold sgn; split <;> (try split) <;> omega
theorem sgn_one {x : Int} : sgn x = 1 ↔ 0 < x := by unfold sgn; split <;> (try split) <;> omega

/-- From a first to a second to a third. -/
theorem cross {a b c d e f : Int} (hb : 0 < b) (hd : 0 < d) (hf : 0 < f) (h1 : a * d ≤ c * b) (h2 : c * f ≤ e * d) : a * f ≤ e * b := by
  have e1 : a * d * f ≤ c * b * f := Int.mul_le_mul_of_nonneg_right h1 (by omega)
  have e2 : c * f * b ≤ e * d * b := Int.mul_le_mul_of_nonneg_right h2 (by omega)
  have e3 : c * b * f = c * f * b := by rw [Int.mul_assoc, Int.mul_comm b f, ← Int.mul_assoc]
  have e4 : a * d * f = d * (a * f) := by rw [Int.mul_comm a d, Int.mul_assoc]
  have e5 : e * d * b = d * (e * b) := by rw [Int.mul_comm e d, Int.mul_assoc]
  exact Int.le_of_mul_le_mul_left (by omega : d * (a * f) ≤ d * (e * b)) hd

theorem cmp_alike {a b c d e f : Int} (h1 : rat_right a b = true) (h2 : rat_right c d = true) (h3 : rat_right e f = true) (h : rat_cmp a b c d = 0) : rat_cmp a b e f = rat_cmp c d e f := by
  obtain ⟨r1, r2, r3, r4⟩ := right_iff.1 h1
  obtain ⟨s1, s2, s3, s4⟩ := right_iff.1 h2
  rw [cmp_eq h1 h2, sgn_zero] at h
  rw [cmp_eq h1 h3, cmp_eq h2 h3, ← sgn_mul (d := d) (x := a * f - e * b) (by omega), ← sgn_mul (d := b) (x := c * f - e * d) (by omega)]
  congr 1
  have e1 : d * (a * f) = f * (a * d) := by rw [← Int.mul_assoc, Int.mul_comm d a, Int.mul_comm]
  have e2 : b * (c * f) = f * (c * b) := by rw [← Int.mul_assoc, Int.mul_comm b c, Int.mul_comm]
  have e3 : d * (e * b) = b * (e * d) := by rw [Int.mul_comm d, Int.mul_comm b, Int.mul_assoc, Int.mul_assoc, Int.mul_comm b]
  have e4 : a * d = c * b := by omega
  rw [Int.mul_sub, Int.mul_sub, e1, e2, e3, e4]

/-- A moment and what it is lessened to. -/
theorem least_spec {a b : Int} (h : rat_right a b = true) : ∃ g A B, 0 < g ∧ 0 < B ∧ rat_least a b = (A, B) ∧ a = g * A ∧ b = g * B ∧ Nat.gcd A.natAbs B.natAbs = 1 := by
  obtain ⟨r1, r2, r3, r4⟩ := right_iff.1 h
  have g0 := gcdI_pos (a := a) (b := b) (by omega)
  have ha : gcdI a b ∣ a := Int.ofNat_dvd_left.2 (Nat.gcd_dvd_left _ _)
  have hbd : gcdI a b ∣ b := Int.ofNat_dvd_left.2 (Nat.gcd_dvd_right _ _)
  have hl : rat_least a b = (a.tdiv (gcdI a b), b.tdiv (gcdI a b)) := by simp [rat_least, h]
  have hg : gcdI a b = (Nat.gcd a.natAbs b.natAbs : Nat) := rfl
  rw [hl]
  generalize gcdI a b = g at *
  obtain ⟨A, rfl⟩ := ha
  obtain ⟨B, rfl⟩ := hbd
  refine ⟨g, A, B, g0, ?_, by rw [Int.mul_tdiv_cancel_left _ (by omega), Int.mul_tdiv_cancel_left _ (by omega)], rfl, rfl, ?_⟩
  · by_cases h : 0 < B
    · exact h
    · have := Int.mul_nonpos_of_nonneg_of_nonpos (Int.le_of_lt g0) (show B ≤ 0 by omega); omega
  · rw [Int.natAbs_mul, Int.natAbs_mul, Nat.gcd_mul_left] at hg
    have : g.natAbs * Nat.gcd A.natAbs B.natAbs = g.natAbs * 1 := by
      have : ((g.natAbs * Nat.gcd A.natAbs B.natAbs : Nat) : Int) = (g.natAbs : Nat) := by rw [← hg]; omega
      omega
    exact Nat.eq_of_mul_eq_mul_left (by omega) this

theorem least_right {a b : Int} (h : rat_right a b = true) : rat_right (rat_least a b).1 (rat_least a b).2 = true := by
  obtain ⟨r1, r2, r3, r4⟩ := right_iff.1 h
  obtain ⟨l1, l2, l3⟩ := least_bd h
  exact right_iff.2 ⟨by omega, by omega, by omega, by omega⟩

theorem least_cmp {a b : Int} (h : rat_right a b = true) : rat_cmp (rat_least a b).1 (rat_least a b).2 a b = 0 := by
  rw [cmp_eq (least_right h) h, sgn_zero]
  obtain ⟨g, A, B, hg, hB, hl, ha, hb, _⟩ := least_spec h
  rw [hl]
  show A * b - a * B = 0
  rw [ha, hb, Int.mul_comm g A, Int.mul_assoc]; omega

theorem least_one {a b c d : Int} (h1 : rat_right a b = true) (h2 : rat_right c d = true) : rat_cmp a b c d = 0 ↔ rat_least a b = rat_least c d := by
  have k1 := least_cmp h1
  have k2 := least_cmp h2
  obtain ⟨g, A, B, hg, hB, hl, ha, hb, hc⟩ := least_spec h1
  obtain ⟨g', C, D, hg', hD, hl', ha', hb', hc'⟩ := least_spec h2
  constructor
  · intro h
    rw [cmp_eq h1 h2, sgn_zero] at h
    rw [hl, hl']
    have h3 : g * g' * (A * D) = g * g' * (C * B) := by
      have e1 : a * d = g * g' * (A * D) := by rw [ha, hb', Int.mul_assoc, Int.mul_assoc, Int.mul_left_comm A]
      have e2 : c * b = g * g' * (C * B) := by rw [ha', hb, Int.mul_comm (g' * C), Int.mul_assoc, Int.mul_assoc, Int.mul_left_comm B, Int.mul_comm B]
      omega
    have hgg := Int.mul_pos hg hg'
    have h4 : A * D = C * B := Int.eq_of_mul_eq_mul_left (by omega) h3
    have d1 : B ∣ D := by
      have : B ∣ A * D := ⟨C, by rw [h4, Int.mul_comm]⟩
      have := Int.natAbs_dvd_natAbs.2 this
      rw [Int.natAbs_mul] at this
      exact Int.natAbs_dvd_natAbs.1 (Nat.Coprime.dvd_of_dvd_mul_left (by rw [Nat.Coprime, Nat.gcd_comm]; exact hc) this)
    have d2 : D ∣ B := by
      have : D ∣ C * B := ⟨A, by rw [← h4, Int.mul_comm]⟩
      have := Int.natAbs_dvd_natAbs.2 this
      rw [Int.natAbs_mul] at this
      exact Int.natAbs_dvd_natAbs.1 (Nat.Coprime.dvd_of_dvd_mul_left (by rw [Nat.Coprime, Nat.gcd_comm]; exact hc') this)
    have hBD : B = D := Int.le_antisymm (Int.le_of_dvd hD d1) (Int.le_of_dvd hB d2)
    subst hBD
    have : A = C := Int.eq_of_mul_eq_mul_right (by omega) h4
    rw [this]
  · intro h
    rw [cmp_eq h1 h2, sgn_zero]
    rw [hl, hl'] at h
    cases h
    have e1 : a * d = g * g' * (A * B) := by rw [ha, hb', Int.mul_assoc, Int.mul_assoc, Int.mul_left_comm A]
    have e2 : c * b = g * g' * (A * B) := by rw [ha', hb, Int.mul_comm (g' * A), Int.mul_assoc, Int.mul_assoc, Int.mul_left_comm B, Int.mul_comm B]
    omega

theorem between_spec {a b c d m n : Int} (h : rat_between a b c d = some (m, n)) : rat_right m n = true ∧ rat_cmp a b m n = -1 ∧ rat_cmp m n c d = -1 := by
  unfold rat_between at h
  split at h
  · cases h
  rename_i h0
  split at h
  case isFalse => cases h
  rename_i hr
  simp only [Option.some.injEq, Prod.mk.injEq] at h
  obtain ⟨h1, h2⟩ := cmp_neg h0
  obtain ⟨rfl, rfl⟩ := h
  refine ⟨hr, ?_⟩
  have v := cmp_vals a b c d
  have hlt : rat_cmp a b c d = -1 := by omega
  rw [cmp_eq h1 h2, sgn_neg] at hlt
  rw [cmp_eq h1 hr, cmp_eq hr h2, sgn_neg, sgn_neg]
  obtain ⟨g, A, B, hg, hB, hl, ha, hb, hc⟩ := least_spec h1
  obtain ⟨g', C, D, hg', hD, hl', ha', hb', hc'⟩ := least_spec h2
  rw [hl, hl']
  have key : A * D < C * B := by
    have e1 : a * d = g * g' * (A * D) := by rw [ha, hb', Int.mul_assoc, Int.mul_assoc, Int.mul_left_comm A]
    have e2 : c * b = g * g' * (C * B) := by rw [ha', hb, Int.mul_comm (g' * C), Int.mul_assoc, Int.mul_assoc, Int.mul_left_comm B, Int.mul_comm B]
    exact Int.lt_of_mul_lt_mul_left (by omega : g * g' * (A * D) < g * g' * (C * B)) (Int.le_of_lt (Int.mul_pos hg hg'))
  constructor
  · show a * (B + D) - (A + C) * b < 0
    have e1 : a * (B + D) = g * (A * B + A * D) := by rw [ha, Int.mul_assoc, Int.mul_add A]
    have e2 : (A + C) * b = g * (A * B + C * B) := by rw [hb, Int.mul_left_comm, Int.add_mul]
    have : g * (A * B + A * D) < g * (A * B + C * B) := Int.mul_lt_mul_of_pos_left (by omega) hg
    omega
  · show (A + C) * d - c * (B + D) < 0
    have e1 : (A + C) * d = g' * (A * D + C * D) := by rw [hb', Int.mul_left_comm, Int.add_mul]
    have e2 : c * (B + D) = g' * (C * B + C * D) := by rw [ha', Int.mul_assoc, Int.mul_add C]
    have : g' * (A * D + C * D) < g' * (C * B + C * D) := Int.mul_lt_mul_of_pos_left (by omega) hg'
    omega

theorem after_spec {a b m n : Int} (h : rat_after a b = some (m, n)) : n = 1 ∧ rat_cmp a b m n = -1 ∧ -1048576 ≤ m ∧ m ≤ 1048576 ∧ (rat_right (m - 1) 1 = true → rat_cmp (m - 1) 1 a b ≠ 1) := by
  unfold rat_after at h
  split at h
  case isFalse => cases h
  rename_i h1
  split at h
  case isFalse => cases h
  rename_i h2
  simp only [Option.some.injEq, Prod.mk.injEq] at h
  obtain ⟨rfl, rfl⟩ := h
  obtain ⟨r1, r2, r3, r4⟩ := right_iff.1 h1
  obtain ⟨s1, s2, s3, s4⟩ := right_iff.1 h2
  have f1 : a.fdiv b * b ≤ a := by rw [Int.fdiv_eq_ediv_of_nonneg _ (by omega)]; exact Int.ediv_mul_le a (by omega)
  have f2 : a < (a.fdiv b + 1) * b := by rw [Int.fdiv_eq_ediv_of_nonneg _ (by omega)]; exact Int.lt_ediv_add_one_mul_self a (by omega)
  refine ⟨rfl, by rw [cmp_eq h1 h2, sgn_neg]; omega, s3, s4, fun h3 h4 => ?_⟩
  rw [cmp_eq h3 h1, sgn_one, show a.fdiv b + 1 - 1 = a.fdiv b by omega] at h4
  omega

theorem least_times {a b e : Int} (h1 : rat_right a b = true) (h2 : rat_right (a * e) (b * e) = true) (he : 1 ≤ e) : rat_least (a * e) (b * e) = rat_least a b := by
  refine ((least_one h2 h1).1 ?_)
  rw [cmp_eq h2 h1, sgn_zero, Int.mul_assoc, Int.mul_comm e b]; omega

/-- A law's body answers true. -/
abbrev Holds (T : Tab) (V : List Nat) (lc : LCode) (R : List LRes) (args : List AV) : Prop := vck T 0 V lc ⟨envFrom 0 args, []⟩ (retK R (RetS (.d (.bool true))))

theorem law_RatAll {T : Tab} {n1 n2 n3 n4 n5 n6 n7 n8 n9 n10 n11 n12 n13 : Nat} (k1 : Knows T n1 sp_true) (k2 : Knows T n2 sp_rat_Right) (k3 : Knows T n3 sp_rat_Cmp) (k4 : Knows T n4 sp_rat_Least) (k5 : Knows T n5 sp_rat_Max) (k6 : Knows T n6 sp_rat_Between)
    (k7 : Knows T n7 sp_rat_After) (k8 : Knows T n8 sp_rat_Between) (k9 : Knows T n9 sp_rat_After) (k10 : Knows T n10 sp_rat_Right) (k11 : Knows T n11 sp_rat_Cmp) (k12 : Knows T n12 sp_rat_Least) (k13 : Knows T n13 sp_rat_Max) (a b c d : Int) :
    Holds T V_law01_RatAll (L_law01_RatAll n1 n2 n3 n4 n5 n6 n7 n8 n9 n10 n11 n12 n13) R_law01_RatAll [.agg [.d (.int .i64 a), .d (.int .i64 b)], .agg [.d (.int .i64 c), .d (.int .i64 d)]] := by
  have F1 := k1.F; have G1 := k1.G; have F2 := k2.F; have G2 := k2.G; have F3 := k3.F; have G3 := k3.G; have F4 := k4.F; have G4 := k4.G; have F5 := k5.F; have G5 := k5.G; have F6 := k6.F; have G6 := k6.G
  have F7 := k7.F; have G7 := k7.G; have F8 := k8.F; have G8 := k8.G; have F9 := k9.F; have G9 := k9.G; have F10 := k10.F; have G10 := k10.G; have F11 := k11.F; have G11 := k11.G; have F12 := k12.F; have G12 := k12.G; have F13 := k13.F; have G13 := k13.G
  unfold Holds V_law01_RatAll L_law01_RatAll R_law01_RatAll
  cases e1 : rat_between a b c d with
  | none =>
    cases e2 : rat_after a b with
    | none => simp only [↓vck_skip, ↓vck_ret, ↓vck_exit, ↓vck_region, ↓vck_nilq, ↓nilTo_to, nilG_d, nilG_r, ↓vck_seq, ↓vck_cond, ↓vck_block, ↓vck_loop, ↓vckTo_to, ↓thenK_n, ↓thenK_x, ↓thenK_r, ↓blockK_n, ↓blockK_x, ↓blockK_o, ↓blockK_r, ↓regK_to, ↓retK_r, ↓retK_n, ↓loopV_n, ↓loopV_x, ↓loopV_r, ↓famK_n, ↓famK_x, ↓famK_r, ↓boolK_true, ↓boolK_false, ↓boolK_not, ↓boolK_dec, ↓boolK_and, nf_mk, RGk_end_f, RGk_end_t, RGk_op, RGk_guard, opK_to, feet_f, feet_t, foot_mk, stepK_mk, stepK_v, stepK_no, guardG_t, guardG_f, guardG_no, condG_b, evT, Opd.ev, get_hit, get_next, app_to, app_no, app_up, app_skip, app_skipn, know_mk, knowO_t, knowO_c, envFrom, reserve, keeps, LOp.isNew, State.prune, cellsQ, cellsT, AV.leaf, Heap.at, evLoad_ptr, evLoad_dptr, loadO_vec, loadO_dvec1, stepK_load_map, idx_I, idx_U, idx_Rat, idx_Loc, idx_Act, idx_Step, idx_Stamp, stepK_idx_ref, evStore_ptr, storeO_vec, stepK_store_map1, loadDT_f, rowI, rowU, RatG.row, LocG.row, ActG.row, StepG.row, StampG.row, ActG.av, ActG.eta, RatG.eta, LocG.eta, beq_true, beq_false, loadDT_t, set_rowI, set_rowU, app_rowI, app_rowU, rep_rowI, rep_rowU, set_rowRat, app_rowRat, rep_rowRat, set_rowLoc, app_rowLoc, app_rowAct, app_rowStep, List.length_set, List.length_replicate, Int.toNat_natCast, Int.reduceToNat, evLen, evAppend, srcOf, Src.all, Src.len, Src.leaf, joinV, drows_rep1, drows_rep2, drows_rep3, drows_rep4, drows_rep5, drows_rep6, drows_rep7, drows_rep8, mkVec, drows, evMk, List.length_map, take_map_len, take_map_ge, loadQ, loadT, evBin, evUn, binT, binQ, chk, apartF, List.contains_cons, List.contains_nil, Bool.or_false, Bool.false_or, Bool.and_self, resQ, resV, resT, pickV, evCallT, evCall, fnOf, viewsT, viewT, evInt2, evEq, eqV, eqK, eqC1, buildQ, buildT, buildRQ, buildRT, lens_I, lensA_I, lens_U, lensA_U, lens_Rat, lensA_Rat, lens_Loc, lensA_Loc, lens_Act, lensA_Act, lens_Step, lensA_Step, lens_Stamp, lensA_Stamp, List.mem_cons, List.not_mem_nil, or_false, forall_eq, putRow, dcells, get_nil, RetS, RetF, RetD, AV.frz, AV.frzL, AV.freshP, AV.freshL, DV.less, scal_int, scal_bool, scal_nil, scal_rowI, scal_rowU, scal_rowRat, scal_rowStep, Option.some.injEq, AV.tup.injEq, AV.agg.injEq, List.cons.injEq, DV.list.injEq, List.isEmpty_nil, Nat.le_refl, AV.d.injEq, DV.int.injEq, DV.bool.injEq, ↓reduceIte, Nat.reduceEqDiff, Nat.reduceAdd, Nat.reduceBEq, List.length_cons, List.length_nil, List.replicate_succ, List.replicate_zero, List.nil_append, List.cons_append, List.append_nil, List.foldl_cons, List.foldl_nil, List.map_cons, List.map_nil, List.all_cons, List.all_nil, List.set_cons_zero, List.set_cons_succ, List.getD_cons_zero, List.getD_cons_succ, List.drop_zero, List.drop_succ_cons, List.take_succ_cons, List.take_zero, List.flatten_cons, List.flatten_nil, Bool.true_and, Bool.and_true, Bool.not_true, Bool.not_false, true_and, and_true, true_or, or_true, Option.bind_some, Option.map_some, decide_true, decide_false, beq_self_eq_true, true_implies, false_implies, implies_true, not_true_eq_false, not_false_eq_true, and_self, Bool.and_false, Bool.false_and, Nat.reduceLT, Nat.reduceLeDiff, List.reverse_cons, List.reverse_nil, Nat.zero_add, Nat.add_zero, Bool.false_eq_true, List.getElem?_cons_zero, F1, G1, F2, G2, F3, G3, F4, G4, F5, G5, F6, G6, F7, G7, F8, G8, F9, G9, F10, G10, F11, G11, F12, G12, F13, G13, at_true, at_rat_Right, at_rat_Cmp, at_rat_Least, at_rat_Max, at_rat_Between, at_rat_After, mo, e1, e2]
    | some n => simp only [↓vck_skip, ↓vck_ret, ↓vck_exit, ↓vck_region, ↓vck_nilq, ↓nilTo_to, nilG_d, nilG_r, ↓vck_seq, ↓vck_cond, ↓vck_block, ↓vck_loop, ↓vckTo_to, ↓thenK_n, ↓thenK_x, ↓thenK_r, ↓blockK_n, ↓blockK_x, ↓blockK_o, ↓blockK_r, ↓regK_to, ↓retK_r, ↓retK_n, ↓loopV_n, ↓loopV_x, ↓loopV_r, ↓famK_n, ↓famK_x, ↓famK_r, ↓boolK_true, ↓boolK_false, ↓boolK_not, ↓boolK_dec, ↓boolK_and, nf_mk, RGk_end_f, RGk_end_t, RGk_op, RGk_guard, opK_to, feet_f, feet_t, foot_mk, stepK_mk, stepK_v, stepK_no, guardG_t, guardG_f, guardG_no, condG_b, evT, Opd.ev, get_hit, get_next, app_to, app_no, app_up, app_skip, app_skipn, know_mk, knowO_t, knowO_c, envFrom, reserve, keeps, LOp.isNew, State.prune, cellsQ, cellsT, AV.leaf, Heap.at, evLoad_ptr, evLoad_dptr, loadO_vec, loadO_dvec1, stepK_load_map, idx_I, idx_U, idx_Rat, idx_Loc, idx_Act, idx_Step, idx_Stamp, stepK_idx_ref, evStore_ptr, storeO_vec, stepK_store_map1, loadDT_f, rowI, rowU, RatG.row, LocG.row, ActG.row, StepG.row, StampG.row, ActG.av, ActG.eta, RatG.eta, LocG.eta, beq_true, beq_false, loadDT_t, set_rowI, set_rowU, app_rowI, app_rowU, rep_rowI, rep_rowU, set_rowRat, app_rowRat, rep_rowRat, set_rowLoc, app_rowLoc, app_rowAct, app_rowStep, List.length_set, List.length_replicate, Int.toNat_natCast, Int.reduceToNat, evLen, evAppend, srcOf, Src.all, Src.len, Src.leaf, joinV, drows_rep1, drows_rep2, drows_rep3, drows_rep4, drows_rep5, drows_rep6, drows_rep7, drows_rep8, mkVec, drows, evMk, List.length_map, take_map_len, take_map_ge, loadQ, loadT, evBin, evUn, binT, binQ, chk, apartF, List.contains_cons, List.contains_nil, Bool.or_false, Bool.false_or, Bool.and_self, resQ, resV, resT, pickV, evCallT, evCall, fnOf, viewsT, viewT, evInt2, evEq, eqV, eqK, eqC1, buildQ, buildT, buildRQ, buildRT, lens_I, lensA_I, lens_U, lensA_U, lens_Rat, lensA_Rat, lens_Loc, lensA_Loc, lens_Act, lensA_Act, lens_Step, lensA_Step, lens_Stamp, lensA_Stamp, List.mem_cons, List.not_mem_nil, or_false, forall_eq, putRow, dcells, get_nil, RetS, RetF, RetD, AV.frz, AV.frzL, AV.freshP, AV.freshL, DV.less, scal_int, scal_bool, scal_nil, scal_rowI, scal_rowU, scal_rowRat, scal_rowStep, Option.some.injEq, AV.tup.injEq, AV.agg.injEq, List.cons.injEq, DV.list.injEq, List.isEmpty_nil, Nat.le_refl, AV.d.injEq, DV.int.injEq, DV.bool.injEq, ↓reduceIte, Nat.reduceEqDiff, Nat.reduceAdd, Nat.reduceBEq, List.length_cons, List.length_nil, List.replicate_succ, List.replicate_zero, List.nil_append, List.cons_append, List.append_nil, List.foldl_cons, List.foldl_nil, List.map_cons, List.map_nil, List.all_cons, List.all_nil, List.set_cons_zero, List.set_cons_succ, List.getD_cons_zero, List.getD_cons_succ, List.drop_zero, List.drop_succ_cons, List.take_succ_cons, List.take_zero, List.flatten_cons, List.flatten_nil, Bool.true_and, Bool.and_true, Bool.not_true, Bool.not_false, true_and, and_true, true_or, or_true, Option.bind_some, Option.map_some, decide_true, decide_false, beq_self_eq_true, true_implies, false_implies, implies_true, not_true_eq_false, not_false_eq_true, and_self, Bool.and_false, Bool.false_and, Nat.reduceLT, Nat.reduceLeDiff, List.reverse_cons, List.reverse_nil, Nat.zero_add, Nat.add_zero, Bool.false_eq_true, List.getElem?_cons_zero, F1, G1, F2, G2, F3, G3, F4, G4, F5, G5, F6, G6, F7, G7, F8, G8, F9, G9, F10, G10, F11, G11, F12, G12, F13, G13, at_true, at_rat_Right, at_rat_Cmp, at_rat_Least, at_rat_Max, at_rat_Between, at_rat_After, mo, e1, e2]
  | some m =>
    cases e2 : rat_after a b with
    | none => simp only [↓vck_skip, ↓vck_ret, ↓vck_exit, ↓vck_region, ↓vck_nilq, ↓nilTo_to, nilG_d, nilG_r, ↓vck_seq, ↓vck_cond, ↓vck_block, ↓vck_loop, ↓vckTo_to, ↓thenK_n, ↓thenK_x, ↓thenK_r, ↓blockK_n, ↓blockK_x, ↓blockK_o, ↓blockK_r, ↓regK_to, ↓retK_r, ↓retK_n, ↓loopV_n, ↓loopV_x, ↓loopV_r, ↓famK_n, ↓famK_x, ↓famK_r, ↓boolK_true, ↓boolK_false, ↓boolK_not, ↓boolK_dec, ↓boolK_and, nf_mk, RGk_end_f, RGk_end_t, RGk_op, RGk_guard, opK_to, feet_f, feet_t, foot_mk, stepK_mk, stepK_v, stepK_no, guardG_t, guardG_f, guardG_no, condG_b, evT, Opd.ev, get_hit, get_next, app_to, app_no, app_up, app_skip, app_skipn, know_mk, knowO_t, knowO_c, envFrom, reserve, keeps, LOp.isNew, State.prune, cellsQ, cellsT, AV.leaf, Heap.at, evLoad_ptr, evLoad_dptr, loadO_vec, loadO_dvec1, stepK_load_map, idx_I, idx_U, idx_Rat, idx_Loc, idx_Act, idx_Step, idx_Stamp, stepK_idx_ref, evStore_ptr, storeO_vec, stepK_store_map1, loadDT_f, rowI, rowU, RatG.row, LocG.row, ActG.row, StepG.row, StampG.row, ActG.av, ActG.eta, RatG.eta, LocG.eta, beq_true, beq_false, loadDT_t, set_rowI, set_rowU, app_rowI, app_rowU, rep_rowI, rep_rowU, set_rowRat, app_rowRat, rep_rowRat, set_rowLoc, app_rowLoc, app_rowAct, app_rowStep, List.length_set, List.length_replicate, Int.toNat_natCast, Int.reduceToNat, evLen, evAppend, srcOf, Src.all, Src.len, Src.leaf, joinV, drows_rep1, drows_rep2, drows_rep3, drows_rep4, drows_rep5, drows_rep6, drows_rep7, drows_rep8, mkVec, drows, evMk, List.length_map, take_map_len, take_map_ge, loadQ, loadT, evBin, evUn, binT, binQ, chk, apartF, List.contains_cons, List.contains_nil, Bool.or_false, Bool.false_or, Bool.and_self, resQ, resV, resT, pickV, evCallT, evCall, fnOf, viewsT, viewT, evInt2, evEq, eqV, eqK, eqC1, buildQ, buildT, buildRQ, buildRT, lens_I, lensA_I, lens_U, lensA_U, lens_Rat, lensA_Rat, lens_Loc, lensA_Loc, lens_Act, lensA_Act, lens_Step, lensA_Step, lens_Stamp, lensA_Stamp, List.mem_cons, List.not_mem_nil, or_false, forall_eq, putRow, dcells, get_nil, RetS, RetF, RetD, AV.frz, AV.frzL, AV.freshP, AV.freshL, DV.less, scal_int, scal_bool, scal_nil, scal_rowI, scal_rowU, scal_rowRat, scal_rowStep, Option.some.injEq, AV.tup.injEq, AV.agg.injEq, List.cons.injEq, DV.list.injEq, List.isEmpty_nil, Nat.le_refl, AV.d.injEq, DV.int.injEq, DV.bool.injEq, ↓reduceIte, Nat.reduceEqDiff, Nat.reduceAdd, Nat.reduceBEq, List.length_cons, List.length_nil, List.replicate_succ, List.replicate_zero, List.nil_append, List.cons_append, List.append_nil, List.foldl_cons, List.foldl_nil, List.map_cons, List.map_nil, List.all_cons, List.all_nil, List.set_cons_zero, List.set_cons_succ, List.getD_cons_zero, List.getD_cons_succ, List.drop_zero, List.drop_succ_cons, List.take_succ_cons, List.take_zero, List.flatten_cons, List.flatten_nil, Bool.true_and, Bool.and_true, Bool.not_true, Bool.not_false, true_and, and_true, true_or, or_true, Option.bind_some, Option.map_some, decide_true, decide_false, beq_self_eq_true, true_implies, false_implies, implies_true, not_true_eq_false, not_false_eq_true, and_self, Bool.and_false, Bool.false_and, Nat.reduceLT, Nat.reduceLeDiff, List.reverse_cons, List.reverse_nil, Nat.zero_add, Nat.add_zero, Bool.false_eq_true, List.getElem?_cons_zero, F1, G1, F2, G2, F3, G3, F4, G4, F5, G5, F6, G6, F7, G7, F8, G8, F9, G9, F10, G10, F11, G11, F12, G12, F13, G13, at_true, at_rat_Right, at_rat_Cmp, at_rat_Least, at_rat_Max, at_rat_Between, at_rat_After, mo, e1, e2]
    | some n => simp only [↓vck_skip, ↓vck_ret, ↓vck_exit, ↓vck_region, ↓vck_nilq, ↓nilTo_to, nilG_d, nilG_r, ↓vck_seq, ↓vck_cond, ↓vck_block, ↓vck_loop, ↓vckTo_to, ↓thenK_n, ↓thenK_x, ↓thenK_r, ↓blockK_n, ↓blockK_x, ↓blockK_o, ↓blockK_r, ↓regK_to, ↓retK_r, ↓retK_n, ↓loopV_n, ↓loopV_x, ↓loopV_r, ↓famK_n, ↓famK_x, ↓famK_r, ↓boolK_true, ↓boolK_false, ↓boolK_not, ↓boolK_dec, ↓boolK_and, nf_mk, RGk_end_f, RGk_end_t, RGk_op, RGk_guard, opK_to, feet_f, feet_t, foot_mk, stepK_mk, stepK_v, stepK_no, guardG_t, guardG_f, guardG_no, condG_b, evT, Opd.ev, get_hit, get_next, app_to, app_no, app_up, app_skip, app_skipn, know_mk, knowO_t, knowO_c, envFrom, reserve, keeps, LOp.isNew, State.prune, cellsQ, cellsT, AV.leaf, Heap.at, evLoad_ptr, evLoad_dptr, loadO_vec, loadO_dvec1, stepK_load_map, idx_I, idx_U, idx_Rat, idx_Loc, idx_Act, idx_Step, idx_Stamp, stepK_idx_ref, evStore_ptr, storeO_vec, stepK_store_map1, loadDT_f, rowI, rowU, RatG.row, LocG.row, ActG.row, StepG.row, StampG.row, ActG.av, ActG.eta, RatG.eta, LocG.eta, beq_true, beq_false, loadDT_t, set_rowI, set_rowU, app_rowI, app_rowU, rep_rowI, rep_rowU, set_rowRat, app_rowRat, rep_rowRat, set_rowLoc, app_rowLoc, app_rowAct, app_rowStep, List.length_set, List.length_replicate, Int.toNat_natCast, Int.reduceToNat, evLen, evAppend, srcOf, Src.all, Src.len, Src.leaf, joinV, drows_rep1, drows_rep2, drows_rep3, drows_rep4, drows_rep5, drows_rep6, drows_rep7, drows_rep8, mkVec, drows, evMk, List.length_map, take_map_len, take_map_ge, loadQ, loadT, evBin, evUn, binT, binQ, chk, apartF, List.contains_cons, List.contains_nil, Bool.or_false, Bool.false_or, Bool.and_self, resQ, resV, resT, pickV, evCallT, evCall, fnOf, viewsT, viewT, evInt2, evEq, eqV, eqK, eqC1, buildQ, buildT, buildRQ, buildRT, lens_I, lensA_I, lens_U, lensA_U, lens_Rat, lensA_Rat, lens_Loc, lensA_Loc, lens_Act, lensA_Act, lens_Step, lensA_Step, lens_Stamp, lensA_Stamp, List.mem_cons, List.not_mem_nil, or_false, forall_eq, putRow, dcells, get_nil, RetS, RetF, RetD, AV.frz, AV.frzL, AV.freshP, AV.freshL, DV.less, scal_int, scal_bool, scal_nil, scal_rowI, scal_rowU, scal_rowRat, scal_rowStep, Option.some.injEq, AV.tup.injEq, AV.agg.injEq, List.cons.injEq, DV.list.injEq, List.isEmpty_nil, Nat.le_refl, AV.d.injEq, DV.int.injEq, DV.bool.injEq, ↓reduceIte, Nat.reduceEqDiff, Nat.reduceAdd, Nat.reduceBEq, List.length_cons, List.length_nil, List.replicate_succ, List.replicate_zero, List.nil_append, List.cons_append, List.append_nil, List.foldl_cons, List.foldl_nil, List.map_cons, List.map_nil, List.all_cons, List.all_nil, List.set_cons_zero, List.set_cons_succ, List.getD_cons_zero, List.getD_cons_succ, List.drop_zero, List.drop_succ_cons, List.take_succ_cons, List.take_zero, List.flatten_cons, List.flatten_nil, Bool.true_and, Bool.and_true, Bool.not_true, Bool.not_false, true_and, and_true, true_or, or_true, Option.bind_some, Option.map_some, decide_true, decide_false, beq_self_eq_true, true_implies, false_implies, implies_true, not_true_eq_false, not_false_eq_true, and_self, Bool.and_false, Bool.false_and, Nat.reduceLT, Nat.reduceLeDiff, List.reverse_cons, List.reverse_nil, Nat.zero_add, Nat.add_zero, Bool.false_eq_true, List.getElem?_cons_zero, F1, G1, F2, G2, F3, G3, F4, G4, F5, G5, F6, G6, F7, G7, F8, G8, F9, G9, F10, G10, F11, G11, F12, G12, F13, G13, at_true, at_rat_Right, at_rat_Cmp, at_rat_Least, at_rat_Max, at_rat_Between, at_rat_After, mo, e1, e2]

theorem law_RatOrder {T : Tab} {n1 n2 n3 : Nat} (k1 : Knows T n1 sp_true) (k2 : Knows T n2 sp_rat_Right) (k3 : Knows T n3 sp_rat_Cmp) (a b c d e f : Int) :
    Holds T V_law01_RatOrder (L_law01_RatOrder n1 n2 n3) R_law01_RatOrder [.agg [.d (.int .i64 a), .d (.int .i64 b)], .agg [.d (.int .i64 c), .d (.int .i64 d)], .agg [.d (.int .i64 e), .d (.int .i64 f)]] := by
  have F1 := k1.F; have G1 := k1.G; have F2 := k2.F; have G2 := k2.G; have F3 := k3.F; have G3 := k3.G
  unfold Holds V_law01_RatOrder L_law01_RatOrder R_law01_RatOrder
  simp only [↓vck_skip, ↓vck_ret, ↓vck_exit, ↓vck_region, ↓vck_nilq, ↓nilTo_to, nilG_d, nilG_r, ↓vck_seq, ↓vck_cond, ↓vck_block, ↓vck_loop, ↓vckTo_to, ↓thenK_n, ↓thenK_x, ↓thenK_r, ↓blockK_n, ↓blockK_x, ↓blockK_o, ↓blockK_r, ↓regK_to, ↓retK_r, ↓retK_n, ↓loopV_n, ↓loopV_x, ↓loopV_r, ↓famK_n, ↓famK_x, ↓famK_r, ↓boolK_true, ↓boolK_false, ↓boolK_not, ↓boolK_dec, ↓boolK_and, nf_mk, RGk_end_f, RGk_end_t, RGk_op, RGk_guard, opK_to, feet_f, feet_t, foot_mk, stepK_mk, stepK_v, stepK_no, guardG_t, guardG_f, guardG_no, condG_b, evT, Opd.ev, get_hit, get_next, app_to, app_no, app_up, app_skip, app_skipn, know_mk, knowO_t, knowO_c, envFrom, reserve, keeps, LOp.isNew, State.prune, cellsQ, cellsT, AV.leaf, Heap.at, evLoad_ptr, evLoad_dptr, loadO_vec, loadO_dvec1, stepK_load_map, idx_I, idx_U, idx_Rat, idx_Loc, idx_Act, idx_Step, idx_Stamp, stepK_idx_ref, evStore_ptr, storeO_vec, stepK_store_map1, loadDT_f, rowI, rowU, RatG.row, LocG.row, ActG.row, StepG.row, StampG.row, ActG.av, ActG.eta, RatG.eta, LocG.eta, beq_true, beq_false, loadDT_t, set_rowI, set_rowU, app_rowI, app_rowU, rep_rowI, rep_rowU, set_rowRat, app_rowRat, rep_rowRat, set_rowLoc, app_rowLoc, app_rowAct, app_rowStep, List.length_set, List.length_replicate, Int.toNat_natCast, Int.reduceToNat, evLen, evAppend, srcOf, Src.all, Src.len, Src.leaf, joinV, drows_rep1, drows_rep2, drows_rep3, drows_rep4, drows_rep5, drows_rep6, drows_rep7, drows_rep8, mkVec, drows, evMk, List.length_map, take_map_len, take_map_ge, loadQ, loadT, evBin, evUn, binT, binQ, chk, apartF, List.contains_cons, List.contains_nil, Bool.or_false, Bool.false_or, Bool.and_self, resQ, resV, resT, pickV, evCallT, evCall, fnOf, viewsT, viewT, evInt2, evEq, eqV, eqK, eqC1, buildQ, buildT, buildRQ, buildRT, lens_I, lensA_I, lens_U, lensA_U, lens_Rat, lensA_Rat, lens_Loc, lensA_Loc, lens_Act, lensA_Act, lens_Step, lensA_Step, lens_Stamp, lensA_Stamp, List.mem_cons, List.not_mem_nil, or_false, forall_eq, putRow, dcells, get_nil, RetS, RetF, RetD, AV.frz, AV.frzL, AV.freshP, AV.freshL, DV.less, scal_int, scal_bool, scal_nil, scal_rowI, scal_rowU, scal_rowRat, scal_rowStep, Option.some.injEq, AV.tup.injEq, AV.agg.injEq, List.cons.injEq, DV.list.injEq, List.isEmpty_nil, Nat.le_refl, AV.d.injEq, DV.int.injEq, DV.bool.injEq, ↓reduceIte, Nat.reduceEqDiff, Nat.reduceAdd, Nat.reduceBEq, List.length_cons, List.length_nil, List.replicate_succ, List.replicate_zero, List.nil_append, List.cons_append, List.append_nil, List.foldl_cons, List.foldl_nil, List.map_cons, List.map_nil, List.all_cons, List.all_nil, List.set_cons_zero, List.set_cons_succ, List.getD_cons_zero, List.getD_cons_succ, List.drop_zero, List.drop_succ_cons, List.take_succ_cons, List.take_zero, List.flatten_cons, List.flatten_nil, Bool.true_and, Bool.and_true, Bool.not_true, Bool.not_false, true_and, and_true, true_or, or_true, Option.bind_some, Option.map_some, decide_true, decide_false, beq_self_eq_true, true_implies, false_implies, implies_true, not_true_eq_false, not_false_eq_true, and_self, Bool.and_false, Bool.false_and, Nat.reduceLT, Nat.reduceLeDiff, List.reverse_cons, List.reverse_nil, Nat.zero_add, Nat.add_zero, Bool.false_eq_true, List.getElem?_cons_zero, F1, G1, F2, G2, F3, G3, at_true, at_rat_Right, at_rat_Cmp]
  have no : ¬ rat_cmp a b c d = 0 → boolK (rat_right a b) (rat_right c d = true) False := fun h => by
    have : rat_right a b = true ∧ rat_right c d = true := by
      unfold rat_cmp at h
      split at h
      · rename_i h'; simpa using h'
      · exact absurd rfl h
    exact ⟨fun _ => this.2, fun h' => by rw [this.1] at h'; cases h'⟩
  refine ⟨fun h1 => ⟨fun h2 => ⟨fun h3 => ?_, fun _ => no⟩, fun _ => no⟩, fun _ => no⟩
  obtain ⟨r1, r2, r3, r4⟩ := right_iff.1 h1
  obtain ⟨s1, s2, s3, s4⟩ := right_iff.1 h2
  obtain ⟨t1, t2, t3, t4⟩ := right_iff.1 h3
  have sw := cmp_swap a b c d
  have v := cmp_vals a b c d
  rw [wrap_id (by omega) (by omega)]
  have self : rat_cmp a b a b = 0 := by rw [cmp_eq h1 h1]; simp [sgn]
  have al := fun h => cmp_alike h1 h2 h3 h
  have tr : rat_cmp a b c d ≤ 0 → rat_cmp c d e f ≤ 0 → rat_cmp a b e f ≤ 0 := fun g1 g2 => by
    rw [cmp_eq h1 h2, sgn_nonpos] at g1
    rw [cmp_eq h2 h3, sgn_nonpos] at g2
    rw [cmp_eq h1 h3, sgn_nonpos]
    have := cross (by omega : 0 < b) (by omega : 0 < d) (by omega : 0 < f) (by omega : a * d ≤ c * b) (by omega : c * f ≤ e * d)
    omega
  have fin : (rat_cmp a b c d = 0 → (rat_cmp a b e f = rat_cmp c d e f → decide (rat_cmp a b a b = 0) = true) ∧ (¬rat_cmp a b e f = rat_cmp c d e f → False)) ∧ (¬rat_cmp a b c d = 0 → decide (rat_cmp a b a b = 0) = true) :=
    ⟨fun g => ⟨fun _ => by simp [self], fun g' => g' (al g)⟩, fun _ => by simp [self]⟩
  refine ⟨fun _ => ⟨fun _ => fin, fun g1 => ⟨fun _ => fin, fun g2 => ⟨fun _ => fin, fun g3 => g3 (tr (by omega) (by omega))⟩⟩⟩, fun h => h (by omega)⟩

theorem law_RatTimes {T : Tab} {n1 n2 n3 n4 : Nat} (k1 : Knows T n1 sp_true) (k2 : Knows T n2 sp_rat_Right) (k3 : Knows T n3 sp_rat_Cmp) (k4 : Knows T n4 sp_rat_Least) (a b c d e : Int) :
    Holds T V_law01_RatTimes (L_law01_RatTimes n1 n2 n3 n4) R_law01_RatTimes [.agg [.d (.int .i64 a), .d (.int .i64 b)], .agg [.d (.int .i64 c), .d (.int .i64 d)], .d (.int .i64 e)] := by
  have F1 := k1.F; have G1 := k1.G; have F2 := k2.F; have G2 := k2.G; have F3 := k3.F; have G3 := k3.G; have F4 := k4.F; have G4 := k4.G
  unfold Holds V_law01_RatTimes L_law01_RatTimes R_law01_RatTimes
  simp only [↓vck_skip, ↓vck_ret, ↓vck_exit, ↓vck_region, ↓vck_nilq, ↓nilTo_to, nilG_d, nilG_r, ↓vck_seq, ↓vck_cond, ↓vck_block, ↓vck_loop, ↓vckTo_to, ↓thenK_n, ↓thenK_x, ↓thenK_r, ↓blockK_n, ↓blockK_x, ↓blockK_o, ↓blockK_r, ↓regK_to, ↓retK_r, ↓retK_n, ↓loopV_n, ↓loopV_x, ↓loopV_r, ↓famK_n, ↓famK_x, ↓famK_r, ↓boolK_true, ↓boolK_false, ↓boolK_not, ↓boolK_dec, ↓boolK_and, nf_mk, RGk_end_f, RGk_end_t, RGk_op, RGk_guard, opK_to, feet_f, feet_t, foot_mk, stepK_mk, stepK_v, stepK_no, guardG_t, guardG_f, guardG_no, condG_b, evT, Opd.ev, get_hit, get_next, app_to, app_no, app_up, app_skip, app_skipn, know_mk, knowO_t, knowO_c, envFrom, reserve, keeps, LOp.isNew, State.prune, cellsQ, cellsT, AV.leaf, Heap.at, evLoad_ptr, evLoad_dptr, loadO_vec, loadO_dvec1, stepK_load_map, idx_I, idx_U, idx_Rat, idx_Loc, idx_Act, idx_Step, idx_Stamp, stepK_idx_ref, evStore_ptr, storeO_vec, stepK_store_map1, loadDT_f, rowI, rowU, RatG.row, LocG.row, ActG.row, StepG.row, StampG.row, ActG.av, ActG.eta, RatG.eta, LocG.eta, beq_true, beq_false, loadDT_t, set_rowI, set_rowU, app_rowI, app_rowU, rep_rowI, rep_rowU, set_rowRat, app_rowRat, rep_rowRat, set_rowLoc, app_rowLoc, app_rowAct, app_rowStep, List.length_set, List.length_replicate, Int.toNat_natCast, Int.reduceToNat, evLen, evAppend, srcOf, Src.all, Src.len, Src.leaf, joinV, drows_rep1, drows_rep2, drows_rep3, drows_rep4, drows_rep5, drows_rep6, drows_rep7, drows_rep8, mkVec, drows, evMk, List.length_map, take_map_len, take_map_ge, loadQ, loadT, evBin, evUn, binT, binQ, chk, apartF, List.contains_cons, List.contains_nil, Bool.or_false, Bool.false_or, Bool.and_self, resQ, resV, resT, pickV, evCallT, evCall, fnOf, viewsT, viewT, evInt2, evEq, eqV, eqK, eqC1, buildQ, buildT, buildRQ, buildRT, lens_I, lensA_I, lens_U, lensA_U, lens_Rat, lensA_Rat, lens_Loc, lensA_Loc, lens_Act, lensA_Act, lens_Step, lensA_Step, lens_Stamp, lensA_Stamp, List.mem_cons, List.not_mem_nil, or_false, forall_eq, putRow, dcells, get_nil, RetS, RetF, RetD, AV.frz, AV.frzL, AV.freshP, AV.freshL, DV.less, scal_int, scal_bool, scal_nil, scal_rowI, scal_rowU, scal_rowRat, scal_rowStep, Option.some.injEq, AV.tup.injEq, AV.agg.injEq, List.cons.injEq, DV.list.injEq, List.isEmpty_nil, Nat.le_refl, AV.d.injEq, DV.int.injEq, DV.bool.injEq, ↓reduceIte, Nat.reduceEqDiff, Nat.reduceAdd, Nat.reduceBEq, List.length_cons, List.length_nil, List.replicate_succ, List.replicate_zero, List.nil_append, List.cons_append, List.append_nil, List.foldl_cons, List.foldl_nil, List.map_cons, List.map_nil, List.all_cons, List.all_nil, List.set_cons_zero, List.set_cons_succ, List.getD_cons_zero, List.getD_cons_succ, List.drop_zero, List.drop_succ_cons, List.take_succ_cons, List.take_zero, List.flatten_cons, List.flatten_nil, Bool.true_and, Bool.and_true, Bool.not_true, Bool.not_false, true_and, and_true, true_or, or_true, Option.bind_some, Option.map_some, decide_true, decide_false, beq_self_eq_true, true_implies, false_implies, implies_true, not_true_eq_false, not_false_eq_true, and_self, Bool.and_false, Bool.false_and, Nat.reduceLT, Nat.reduceLeDiff, List.reverse_cons, List.reverse_nil, Nat.zero_add, Nat.add_zero, Bool.false_eq_true, List.getElem?_cons_zero, F1, G1, F2, G2, F3, G3, F4, G4, at_true, at_rat_Right, at_rat_Cmp, at_rat_Least]
  refine ⟨fun h1 => ⟨fun h2 => fun e1 e2 => ?_, fun _ => trivial⟩, fun _ => trivial⟩
  obtain ⟨r1, r2, r3, r4⟩ := right_iff.1 h1
  obtain ⟨s1, s2, s3, s4⟩ := right_iff.1 h2
  have m1 := mul_bd r3 r4 (by omega : 1 ≤ e) (by omega)
  have m2 := mul_bd (by omega : -1048576 ≤ b) (by omega) (by omega : 1 ≤ e) (by omega)
  rw [wrap_id (n := a * e) (by omega) (by omega), wrap_id (n := b * e) (by omega) (by omega)]
  refine ⟨fun h3 => ?_, fun h3 => ?_⟩
  · have c0 : rat_cmp a b (a * e) (b * e) = 0 := by
      rw [cmp_eq h1 h3, sgn_zero, Int.mul_assoc, Int.mul_comm e b]; omega
    have lt := least_times h1 h3 (by omega)
    refine ⟨fun _ => ⟨fun _ => by simp [lt], fun h => h (cmp_alike h1 h3 h2 c0).symm⟩, fun h => h c0⟩
  · have c0 : rat_cmp a b (a * e) (b * e) = 0 := by simp [rat_cmp, h3]
    exact ⟨fun _ => by simp [rat_least, h3], fun h => h c0⟩

theorem law_RatLeast {T : Tab} {n1 n2 n3 n4 n5 : Nat} (k1 : Knows T n1 sp_true) (k2 : Knows T n2 sp_rat_Right) (k3 : Knows T n3 sp_rat_Cmp) (k4 : Knows T n4 sp_rat_Least) (k5 : Knows T n5 sp_rat_Max) (a b c d : Int) :
    Holds T V_law01_RatLeast (L_law01_RatLeast n1 n2 n3 n4 n5) R_law01_RatLeast [.agg [.d (.int .i64 a), .d (.int .i64 b)], .agg [.d (.int .i64 c), .d (.int .i64 d)]] := by
  have F1 := k1.F; have G1 := k1.G; have F2 := k2.F; have G2 := k2.G; have F3 := k3.F; have G3 := k3.G; have F4 := k4.F; have G4 := k4.G; have F5 := k5.F; have G5 := k5.G
  unfold Holds V_law01_RatLeast L_law01_RatLeast R_law01_RatLeast
  simp only [↓vck_skip, ↓vck_ret, ↓vck_exit, ↓vck_region, ↓vck_nilq, ↓nilTo_to, nilG_d, nilG_r, ↓vck_seq, ↓vck_cond, ↓vck_block, ↓vck_loop, ↓vckTo_to, ↓thenK_n, ↓thenK_x, ↓thenK_r, ↓blockK_n, ↓blockK_x, ↓blockK_o, ↓blockK_r, ↓regK_to, ↓retK_r, ↓retK_n, ↓loopV_n, ↓loopV_x, ↓loopV_r, ↓famK_n, ↓famK_x, ↓famK_r, ↓boolK_true, ↓boolK_false, ↓boolK_not, ↓boolK_dec, ↓boolK_and, nf_mk, RGk_end_f, RGk_end_t, RGk_op, RGk_guard, opK_to, feet_f, feet_t, foot_mk, stepK_mk, stepK_v, stepK_no, guardG_t, guardG_f, guardG_no, condG_b, evT, Opd.ev, get_hit, get_next, app_to, app_no, app_up, app_skip, app_skipn, know_mk, knowO_t, knowO_c, envFrom, reserve, keeps, LOp.isNew, State.prune, cellsQ, cellsT, AV.leaf, Heap.at, evLoad_ptr, evLoad_dptr, loadO_vec, loadO_dvec1, stepK_load_map, idx_I, idx_U, idx_Rat, idx_Loc, idx_Act, idx_Step, idx_Stamp, stepK_idx_ref, evStore_ptr, storeO_vec, stepK_store_map1, loadDT_f, rowI, rowU, RatG.row, LocG.row, ActG.row, StepG.row, StampG.row, ActG.av, ActG.eta, RatG.eta, LocG.eta, beq_true, beq_false, loadDT_t, set_rowI, set_rowU, app_rowI, app_rowU, rep_rowI, rep_rowU, set_rowRat, app_rowRat, rep_rowRat, set_rowLoc, app_rowLoc, app_rowAct, app_rowStep, List.length_set, List.length_replicate, Int.toNat_natCast, Int.reduceToNat, evLen, evAppend, srcOf, Src.all, Src.len, Src.leaf, joinV, drows_rep1, drows_rep2, drows_rep3, drows_rep4, drows_rep5, drows_rep6, drows_rep7, drows_rep8, mkVec, drows, evMk, List.length_map, take_map_len, take_map_ge, loadQ, loadT, evBin, evUn, binT, binQ, chk, apartF, List.contains_cons, List.contains_nil, Bool.or_false, Bool.false_or, Bool.and_self, resQ, resV, resT, pickV, evCallT, evCall, fnOf, viewsT, viewT, evInt2, evEq, eqV, eqK, eqC1, buildQ, buildT, buildRQ, buildRT, lens_I, lensA_I, lens_U, lensA_U, lens_Rat, lensA_Rat, lens_Loc, lensA_Loc, lens_Act, lensA_Act, lens_Step, lensA_Step, lens_Stamp, lensA_Stamp, List.mem_cons, List.not_mem_nil, or_false, forall_eq, putRow, dcells, get_nil, RetS, RetF, RetD, AV.frz, AV.frzL, AV.freshP, AV.freshL, DV.less, scal_int, scal_bool, scal_nil, scal_rowI, scal_rowU, scal_rowRat, scal_rowStep, Option.some.injEq, AV.tup.injEq, AV.agg.injEq, List.cons.injEq, DV.list.injEq, List.isEmpty_nil, Nat.le_refl, AV.d.injEq, DV.int.injEq, DV.bool.injEq, ↓reduceIte, Nat.reduceEqDiff, Nat.reduceAdd, Nat.reduceBEq, List.length_cons, List.length_nil, List.replicate_succ, List.replicate_zero, List.nil_append, List.cons_append, List.append_nil, List.foldl_cons, List.foldl_nil, List.map_cons, List.map_nil, List.all_cons, List.all_nil, List.set_cons_zero, List.set_cons_succ, List.getD_cons_zero, List.getD_cons_succ, List.drop_zero, List.drop_succ_cons, List.take_succ_cons, List.take_zero, List.flatten_cons, List.flatten_nil, Bool.true_and, Bool.and_true, Bool.not_true, Bool.not_false, true_and, and_true, true_or, or_true, Option.bind_some, Option.map_some, decide_true, decide_false, beq_self_eq_true, true_implies, false_implies, implies_true, not_true_eq_false, not_false_eq_true, and_self, Bool.and_false, Bool.false_and, Nat.reduceLT, Nat.reduceLeDiff, List.reverse_cons, List.reverse_nil, Nat.zero_add, Nat.add_zero, Bool.false_eq_true, List.getElem?_cons_zero, F1, G1, F2, G2, F3, G3, F4, G4, F5, G5, at_true, at_rat_Right, at_rat_Cmp, at_rat_Least, at_rat_Max]
  refine ⟨fun h1 => ⟨fun h2 => ⟨fun _ => ⟨fun _ => ⟨fun _ => ⟨fun _ => ?_, fun h => ?_⟩, fun h => h (least_bd h1).2.2⟩, fun h => h (least_cmp h1)⟩, fun h => ?_⟩, fun _ => trivial⟩, fun _ => trivial⟩
  · have sw := cmp_swap a b c d
    have s1 : rat_cmp a b a b = 0 := by rw [cmp_eq h1 h1]; simp [sgn]
    have s2 : rat_cmp c d c d = 0 := by rw [cmp_eq h2 h2]; simp [sgn]
    by_cases h : rat_cmp a b c d < 0
    · have e : rat_max a b c d = (c, d) := by simp [rat_max, h]
      have : 0 ≤ rat_cmp c d a b := by omega
      simp only [e, s2]
      refine ⟨fun _ => ⟨fun _ => by simp, fun h => h this⟩, fun _ => ⟨fun _ => ⟨fun _ => by simp, fun h => h this⟩, fun h => ?_⟩⟩
      simp at h
    · have e : rat_max a b c d = (a, b) := by simp [rat_max, h]
      have : 0 ≤ rat_cmp a b c d := by omega
      simp only [e, s1]
      refine ⟨fun _ => ⟨fun _ => by simp [this], fun h => h (by omega)⟩, fun h => ?_⟩
      simp at h
  · have := least_one h1 h2
    rw [Prod.ext_iff] at this
    by_cases h3 : rat_cmp a b c d = 0
    · have := this.1 h3; simp [h3, this.1, this.2] at h
    · have h4 : ¬ ((rat_least a b).1 = (rat_least c d).1 ∧ (rat_least a b).2 = (rat_least c d).2) := fun h => h3 (this.2 h)
      rw [← Bool.decide_and] at h
      simp [h3, h4] at h
  · rw [least_right h1] at h; cases h

theorem law_RatBetween {T : Tab} {n1 n2 n3 n4 n5 : Nat} (k1 : Knows T n1 sp_true) (k2 : Knows T n2 sp_rat_Right) (k3 : Knows T n3 sp_rat_Cmp) (k4 : Knows T n4 sp_rat_Between) (k5 : Knows T n5 sp_rat_After) (a b c d : Int) :
    Holds T V_law01_RatBetween (L_law01_RatBetween n1 n2 n3 n4 n5) R_law01_RatBetween [.agg [.d (.int .i64 a), .d (.int .i64 b)], .agg [.d (.int .i64 c), .d (.int .i64 d)]] := by
  have F1 := k1.F; have G1 := k1.G; have F2 := k2.F; have G2 := k2.G; have F3 := k3.F; have G3 := k3.G; have F4 := k4.F; have G4 := k4.G; have F5 := k5.F; have G5 := k5.G
  unfold Holds V_law01_RatBetween L_law01_RatBetween R_law01_RatBetween
  have aft : ∀ n : Int × Int, rat_after a b = some n → (n.snd = 1 →
      (rat_cmp a b n.fst n.snd = -1 →
          boolK (rat_right (IntKind.i64.wrap (n.fst - 1)) 1) (rat_cmp (IntKind.i64.wrap (n.fst - 1)) 1 a b = 1 → False)
            True) ∧
        (¬rat_cmp a b n.fst n.snd = -1 → False)) ∧
    (¬n.snd = 1 → False) := fun n e2 => by
    obtain ⟨g1, g2, g3, g4, g5⟩ := after_spec (m := n.1) (n := n.2) e2
    rw [wrap_id (by omega) (by omega)]
    exact ⟨fun _ => ⟨fun _ => ⟨fun h h' => g5 h h', fun _ => trivial⟩, fun h => h g2⟩, fun h => h g1⟩
  cases e1 : rat_between a b c d with
  | none =>
    cases e2 : rat_after a b with
    | none => simp only [↓vck_skip, ↓vck_ret, ↓vck_exit, ↓vck_region, ↓vck_nilq, ↓nilTo_to, nilG_d, nilG_r, ↓vck_seq, ↓vck_cond, ↓vck_block, ↓vck_loop, ↓vckTo_to, ↓thenK_n, ↓thenK_x, ↓thenK_r, ↓blockK_n, ↓blockK_x, ↓blockK_o, ↓blockK_r, ↓regK_to, ↓retK_r, ↓retK_n, ↓loopV_n, ↓loopV_x, ↓loopV_r, ↓famK_n, ↓famK_x, ↓famK_r, ↓boolK_true, ↓boolK_false, ↓boolK_not, ↓boolK_dec, ↓boolK_and, nf_mk, RGk_end_f, RGk_end_t, RGk_op, RGk_guard, opK_to, feet_f, feet_t, foot_mk, stepK_mk, stepK_v, stepK_no, guardG_t, guardG_f, guardG_no, condG_b, evT, Opd.ev, get_hit, get_next, app_to, app_no, app_up, app_skip, app_skipn, know_mk, knowO_t, knowO_c, envFrom, reserve, keeps, LOp.isNew, State.prune, cellsQ, cellsT, AV.leaf, Heap.at, evLoad_ptr, evLoad_dptr, loadO_vec, loadO_dvec1, stepK_load_map, idx_I, idx_U, idx_Rat, idx_Loc, idx_Act, idx_Step, idx_Stamp, stepK_idx_ref, evStore_ptr, storeO_vec, stepK_store_map1, loadDT_f, rowI, rowU, RatG.row, LocG.row, ActG.row, StepG.row, StampG.row, ActG.av, ActG.eta, RatG.eta, LocG.eta, beq_true, beq_false, loadDT_t, set_rowI, set_rowU, app_rowI, app_rowU, rep_rowI, rep_rowU, set_rowRat, app_rowRat, rep_rowRat, set_rowLoc, app_rowLoc, app_rowAct, app_rowStep, List.length_set, List.length_replicate, Int.toNat_natCast, Int.reduceToNat, evLen, evAppend, srcOf, Src.all, Src.len, Src.leaf, joinV, drows_rep1, drows_rep2, drows_rep3, drows_rep4, drows_rep5, drows_rep6, drows_rep7, drows_rep8, mkVec, drows, evMk, List.length_map, take_map_len, take_map_ge, loadQ, loadT, evBin, evUn, binT, binQ, chk, apartF, List.contains_cons, List.contains_nil, Bool.or_false, Bool.false_or, Bool.and_self, resQ, resV, resT, pickV, evCallT, evCall, fnOf, viewsT, viewT, evInt2, evEq, eqV, eqK, eqC1, buildQ, buildT, buildRQ, buildRT, lens_I, lensA_I, lens_U, lensA_U, lens_Rat, lensA_Rat, lens_Loc, lensA_Loc, lens_Act, lensA_Act, lens_Step, lensA_Step, lens_Stamp, lensA_Stamp, List.mem_cons, List.not_mem_nil, or_false, forall_eq, putRow, dcells, get_nil, RetS, RetF, RetD, AV.frz, AV.frzL, AV.freshP, AV.freshL, DV.less, scal_int, scal_bool, scal_nil, scal_rowI, scal_rowU, scal_rowRat, scal_rowStep, Option.some.injEq, AV.tup.injEq, AV.agg.injEq, List.cons.injEq, DV.list.injEq, List.isEmpty_nil, Nat.le_refl, AV.d.injEq, DV.int.injEq, DV.bool.injEq, ↓reduceIte, Nat.reduceEqDiff, Nat.reduceAdd, Nat.reduceBEq, List.length_cons, List.length_nil, List.replicate_succ, List.replicate_zero, List.nil_append, List.cons_append, List.append_nil, List.foldl_cons, List.foldl_nil, List.map_cons, List.map_nil, List.all_cons, List.all_nil, List.set_cons_zero, List.set_cons_succ, List.getD_cons_zero, List.getD_cons_succ, List.drop_zero, List.drop_succ_cons, List.take_succ_cons, List.take_zero, List.flatten_cons, List.flatten_nil, Bool.true_and, Bool.and_true, Bool.not_true, Bool.not_false, true_and, and_true, true_or, or_true, Option.bind_some, Option.map_some, decide_true, decide_false, beq_self_eq_true, true_implies, false_implies, implies_true, not_true_eq_false, not_false_eq_true, and_self, Bool.and_false, Bool.false_and, Nat.reduceLT, Nat.reduceLeDiff, List.reverse_cons, List.reverse_nil, Nat.zero_add, Nat.add_zero, Bool.false_eq_true, List.getElem?_cons_zero, F1, G1, F2, G2, F3, G3, F4, G4, F5, G5, at_true, at_rat_Right, at_rat_Cmp, at_rat_Between, at_rat_After, e1, e2, mo]
    | some n =>
      simp only [↓vck_skip, ↓vck_ret, ↓vck_exit, ↓vck_region, ↓vck_nilq, ↓nilTo_to, nilG_d, nilG_r, ↓vck_seq, ↓vck_cond, ↓vck_block, ↓vck_loop, ↓vckTo_to, ↓thenK_n, ↓thenK_x, ↓thenK_r, ↓blockK_n, ↓blockK_x, ↓blockK_o, ↓blockK_r, ↓regK_to, ↓retK_r, ↓retK_n, ↓loopV_n, ↓loopV_x, ↓loopV_r, ↓famK_n, ↓famK_x, ↓famK_r, ↓boolK_true, ↓boolK_false, ↓boolK_not, ↓boolK_dec, ↓boolK_and, nf_mk, RGk_end_f, RGk_end_t, RGk_op, RGk_guard, opK_to, feet_f, feet_t, foot_mk, stepK_mk, stepK_v, stepK_no, guardG_t, guardG_f, guardG_no, condG_b, evT, Opd.ev, get_hit, get_next, app_to, app_no, app_up, app_skip, app_skipn, know_mk, knowO_t, knowO_c, envFrom, reserve, keeps, LOp.isNew, State.prune, cellsQ, cellsT, AV.leaf, Heap.at, evLoad_ptr, evLoad_dptr, loadO_vec, loadO_dvec1, stepK_load_map, idx_I, idx_U, idx_Rat, idx_Loc, idx_Act, idx_Step, idx_Stamp, stepK_idx_ref, evStore_ptr, storeO_vec, stepK_store_map1, loadDT_f, rowI, rowU, RatG.row, LocG.row, ActG.row, StepG.row, StampG.row, ActG.av, ActG.eta, RatG.eta, LocG.eta, beq_true, beq_false, loadDT_t, set_rowI, set_rowU, app_rowI, app_rowU, rep_rowI, rep_rowU, set_rowRat, app_rowRat, rep_rowRat, set_rowLoc, app_rowLoc, app_rowAct, app_rowStep, List.length_set, List.length_replicate, Int.toNat_natCast, Int.reduceToNat, evLen, evAppend, srcOf, Src.all, Src.len, Src.leaf, joinV, drows_rep1, drows_rep2, drows_rep3, drows_rep4, drows_rep5, drows_rep6, drows_rep7, drows_rep8, mkVec, drows, evMk, List.length_map, take_map_len, take_map_ge, loadQ, loadT, evBin, evUn, binT, binQ, chk, apartF, List.contains_cons, List.contains_nil, Bool.or_false, Bool.false_or, Bool.and_self, resQ, resV, resT, pickV, evCallT, evCall, fnOf, viewsT, viewT, evInt2, evEq, eqV, eqK, eqC1, buildQ, buildT, buildRQ, buildRT, lens_I, lensA_I, lens_U, lensA_U, lens_Rat, lensA_Rat, lens_Loc, lensA_Loc, lens_Act, lensA_Act, lens_Step, lensA_Step, lens_Stamp, lensA_Stamp, List.mem_cons, List.not_mem_nil, or_false, forall_eq, putRow, dcells, get_nil, RetS, RetF, RetD, AV.frz, AV.frzL, AV.freshP, AV.freshL, DV.less, scal_int, scal_bool, scal_nil, scal_rowI, scal_rowU, scal_rowRat, scal_rowStep, Option.some.injEq, AV.tup.injEq, AV.agg.injEq, List.cons.injEq, DV.list.injEq, List.isEmpty_nil, Nat.le_refl, AV.d.injEq, DV.int.injEq, DV.bool.injEq, ↓reduceIte, Nat.reduceEqDiff, Nat.reduceAdd, Nat.reduceBEq, List.length_cons, List.length_nil, List.replicate_succ, List.replicate_zero, List.nil_append, List.cons_append, List.append_nil, List.foldl_cons, List.foldl_nil, List.map_cons, List.map_nil, List.all_cons, List.all_nil, List.set_cons_zero, List.set_cons_succ, List.getD_cons_zero, List.getD_cons_succ, List.drop_zero, List.drop_succ_cons, List.take_succ_cons, List.take_zero, List.flatten_cons, List.flatten_nil, Bool.true_and, Bool.and_true, Bool.not_true, Bool.not_false, true_and, and_true, true_or, or_true, Option.bind_some, Option.map_some, decide_true, decide_false, beq_self_eq_true, true_implies, false_implies, implies_true, not_true_eq_false, not_false_eq_true, and_self, Bool.and_false, Bool.false_and, Nat.reduceLT, Nat.reduceLeDiff, List.reverse_cons, List.reverse_nil, Nat.zero_add, Nat.add_zero, Bool.false_eq_true, List.getElem?_cons_zero, F1, G1, F2, G2, F3, G3, F4, G4, F5, G5, at_true, at_rat_Right, at_rat_Cmp, at_rat_Between, at_rat_After, e1, e2, mo]
      exact aft n e2
  | some m =>
    obtain ⟨b1, b2, b3⟩ := between_spec (m := m.1) (n := m.2) e1
    cases e2 : rat_after a b with
    | none => simp only [↓vck_skip, ↓vck_ret, ↓vck_exit, ↓vck_region, ↓vck_nilq, ↓nilTo_to, nilG_d, nilG_r, ↓vck_seq, ↓vck_cond, ↓vck_block, ↓vck_loop, ↓vckTo_to, ↓thenK_n, ↓thenK_x, ↓thenK_r, ↓blockK_n, ↓blockK_x, ↓blockK_o, ↓blockK_r, ↓regK_to, ↓retK_r, ↓retK_n, ↓loopV_n, ↓loopV_x, ↓loopV_r, ↓famK_n, ↓famK_x, ↓famK_r, ↓boolK_true, ↓boolK_false, ↓boolK_not, ↓boolK_dec, ↓boolK_and, nf_mk, RGk_end_f, RGk_end_t, RGk_op, RGk_guard, opK_to, feet_f, feet_t, foot_mk, stepK_mk, stepK_v, stepK_no, guardG_t, guardG_f, guardG_no, condG_b, evT, Opd.ev, get_hit, get_next, app_to, app_no, app_up, app_skip, app_skipn, know_mk, knowO_t, knowO_c, envFrom, reserve, keeps, LOp.isNew, State.prune, cellsQ, cellsT, AV.leaf, Heap.at, evLoad_ptr, evLoad_dptr, loadO_vec, loadO_dvec1, stepK_load_map, idx_I, idx_U, idx_Rat, idx_Loc, idx_Act, idx_Step, idx_Stamp, stepK_idx_ref, evStore_ptr, storeO_vec, stepK_store_map1, loadDT_f, rowI, rowU, RatG.row, LocG.row, ActG.row, StepG.row, StampG.row, ActG.av, ActG.eta, RatG.eta, LocG.eta, beq_true, beq_false, loadDT_t, set_rowI, set_rowU, app_rowI, app_rowU, rep_rowI, rep_rowU, set_rowRat, app_rowRat, rep_rowRat, set_rowLoc, app_rowLoc, app_rowAct, app_rowStep, List.length_set, List.length_replicate, Int.toNat_natCast, Int.reduceToNat, evLen, evAppend, srcOf, Src.all, Src.len, Src.leaf, joinV, drows_rep1, drows_rep2, drows_rep3, drows_rep4, drows_rep5, drows_rep6, drows_rep7, drows_rep8, mkVec, drows, evMk, List.length_map, take_map_len, take_map_ge, loadQ, loadT, evBin, evUn, binT, binQ, chk, apartF, List.contains_cons, List.contains_nil, Bool.or_false, Bool.false_or, Bool.and_self, resQ, resV, resT, pickV, evCallT, evCall, fnOf, viewsT, viewT, evInt2, evEq, eqV, eqK, eqC1, buildQ, buildT, buildRQ, buildRT, lens_I, lensA_I, lens_U, lensA_U, lens_Rat, lensA_Rat, lens_Loc, lensA_Loc, lens_Act, lensA_Act, lens_Step, lensA_Step, lens_Stamp, lensA_Stamp, List.mem_cons, List.not_mem_nil, or_false, forall_eq, putRow, dcells, get_nil, RetS, RetF, RetD, AV.frz, AV.frzL, AV.freshP, AV.freshL, DV.less, scal_int, scal_bool, scal_nil, scal_rowI, scal_rowU, scal_rowRat, scal_rowStep, Option.some.injEq, AV.tup.injEq, AV.agg.injEq, List.cons.injEq, DV.list.injEq, List.isEmpty_nil, Nat.le_refl, AV.d.injEq, DV.int.injEq, DV.bool.injEq, ↓reduceIte, Nat.reduceEqDiff, Nat.reduceAdd, Nat.reduceBEq, List.length_cons, List.length_nil, List.replicate_succ, List.replicate_zero, List.nil_append, List.cons_append, List.append_nil, List.foldl_cons, List.foldl_nil, List.map_cons, List.map_nil, List.all_cons, List.all_nil, List.set_cons_zero, List.set_cons_succ, List.getD_cons_zero, List.getD_cons_succ, List.drop_zero, List.drop_succ_cons, List.take_succ_cons, List.take_zero, List.flatten_cons, List.flatten_nil, Bool.true_and, Bool.and_true, Bool.not_true, Bool.not_false, true_and, and_true, true_or, or_true, Option.bind_some, Option.map_some, decide_true, decide_false, beq_self_eq_true, true_implies, false_implies, implies_true, not_true_eq_false, not_false_eq_true, and_self, Bool.and_false, Bool.false_and, Nat.reduceLT, Nat.reduceLeDiff, List.reverse_cons, List.reverse_nil, Nat.zero_add, Nat.add_zero, Bool.false_eq_true, List.getElem?_cons_zero, F1, G1, F2, G2, F3, G3, F4, G4, F5, G5, at_true, at_rat_Right, at_rat_Cmp, at_rat_Between, at_rat_After, e1, e2, mo, b1, b2, b3]
    | some n =>
      simp only [↓vck_skip, ↓vck_ret, ↓vck_exit, ↓vck_region, ↓vck_nilq, ↓nilTo_to, nilG_d, nilG_r, ↓vck_seq, ↓vck_cond, ↓vck_block, ↓vck_loop, ↓vckTo_to, ↓thenK_n, ↓thenK_x, ↓thenK_r, ↓blockK_n, ↓blockK_x, ↓blockK_o, ↓blockK_r, ↓regK_to, ↓retK_r, ↓retK_n, ↓loopV_n, ↓loopV_x, ↓loopV_r, ↓famK_n, ↓famK_x, ↓famK_r, ↓boolK_true, ↓boolK_false, ↓boolK_not, ↓boolK_dec, ↓boolK_and, nf_mk, RGk_end_f, RGk_end_t, RGk_op, RGk_guard, opK_to, feet_f, feet_t, foot_mk, stepK_mk, stepK_v, stepK_no, guardG_t, guardG_f, guardG_no, condG_b, evT, Opd.ev, get_hit, get_next, app_to, app_no, app_up, app_skip, app_skipn, know_mk, knowO_t, knowO_c, envFrom, reserve, keeps, LOp.isNew, State.prune, cellsQ, cellsT, AV.leaf, Heap.at, evLoad_ptr, evLoad_dptr, loadO_vec, loadO_dvec1, stepK_load_map, idx_I, idx_U, idx_Rat, idx_Loc, idx_Act, idx_Step, idx_Stamp, stepK_idx_ref, evStore_ptr, storeO_vec, stepK_store_map1, loadDT_f, rowI, rowU, RatG.row, LocG.row, ActG.row, StepG.row, StampG.row, ActG.av, ActG.eta, RatG.eta, LocG.eta, beq_true, beq_false, loadDT_t, set_rowI, set_rowU, app_rowI, app_rowU, rep_rowI, rep_rowU, set_rowRat, app_rowRat, rep_rowRat, set_rowLoc, app_rowLoc, app_rowAct, app_rowStep, List.length_set, List.length_replicate, Int.toNat_natCast, Int.reduceToNat, evLen, evAppend, srcOf, Src.all, Src.len, Src.leaf, joinV, drows_rep1, drows_rep2, drows_rep3, drows_rep4, drows_rep5, drows_rep6, drows_rep7, drows_rep8, mkVec, drows, evMk, List.length_map, take_map_len, take_map_ge, loadQ, loadT, evBin, evUn, binT, binQ, chk, apartF, List.contains_cons, List.contains_nil, Bool.or_false, Bool.false_or, Bool.and_self, resQ, resV, resT, pickV, evCallT, evCall, fnOf, viewsT, viewT, evInt2, evEq, eqV, eqK, eqC1, buildQ, buildT, buildRQ, buildRT, lens_I, lensA_I, lens_U, lensA_U, lens_Rat, lensA_Rat, lens_Loc, lensA_Loc, lens_Act, lensA_Act, lens_Step, lensA_Step, lens_Stamp, lensA_Stamp, List.mem_cons, List.not_mem_nil, or_false, forall_eq, putRow, dcells, get_nil, RetS, RetF, RetD, AV.frz, AV.frzL, AV.freshP, AV.freshL, DV.less, scal_int, scal_bool, scal_nil, scal_rowI, scal_rowU, scal_rowRat, scal_rowStep, Option.some.injEq, AV.tup.injEq, AV.agg.injEq, List.cons.injEq, DV.list.injEq, List.isEmpty_nil, Nat.le_refl, AV.d.injEq, DV.int.injEq, DV.bool.injEq, ↓reduceIte, Nat.reduceEqDiff, Nat.reduceAdd, Nat.reduceBEq, List.length_cons, List.length_nil, List.replicate_succ, List.replicate_zero, List.nil_append, List.cons_append, List.append_nil, List.foldl_cons, List.foldl_nil, List.map_cons, List.map_nil, List.all_cons, List.all_nil, List.set_cons_zero, List.set_cons_succ, List.getD_cons_zero, List.getD_cons_succ, List.drop_zero, List.drop_succ_cons, List.take_succ_cons, List.take_zero, List.flatten_cons, List.flatten_nil, Bool.true_and, Bool.and_true, Bool.not_true, Bool.not_false, true_and, and_true, true_or, or_true, Option.bind_some, Option.map_some, decide_true, decide_false, beq_self_eq_true, true_implies, false_implies, implies_true, not_true_eq_false, not_false_eq_true, and_self, Bool.and_false, Bool.false_and, Nat.reduceLT, Nat.reduceLeDiff, List.reverse_cons, List.reverse_nil, Nat.zero_add, Nat.add_zero, Bool.false_eq_true, List.getElem?_cons_zero, F1, G1, F2, G2, F3, G3, F4, G4, F5, G5, at_true, at_rat_Right, at_rat_Cmp, at_rat_Between, at_rat_After, e1, e2, mo, b1, b2, b3]
      exact aft n e2
end Go.Ago
