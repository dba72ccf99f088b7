/- hist.Do: acts on atomic locations, and what is no act on a location. Conditions: none. -/
import Derived.Test.YtngkcfdkeliedaaAgoP5
import Derived.Test.YtngkcfdkeliedaaAgoP4
import Derived.Test.YtngkcfdkeliedaaAgoP3
import Derived.Laws.Bits64b
set_option maxRecDepth 100000
set_option linter.unusedSimpArgs false
set_option linter.unusedVariables false
namespace Go.Ago
theorem mk_rowsL_set {α : Type} {f : α → List DV} (L : List (List α × Bool)) (i : Nat) (x : List α) : mkVec 1 ((Z21 f (cpL L L.length)).set i [.d (.list (x.map f) false)]) = .dvec 1 (((inn L).set i x).map fun l => [.list (l.map f) false]) := by
  have e : (Z21 f (cpL L L.length)).set i [.d (.list (x.map f) false)] = Z21 f (((inn L).set i x).map (·, false)) := by
    rw [cpL_all]
    unfold Z21
    rw [List.map_map, List.map_map, List.map_set]; rfl
  rw [e]
  unfold mkVec
  rw [drows_rowsL, List.map_map]; rfl
theorem right_atom {k o q v : Int} {l : List LocG} (hk : isAt k = true) (h : ActG.right ⟨k, o, q, v⟩ l = true) : (l.getD o.toNat default).atom = true := by
  have hk' : k = 3 ∨ k = 4 ∨ k = 5 := by simpa [isAt, or_assoc] using hk
  unfold ActG.right at h
  rw [if_neg (by show ¬ k = 6; omega)] at h
  simp only [Bool.and_eq_true, beq_iff_eq] at h
  have e : ActG.isA ⟨k, o, q, v⟩ = true := by rcases hk' with rfl | rfl | rfl <;> rfl
  rw [h.1.1.2]; exact e
theorem doErr_at {m : Mem} {s : StepG} (h : isAt s.act.kind = true) : Z2a m s = if goodQ m s = false then 1 else if s.act.kind ≠ 4 ∧ m.vals.getD s.act.loc.toNat 0 ≠ s.act.old then 3 else 0 := by
  have hk : s.act.kind = 3 ∨ s.act.kind = 4 ∨ s.act.kind = 5 := by simpa [isAt, or_assoc] using h
  unfold Z2a
  by_cases g : goodQ m s = false
  · rw [if_pos g, if_pos g]
  · rw [if_neg g, if_neg g, if_neg (by omega), if_neg (by omega)]
    by_cases c : s.act.kind ≠ 4 ∧ m.vals.getD s.act.loc.toNat 0 ≠ s.act.old
    · rw [if_pos c, if_pos ⟨h, c⟩]
    · rw [if_neg c, if_neg (fun h => c h.2)]
theorem joinG_len (a b : List RatG) : (joinG a b).length = a.length := by simp [joinG]
set_option maxHeartbeats 8000000 in
theorem do_get {T : Tab} {n1 n2 n3 n4 n5 n6 n7 n8 n9 n10 : Nat} (k1 : Knows T n1 sp_act_Right) (k2 : Knows T n2 sp_plain) (k3 : Knows T n3 sp_rat_Right) (k4 : KnowsG T n4 ef_copied0.at) (k5 : Knows T n5 sp_hist_at) (k6 : Knows T n6 sp_rat_Cmp) (k7 : Knows T n7 sp_rat_Least) (k8 : KnowsG T n8 ef_Insert.at) (k9 : Knows T n9 sp_join) (k10 : Knows T n10 (cloneS 2 16))
    (m : MemG) (th o q v : Int) (w : RatG) (hm : m.plain.Wf 1000000) :
    vck T 0 V_hist_Do (L_hist_Do n1 n2 n3 n4 n5 n6 n7 n8 n9 n10) ⟨Z0w 0 [m.av, StepG.av7 ⟨th, ⟨3, o, q, v⟩, w⟩], []⟩ (retK R_hist_Do (SaysK (RetD (.tup [(resM m.plain ⟨th, ⟨3, o, q, v⟩, w⟩).av, .d (.int .i64 (Z2a m.plain ⟨th, ⟨3, o, q, v⟩, w⟩))])))) := by
  have F1 := k1.F; have G1 := k1.G; have F2 := k2.F; have G2 := k2.G; have F3 := k3.F; have G3 := k3.G; have G4 := k4.G; have F5 := k5.F; have G5 := k5.G; have F6 := k6.F; have G6 := k6.G; have F7 := k7.F; have G7 := k7.G; have G8 := k8.G; have F9 := k9.F; have G9 := k9.G; have F10 := k10.F; have G10 := k10.G
  generalize hX : SaysK _ = X
  obtain ⟨a1, a2, a3, a4, a5, a6, a7, a8, a9, a10⟩ := m
  obtain ⟨wn, wd⟩ := w
  have hl : a1.length ≤ 16 := hm.locs
  have h1 : a3.length = a1.length := by have := hm.past; simpa [MemG.plain, Z1p] using this
  have h2 : a5.length = a1.length := hm.vals
  have h3 : a7.length = a1.length := by have := hm.marks; simpa [MemG.plain, Z1p] using this
  have h4 : a9.length ≤ 3 := by have := hm.fronts; simpa [MemG.plain, Z1p] using this
  have hcp := cp_ok hm (Nat.le_refl _)
  by_cases hb : (0 ≤ th ∧ th < a9.length) ∧ ActG.right ⟨3, o, q, v⟩ a1 = true
  · obtain ⟨⟨b1, b2⟩, b3⟩ := hb
    obtain ⟨b4, b5⟩ := right_bounds (by decide) b3
    have b6 := right_atom (by decide) b3
    have r7 := rowsL_all (f := RatG.row) (L := a7) (i := o.toNat) (by omega)
    have r8 := rowsL_all (f := RatG.row) (L := a9) (i := th.toNat) (by omega)
    have c1 : (th < 0) = False := by simp; omega
    have c2 : ((a9.length : Int) ≤ th) = False := by simp; omega
    have hfl : ((inn a9).getD th.toNat []).length = a1.length := hm.frontsL _ (inn_get (L := a9) (i := th.toNat) (by omega))
    have hml : ((inn a7).getD o.toNat []).length = a1.length := hm.marksA o.toNat (by show o.toNat < a1.length; omega) b6
    have hjl := joinG_len ((inn a9).getD th.toNat []) ((inn a7).getD o.toNat [])
    have hgood : goodQ (MemG.plain ⟨a1, a2, a3, a4, a5, a6, a7, a8, a9, a10⟩) ⟨th, ⟨3, o, q, v⟩, ⟨wn, wd⟩⟩ = decide (wn = 0 ∧ wd = 0) := by
      have e1 : decide (th < 0) = false := decide_eq_false (by omega)
      have e2 : decide ((a9.length : Int) ≤ th) = false := decide_eq_false (by omega)
      simp [goodQ, MemG.plain, Z1p, isPl, b3, e1, e2]
    have hD : Z2a (MemG.plain ⟨a1, a2, a3, a4, a5, a6, a7, a8, a9, a10⟩) ⟨th, ⟨3, o, q, v⟩, ⟨wn, wd⟩⟩ = if decide (wn = 0 ∧ wd = 0) = false then 1 else if a5.getD o.toNat 0 ≠ q then 3 else 0 := by
      rw [doErr_at (by show isAt 3 = true; decide), hgood]
      have e : ((3 : Int) ≠ 4 ∧ a5.getD o.toNat 0 ≠ q) = (a5.getD o.toNat 0 ≠ q) := by apply propext; exact ⟨fun h => h.2, fun h => ⟨by decide, h⟩⟩
      show (if _ then (1 : Int) else if ((3 : Int) ≠ 4 ∧ a5.getD o.toNat 0 ≠ q) then 3 else 0) = _
      simp only [e]
    have hM : doMem (MemG.plain ⟨a1, a2, a3, a4, a5, a6, a7, a8, a9, a10⟩) ⟨th, ⟨3, o, q, v⟩, ⟨wn, wd⟩⟩ = ⟨a1, inn a3, a5, inn a7, (inn a9).set th.toNat (joinG ((inn a9).getD th.toNat []) ((inn a7).getD o.toNat []))⟩ := by
      unfold doMem
      rw [if_neg (by show ¬ (3 : Int) = 2; decide), if_pos (by show isAt 3 = true; decide)]
      show (if (3 : Int) = 3 then _ else _) = _
      rw [if_pos rfl]; rfl
    unfold V_hist_Do L_hist_Do R_hist_Do
    simp (maxSteps := 3000000) only [↓Z0k, ↓Z0x, ↓Z02, ↓Z0i, ↓Z0j, ↓Z0c, ↓Z06, ↓Z0h, ↓Z1m, ↓Z1h, ↓blockK_r, ↓Z0g, ↓Z1a, ↓Z0p, ↓Z0m, ↓Z1j, ↓Z0a, ↓boolK_and, Z1g, Z05, Z10, Z0s, Z18, Z0v, evN, Z11, Z0f, Z0u, Z1u, Z0e, Z09, Z0d, Z1v, Z1x, Z0q, evT, Opd.ev, Z01, Z00, Z0t, Z1q, Z17, Z1i, Z0o, Z0r, Z0w, Z07, Z16, LOp.isNew, State.prune, Z19, Z13, AV.leaf, Heap.at, Z08, Z04, Z2g, Z0y, Z0b, Z03, loadDT_f, rowI, Z2i, List.length_map, List.take_of_length_le, Z1r, Z20, Z1s, evUn, binT, binQ, chk, Z1y, Bool.and_self, resQ, resV, resT, pickV, Z0z, Z1e, fnOf, Z1d, isD, Z23, evEq, eqV, eqK, eqC1, buildQ, buildT, putRow, Z0n, Nat.le_refl, ↓reduceIte, Nat.reduceAdd, Nat.reduceBEq, List.length_cons, List.length_nil, List.replicate_succ, List.replicate_zero, List.nil_append, List.cons_append, List.append_nil, List.map_cons, List.map_nil, List.all_cons, List.all_nil, List.set_cons_zero, List.set_cons_succ, List.getD_cons_zero, List.getD_cons_succ, List.drop_zero, List.drop_succ_cons, List.take_succ_cons, List.take_zero, List.flatten_cons, List.flatten_nil, Bool.and_true, Bool.not_true, Bool.not_false, true_and, and_true, Option.bind_some, Option.map_some, decide_true, decide_false, and_self, Nat.reduceLT, Nat.reduceLeDiff, List.reverse_cons, List.reverse_nil, Nat.zero_add, Nat.add_zero, Bool.false_eq_true, MemG.av, StepG.av7, F1, G1, F2, G2, G4, F9, G9, Z2b, at_plain, cp0_eff, at_join, Z04, Z03, Z27, cpL_len, Int.reduceEq, decide_true, decide_false, Bool.or_self, c1, c2, b3, r7, r8]
    subst hX
    have endg : ∀ {P : Prop}, (decide (wn = 0) = true ∧ decide (wd = 0) = true) → ¬ decide (wn = 0 ∧ wd = 0) = false := fun h => by
      simp only [decide_eq_true_eq] at h
      simp [h]
    have endb : (decide (wn = 0) = false ∨ decide (wd = 0) = false) → decide (wn = 0 ∧ wd = 0) = false := fun h => by
      simp only [decide_eq_false_iff_not] at h ⊢
      intro h2; rcases h with h | h
      · exact h h2.1
      · exact h h2.2
    refine ⟨fun g1 => ⟨hcp, ⟨by omega, by omega⟩, by omega, ⟨by omega, by omega⟩, by omega, fun g4 => ⟨⟨by omega, by omega⟩, by omega, ⟨by omega, by omega⟩, ⟨by omega, by omega⟩, by omega, ?_⟩, fun g4 => ?_⟩, fun g1 => ?_⟩
    · exact end_ok (ids := [3]) (by rw [hD, if_neg (endg (P := True) g1), if_neg (by simpa using g4)]) (by simp only [State.ices, State.ice, HO.data, iceEnv, Z2c, HO.ice, AV.ice, AV.iceL, Z2h, iceRows_nil, iceRows_set, iceRows_rowsL, iceL_data, Heap.at, List.getD_cons_zero, List.getD_cons_succ, ↓reduceIte, Nat.reduceEqDiff, Option.map_some, Nat.zero_add, Nat.reduceAdd, Nat.reduceBEq, List.drop_zero, take_mapF, List.take_length, List.length_map, Nat.le_refl, and_self, Bool.not_true]; rfl) (by rw [hM]; exact ⟨rfl, mk_rowsL _, rfl, mk_rowsL _, mk_rowsL_set _ _ _⟩) (by rw [hM]) (by rw [hM]; simp [Z1p]) (by rw [hM] <;> simp) (by rw [hM]; simp [Z1p]) (by rw [hM]; simp [Z1p])
    · exact end_err (by rw [hD, if_neg (endg (P := True) g1), if_pos (by simpa using g4)]) (by decide)
    · exact end_err (by rw [hD, if_pos (endb g1)]) (by decide)
  · have hD : Z2a (MemG.plain ⟨a1, a2, a3, a4, a5, a6, a7, a8, a9, a10⟩) ⟨th, ⟨3, o, q, v⟩, ⟨wn, wd⟩⟩ = 1 := by
      unfold Z2a
      rw [if_pos]
      unfold goodQ
      have e : ((inn a9).length : Int) = a9.length := by rw [Z1p]
      show (!decide (th < 0) && !decide (((inn a9).length : Int) ≤ th) && ActG.right ⟨3, o, q, v⟩ a1 && _ && _) = false
      rw [e]
      by_cases c1 : th < 0
      · simp [c1]
      · by_cases c2 : (a9.length : Int) ≤ th
        · simp [c2]
        · have : ActG.right ⟨3, o, q, v⟩ a1 = false := by
            cases h : ActG.right ⟨3, o, q, v⟩ a1 with
            | false => rfl
            | true => exact absurd ⟨⟨by omega, by omega⟩, h⟩ hb
          simp [this]
    unfold V_hist_Do L_hist_Do R_hist_Do
    simp (maxSteps := 3000000) only [↓Z0k, ↓Z0x, ↓Z02, ↓Z0i, ↓Z0j, ↓Z0c, ↓Z06, ↓Z0h, ↓Z1m, ↓blockK_r, ↓Z0g, ↓Z1a, ↓Z0p, ↓Z0m, ↓Z1j, ↓Z0a, ↓boolK_and, Z1g, Z05, Z10, Z0s, Z18, Z0v, evN, Z11, Z0f, Z0u, Z1u, Z0e, Z09, Z0d, Z1v, Z1x, guardG_no, Z0q, evT, Opd.ev, Z01, Z00, Z0t, Z1q, Z17, Z1i, Z0o, Z0r, Z0w, Z07, Z16, LOp.isNew, State.prune, Z19, Z13, AV.leaf, Heap.at, Z08, Z04, Z2g, Z0y, Z0b, Z03, loadDT_f, rowI, Z2i, List.length_map, List.take_of_length_le, Z1r, Z20, Z1s, evUn, binT, binQ, chk, Z1y, Bool.and_self, resQ, resV, resT, pickV, Z0z, Z1e, fnOf, Z1d, isD, Z23, evEq, eqV, eqK, eqC1, buildQ, buildT, putRow, Z0n, Nat.le_refl, ↓reduceIte, Nat.reduceAdd, Nat.reduceBEq, List.length_cons, List.length_nil, List.replicate_succ, List.replicate_zero, List.nil_append, List.cons_append, List.append_nil, List.map_cons, List.map_nil, List.all_cons, List.all_nil, List.set_cons_zero, List.set_cons_succ, List.getD_cons_zero, List.getD_cons_succ, List.drop_zero, List.drop_succ_cons, List.take_succ_cons, List.take_zero, List.flatten_cons, List.flatten_nil, Bool.and_true, Bool.not_false, true_and, and_true, Option.bind_some, Option.map_some, decide_true, decide_false, and_self, Nat.reduceLT, Nat.reduceLeDiff, List.reverse_cons, List.reverse_nil, Nat.zero_add, Nat.add_zero, Bool.false_eq_true, MemG.av, StepG.av7, F1, G1, F2, G2, G4, F9, G9, Z2b, at_plain, cp0_eff, Z04, Z03, Z27, cpL_len, Int.reduceEq, decide_true, decide_false, Bool.or_self]
    subst hX
    exact ⟨fun _ => end_err hD (by decide), fun g1 => ⟨fun _ => end_err hD (by decide), fun g2 => ⟨fun g3 => absurd ⟨⟨by omega, by omega⟩, g3⟩ hb, fun _ => end_err hD (by decide)⟩⟩⟩
set_option maxHeartbeats 8000000 in
theorem do_set {T : Tab} {n1 n2 n3 n4 n5 n6 n7 n8 n9 n10 : Nat} (k1 : Knows T n1 sp_act_Right) (k2 : Knows T n2 sp_plain) (k3 : Knows T n3 sp_rat_Right) (k4 : KnowsG T n4 ef_copied0.at) (k5 : Knows T n5 sp_hist_at) (k6 : Knows T n6 sp_rat_Cmp) (k7 : Knows T n7 sp_rat_Least) (k8 : KnowsG T n8 ef_Insert.at) (k9 : Knows T n9 sp_join) (k10 : Knows T n10 (cloneS 2 16))
    (m : MemG) (th o q v : Int) (w : RatG) (hm : m.plain.Wf 1000000) :
    vck T 0 V_hist_Do (L_hist_Do n1 n2 n3 n4 n5 n6 n7 n8 n9 n10) ⟨Z0w 0 [m.av, StepG.av7 ⟨th, ⟨4, o, q, v⟩, w⟩], []⟩ (retK R_hist_Do (SaysK (RetD (.tup [(resM m.plain ⟨th, ⟨4, o, q, v⟩, w⟩).av, .d (.int .i64 (Z2a m.plain ⟨th, ⟨4, o, q, v⟩, w⟩))])))) := by
  have F1 := k1.F; have G1 := k1.G; have F2 := k2.F; have G2 := k2.G; have F3 := k3.F; have G3 := k3.G; have G4 := k4.G; have F5 := k5.F; have G5 := k5.G; have F6 := k6.F; have G6 := k6.G; have F7 := k7.F; have G7 := k7.G; have G8 := k8.G; have F9 := k9.F; have G9 := k9.G; have F10 := k10.F; have G10 := k10.G
  generalize hX : SaysK _ = X
  obtain ⟨a1, a2, a3, a4, a5, a6, a7, a8, a9, a10⟩ := m
  obtain ⟨wn, wd⟩ := w
  have hl : a1.length ≤ 16 := hm.locs
  have h1 : a3.length = a1.length := by have := hm.past; simpa [MemG.plain, Z1p] using this
  have h2 : a5.length = a1.length := hm.vals
  have h3 : a7.length = a1.length := by have := hm.marks; simpa [MemG.plain, Z1p] using this
  have h4 : a9.length ≤ 3 := by have := hm.fronts; simpa [MemG.plain, Z1p] using this
  have hcp := cp_ok hm (Nat.le_refl _)
  by_cases hb : (0 ≤ th ∧ th < a9.length) ∧ ActG.right ⟨4, o, q, v⟩ a1 = true
  · obtain ⟨⟨b1, b2⟩, b3⟩ := hb
    obtain ⟨b4, b5⟩ := right_bounds (by decide) b3
    have b6 := right_atom (by decide) b3
    have r7 := rowsL_all (f := RatG.row) (L := a7) (i := o.toNat) (by omega)
    have r8 := rowsL_all (f := RatG.row) (L := a9) (i := th.toNat) (by omega)
    have c1 : (th < 0) = False := by simp; omega
    have c2 : ((a9.length : Int) ≤ th) = False := by simp; omega
    have hfl : ((inn a9).getD th.toNat []).length = a1.length := hm.frontsL _ (inn_get (L := a9) (i := th.toNat) (by omega))
    have hml : ((inn a7).getD o.toNat []).length = a1.length := hm.marksA o.toNat (by show o.toNat < a1.length; omega) b6
    have hjl := joinG_len ((inn a9).getD th.toNat []) ((inn a7).getD o.toNat [])
    have hgood : goodQ (MemG.plain ⟨a1, a2, a3, a4, a5, a6, a7, a8, a9, a10⟩) ⟨th, ⟨4, o, q, v⟩, ⟨wn, wd⟩⟩ = decide (wn = 0 ∧ wd = 0) := by
      have e1 : decide (th < 0) = false := decide_eq_false (by omega)
      have e2 : decide ((a9.length : Int) ≤ th) = false := decide_eq_false (by omega)
      simp [goodQ, MemG.plain, Z1p, isPl, b3, e1, e2]
    have hD : Z2a (MemG.plain ⟨a1, a2, a3, a4, a5, a6, a7, a8, a9, a10⟩) ⟨th, ⟨4, o, q, v⟩, ⟨wn, wd⟩⟩ = if decide (wn = 0 ∧ wd = 0) = false then 1 else 0 := by
      rw [doErr_at (by show isAt 4 = true; decide), hgood]
      congr 1
    have hM : doMem (MemG.plain ⟨a1, a2, a3, a4, a5, a6, a7, a8, a9, a10⟩) ⟨th, ⟨4, o, q, v⟩, ⟨wn, wd⟩⟩ = ⟨a1, inn a3, a5.set o.toNat v, (inn a7).set o.toNat (joinG ((inn a9).getD th.toNat []) ((inn a7).getD o.toNat [])), (inn a9).set th.toNat (joinG ((inn a9).getD th.toNat []) ((inn a7).getD o.toNat []))⟩ := by
      unfold doMem
      rw [if_neg (by show ¬ (4 : Int) = 2; decide), if_pos (by show isAt 4 = true; decide)]
      show (if (4 : Int) = 3 then _ else _) = _
      rw [if_neg (by decide)]; rfl
    unfold V_hist_Do L_hist_Do R_hist_Do
    simp (maxSteps := 3000000) only [↓Z0k, ↓Z0x, ↓Z02, ↓Z0i, ↓Z0j, ↓Z0c, ↓Z06, ↓Z0h, ↓Z1m, ↓Z1h, ↓Z0g, ↓Z1a, ↓Z0p, ↓Z0m, ↓Z1j, ↓boolK_and, Z1g, Z05, Z10, Z0s, Z18, Z0v, evN, Z11, Z0f, Z0u, Z1u, Z0e, Z09, Z0d, Z1v, Z1x, Z0q, evT, Opd.ev, Z01, Z00, Z0t, Z1q, Z17, Z1i, Z0o, Z0r, Z0w, Z07, Z16, LOp.isNew, State.prune, Z19, Z13, AV.leaf, Heap.at, Z08, Z04, Z0y, Z0b, Z03, stepK_store_map1, rowI, set_rowI, Z2i, List.length_map, List.take_of_length_le, Z1r, Z20, Z1s, evUn, binT, binQ, chk, Z1y, List.contains_cons, List.contains_nil, Bool.or_false, Bool.and_self, resQ, resV, resT, pickV, Z0z, Z1e, fnOf, Z1d, isD, Z23, evEq, eqV, eqK, eqC1, buildQ, buildT, lens_Rat, putRow, Z0n, scal_rowRat, Nat.le_refl, ↓reduceIte, Nat.reduceAdd, Nat.reduceBEq, List.length_cons, List.length_nil, List.replicate_succ, List.replicate_zero, List.nil_append, List.cons_append, List.append_nil, List.map_cons, List.map_nil, List.all_cons, List.all_nil, List.set_cons_zero, List.set_cons_succ, List.getD_cons_zero, List.getD_cons_succ, List.drop_zero, List.drop_succ_cons, List.take_succ_cons, List.take_zero, List.flatten_cons, List.flatten_nil, Bool.true_and, Bool.and_true, Bool.not_true, Bool.not_false, true_and, and_true, or_true, Option.bind_some, Option.map_some, decide_true, decide_false, and_self, Nat.reduceLT, Nat.reduceLeDiff, List.reverse_cons, List.reverse_nil, Nat.zero_add, Nat.add_zero, Bool.false_eq_true, MemG.av, StepG.av7, F1, G1, F2, G2, G4, F9, G9, F10, G10, Z2b, at_plain, cp0_eff, at_join, at_clone, Z04, Z03, Z27, cpL_len, Int.reduceEq, decide_true, decide_false, Bool.or_false, Bool.or_self, c1, c2, b3, r7, r8]
    subst hX
    have endg : ∀ {P : Prop}, (decide (wn = 0) = true ∧ decide (wd = 0) = true) → ¬ decide (wn = 0 ∧ wd = 0) = false := fun h => by
      simp only [decide_eq_true_eq] at h
      simp [h]
    have endb : (decide (wn = 0) = false ∨ decide (wd = 0) = false) → decide (wn = 0 ∧ wd = 0) = false := fun h => by
      simp only [decide_eq_false_iff_not] at h ⊢
      intro h2; rcases h with h | h
      · exact h h2.1
      · exact h h2.2
    refine ⟨fun g1 => ⟨hcp, ⟨by omega, by omega⟩, by omega, ⟨by omega, by omega⟩, by omega, ⟨by omega, by omega⟩, ⟨by omega, by omega⟩, by omega, Z1t (by omega) (by omega), ⟨by omega, by omega⟩, by omega, ⟨by omega, by omega⟩, by omega, ?_⟩, fun g1 => ?_⟩
    · exact end_ok (ids := [10]) (by rw [hD, if_neg (endg (P := True) g1)]) (by simp only [State.ices, State.ice, HO.data, iceEnv, Z2c, HO.ice, AV.ice, AV.iceL, Z2h, iceRows_nil, iceRows_set, iceRows_rowsL, iceL_data, Heap.at, List.getD_cons_zero, List.getD_cons_succ, ↓reduceIte, Nat.reduceEqDiff, Option.map_some, Nat.zero_add, Nat.reduceAdd, Nat.reduceBEq, List.drop_zero, take_mapF, List.take_length, List.length_map, Nat.le_refl, and_self, Bool.not_true]; rfl) (by rw [hM]; exact ⟨rfl, mk_rowsL _, rfl, mk_rowsL_set _ _ _, mk_rowsL_set _ _ _⟩) (by rw [hM]) (by rw [hM]; simp [Z1p]) (by rw [hM] <;> simp) (by rw [hM]; simp [Z1p]) (by rw [hM]; simp [Z1p])
    · exact end_err (by rw [hD, if_pos (endb g1)]) (by decide)
  · have hD : Z2a (MemG.plain ⟨a1, a2, a3, a4, a5, a6, a7, a8, a9, a10⟩) ⟨th, ⟨4, o, q, v⟩, ⟨wn, wd⟩⟩ = 1 := by
      unfold Z2a
      rw [if_pos]
      unfold goodQ
      have e : ((inn a9).length : Int) = a9.length := by rw [Z1p]
      show (!decide (th < 0) && !decide (((inn a9).length : Int) ≤ th) && ActG.right ⟨4, o, q, v⟩ a1 && _ && _) = false
      rw [e]
      by_cases c1 : th < 0
      · simp [c1]
      · by_cases c2 : (a9.length : Int) ≤ th
        · simp [c2]
        · have : ActG.right ⟨4, o, q, v⟩ a1 = false := by
            cases h : ActG.right ⟨4, o, q, v⟩ a1 with
            | false => rfl
            | true => exact absurd ⟨⟨by omega, by omega⟩, h⟩ hb
          simp [this]
    unfold V_hist_Do L_hist_Do R_hist_Do
    simp (maxSteps := 3000000) only [↓Z0k, ↓Z0x, ↓Z02, ↓Z0i, ↓Z0j, ↓Z0c, ↓Z06, ↓Z0h, ↓Z1m, ↓Z0g, ↓Z1a, ↓Z0p, ↓Z0m, ↓Z1j, ↓Z0a, ↓boolK_and, Z1g, Z05, Z10, Z0s, Z18, Z0v, evN, Z11, Z0f, Z0u, Z1u, Z0e, Z09, Z0d, Z1v, Z1x, guardG_no, Z0q, evT, Opd.ev, Z01, Z00, Z0t, Z1q, Z17, Z1i, Z0o, Z0r, Z0w, Z07, Z16, LOp.isNew, State.prune, Z19, Z13, AV.leaf, Heap.at, Z08, Z04, Z0y, Z0b, Z03, Z2i, List.length_map, List.take_of_length_le, Z1r, Z20, Z1s, evUn, binT, binQ, chk, Z1y, Bool.and_self, resQ, resV, resT, pickV, Z0z, Z1e, fnOf, Z1d, isD, Z23, evEq, eqV, eqK, eqC1, buildQ, buildT, putRow, Z0n, Nat.le_refl, ↓reduceIte, Nat.reduceAdd, Nat.reduceBEq, List.length_cons, List.length_nil, List.replicate_succ, List.replicate_zero, List.nil_append, List.cons_append, List.append_nil, List.map_cons, List.map_nil, List.all_cons, List.all_nil, List.set_cons_zero, List.set_cons_succ, List.getD_cons_zero, List.getD_cons_succ, List.drop_zero, List.drop_succ_cons, List.take_succ_cons, List.take_zero, List.flatten_cons, List.flatten_nil, Bool.and_true, Bool.not_true, Bool.not_false, true_and, Option.bind_some, Option.map_some, decide_true, decide_false, and_self, Nat.reduceLT, Nat.reduceLeDiff, List.reverse_cons, List.reverse_nil, Nat.zero_add, Nat.add_zero, Bool.false_eq_true, MemG.av, StepG.av7, F1, G1, F2, G2, G4, F9, G9, Z2b, at_plain, cp0_eff, Z04, Z03, Z27, cpL_len, Int.reduceEq, decide_true, decide_false, Bool.or_self]
    subst hX
    exact ⟨fun _ => end_err hD (by decide), fun g1 => ⟨fun _ => end_err hD (by decide), fun g2 => ⟨fun g3 => absurd ⟨⟨by omega, by omega⟩, g3⟩ hb, fun _ => end_err hD (by decide)⟩⟩⟩
set_option maxHeartbeats 8000000 in
theorem do_turn {T : Tab} {n1 n2 n3 n4 n5 n6 n7 n8 n9 n10 : Nat} (k1 : Knows T n1 sp_act_Right) (k2 : Knows T n2 sp_plain) (k3 : Knows T n3 sp_rat_Right) (k4 : KnowsG T n4 ef_copied0.at) (k5 : Knows T n5 sp_hist_at) (k6 : Knows T n6 sp_rat_Cmp) (k7 : Knows T n7 sp_rat_Least) (k8 : KnowsG T n8 ef_Insert.at) (k9 : Knows T n9 sp_join) (k10 : Knows T n10 (cloneS 2 16))
    (m : MemG) (th o q v : Int) (w : RatG) (hm : m.plain.Wf 1000000) :
    vck T 0 V_hist_Do (L_hist_Do n1 n2 n3 n4 n5 n6 n7 n8 n9 n10) ⟨Z0w 0 [m.av, StepG.av7 ⟨th, ⟨5, o, q, v⟩, w⟩], []⟩ (retK R_hist_Do (SaysK (RetD (.tup [(resM m.plain ⟨th, ⟨5, o, q, v⟩, w⟩).av, .d (.int .i64 (Z2a m.plain ⟨th, ⟨5, o, q, v⟩, w⟩))])))) := by
  have F1 := k1.F; have G1 := k1.G; have F2 := k2.F; have G2 := k2.G; have F3 := k3.F; have G3 := k3.G; have G4 := k4.G; have F5 := k5.F; have G5 := k5.G; have F6 := k6.F; have G6 := k6.G; have F7 := k7.F; have G7 := k7.G; have G8 := k8.G; have F9 := k9.F; have G9 := k9.G; have F10 := k10.F; have G10 := k10.G
  generalize hX : SaysK _ = X
  obtain ⟨a1, a2, a3, a4, a5, a6, a7, a8, a9, a10⟩ := m
  obtain ⟨wn, wd⟩ := w
  have hl : a1.length ≤ 16 := hm.locs
  have h1 : a3.length = a1.length := by have := hm.past; simpa [MemG.plain, Z1p] using this
  have h2 : a5.length = a1.length := hm.vals
  have h3 : a7.length = a1.length := by have := hm.marks; simpa [MemG.plain, Z1p] using this
  have h4 : a9.length ≤ 3 := by have := hm.fronts; simpa [MemG.plain, Z1p] using this
  have hcp := cp_ok hm (Nat.le_refl _)
  by_cases hb : (0 ≤ th ∧ th < a9.length) ∧ ActG.right ⟨5, o, q, v⟩ a1 = true
  · obtain ⟨⟨b1, b2⟩, b3⟩ := hb
    obtain ⟨b4, b5⟩ := right_bounds (by decide) b3
    have b6 := right_atom (by decide) b3
    have r7 := rowsL_all (f := RatG.row) (L := a7) (i := o.toNat) (by omega)
    have r8 := rowsL_all (f := RatG.row) (L := a9) (i := th.toNat) (by omega)
    have c1 : (th < 0) = False := by simp; omega
    have c2 : ((a9.length : Int) ≤ th) = False := by simp; omega
    have hfl : ((inn a9).getD th.toNat []).length = a1.length := hm.frontsL _ (inn_get (L := a9) (i := th.toNat) (by omega))
    have hml : ((inn a7).getD o.toNat []).length = a1.length := hm.marksA o.toNat (by show o.toNat < a1.length; omega) b6
    have hjl := joinG_len ((inn a9).getD th.toNat []) ((inn a7).getD o.toNat [])
    have hgood : goodQ (MemG.plain ⟨a1, a2, a3, a4, a5, a6, a7, a8, a9, a10⟩) ⟨th, ⟨5, o, q, v⟩, ⟨wn, wd⟩⟩ = decide (wn = 0 ∧ wd = 0) := by
      have e1 : decide (th < 0) = false := decide_eq_false (by omega)
      have e2 : decide ((a9.length : Int) ≤ th) = false := decide_eq_false (by omega)
      simp [goodQ, MemG.plain, Z1p, isPl, b3, e1, e2]
    have hD : Z2a (MemG.plain ⟨a1, a2, a3, a4, a5, a6, a7, a8, a9, a10⟩) ⟨th, ⟨5, o, q, v⟩, ⟨wn, wd⟩⟩ = if decide (wn = 0 ∧ wd = 0) = false then 1 else if a5.getD o.toNat 0 ≠ q then 3 else 0 := by
      rw [doErr_at (by show isAt 5 = true; decide), hgood]
      have e : ((5 : Int) ≠ 4 ∧ a5.getD o.toNat 0 ≠ q) = (a5.getD o.toNat 0 ≠ q) := by apply propext; exact ⟨fun h => h.2, fun h => ⟨by decide, h⟩⟩
      show (if _ then (1 : Int) else if ((5 : Int) ≠ 4 ∧ a5.getD o.toNat 0 ≠ q) then 3 else 0) = _
      simp only [e]
    have hM : doMem (MemG.plain ⟨a1, a2, a3, a4, a5, a6, a7, a8, a9, a10⟩) ⟨th, ⟨5, o, q, v⟩, ⟨wn, wd⟩⟩ = ⟨a1, inn a3, a5.set o.toNat v, (inn a7).set o.toNat (joinG ((inn a9).getD th.toNat []) ((inn a7).getD o.toNat [])), (inn a9).set th.toNat (joinG ((inn a9).getD th.toNat []) ((inn a7).getD o.toNat []))⟩ := by
      unfold doMem
      rw [if_neg (by show ¬ (5 : Int) = 2; decide), if_pos (by show isAt 5 = true; decide)]
      show (if (5 : Int) = 3 then _ else _) = _
      rw [if_neg (by decide)]; rfl
    unfold V_hist_Do L_hist_Do R_hist_Do
    simp (maxSteps := 3000000) only [↓Z0k, ↓Z0x, ↓Z02, ↓Z0i, ↓Z0j, ↓Z0c, ↓Z06, ↓Z0h, ↓Z1m, ↓Z1h, ↓blockK_r, ↓Z0g, ↓Z1a, ↓Z0p, ↓Z0m, ↓Z1j, ↓Z0a, ↓boolK_and, Z1g, Z05, Z10, Z0s, Z18, Z0v, evN, Z11, Z0f, Z0u, Z1u, Z0e, Z09, Z0d, Z1v, Z1x, Z0q, evT, Opd.ev, Z01, Z00, Z0t, Z1q, Z17, Z1i, Z0o, Z0r, Z0w, Z07, Z16, LOp.isNew, State.prune, Z19, Z13, AV.leaf, Heap.at, Z08, Z04, Z2g, Z0y, Z0b, Z03, stepK_store_map1, loadDT_f, rowI, set_rowI, Z2i, List.length_map, List.take_of_length_le, Z1r, Z20, Z1s, evUn, binT, binQ, chk, Z1y, List.contains_cons, List.contains_nil, Bool.or_false, Bool.and_self, resQ, resV, resT, pickV, Z0z, Z1e, fnOf, Z1d, isD, Z23, evEq, eqV, eqK, eqC1, buildQ, buildT, lens_Rat, putRow, Z0n, scal_rowRat, Nat.le_refl, ↓reduceIte, Nat.reduceAdd, Nat.reduceBEq, List.length_cons, List.length_nil, List.replicate_succ, List.replicate_zero, List.nil_append, List.cons_append, List.append_nil, List.map_cons, List.map_nil, List.all_cons, List.all_nil, List.set_cons_zero, List.set_cons_succ, List.getD_cons_zero, List.getD_cons_succ, List.drop_zero, List.drop_succ_cons, List.take_succ_cons, List.take_zero, List.flatten_cons, List.flatten_nil, Bool.true_and, Bool.and_true, Bool.not_true, Bool.not_false, true_and, and_true, or_true, Option.bind_some, Option.map_some, decide_true, decide_false, and_self, Nat.reduceLT, Nat.reduceLeDiff, List.reverse_cons, List.reverse_nil, Nat.zero_add, Nat.add_zero, Bool.false_eq_true, MemG.av, StepG.av7, F1, G1, F2, G2, G4, F9, G9, F10, G10, Z2b, at_plain, cp0_eff, at_join, at_clone, Z04, Z03, Z27, cpL_len, Int.reduceEq, decide_true, decide_false, Bool.or_false, Bool.or_self, c1, c2, b3, r7, r8]
    subst hX
    have endg : ∀ {P : Prop}, (decide (wn = 0) = true ∧ decide (wd = 0) = true) → ¬ decide (wn = 0 ∧ wd = 0) = false := fun h => by
      simp only [decide_eq_true_eq] at h
      simp [h]
    have endb : (decide (wn = 0) = false ∨ decide (wd = 0) = false) → decide (wn = 0 ∧ wd = 0) = false := fun h => by
      simp only [decide_eq_false_iff_not] at h ⊢
      intro h2; rcases h with h | h
      · exact h h2.1
      · exact h h2.2
    refine ⟨fun g1 => ⟨hcp, ⟨by omega, by omega⟩, by omega, ⟨by omega, by omega⟩, by omega, fun g4 => ⟨⟨by omega, by omega⟩, by omega, ⟨by omega, by omega⟩, ⟨by omega, by omega⟩, by omega, Z1t (by omega) (by omega), ⟨by omega, by omega⟩, by omega, ⟨by omega, by omega⟩, by omega, ?_⟩, fun g4 => ?_⟩, fun g1 => ?_⟩
    · exact end_ok (ids := [10]) (by rw [hD, if_neg (endg (P := True) g1), if_neg (by simpa using g4)]) (by simp only [State.ices, State.ice, HO.data, iceEnv, Z2c, HO.ice, AV.ice, AV.iceL, Z2h, iceRows_nil, iceRows_set, iceRows_rowsL, iceL_data, Heap.at, List.getD_cons_zero, List.getD_cons_succ, ↓reduceIte, Nat.reduceEqDiff, Option.map_some, Nat.zero_add, Nat.reduceAdd, Nat.reduceBEq, List.drop_zero, take_mapF, List.take_length, List.length_map, Nat.le_refl, and_self, Bool.not_true]; rfl) (by rw [hM]; exact ⟨rfl, mk_rowsL _, rfl, mk_rowsL_set _ _ _, mk_rowsL_set _ _ _⟩) (by rw [hM]) (by rw [hM]; simp [Z1p]) (by rw [hM] <;> simp) (by rw [hM]; simp [Z1p]) (by rw [hM]; simp [Z1p])
    · exact end_err (by rw [hD, if_neg (endg (P := True) g1), if_pos (by simpa using g4)]) (by decide)
    · exact end_err (by rw [hD, if_pos (endb g1)]) (by decide)
  · have hD : Z2a (MemG.plain ⟨a1, a2, a3, a4, a5, a6, a7, a8, a9, a10⟩) ⟨th, ⟨5, o, q, v⟩, ⟨wn, wd⟩⟩ = 1 := by
      unfold Z2a
      rw [if_pos]
      unfold goodQ
      have e : ((inn a9).length : Int) = a9.length := by rw [Z1p]
      show (!decide (th < 0) && !decide (((inn a9).length : Int) ≤ th) && ActG.right ⟨5, o, q, v⟩ a1 && _ && _) = false
      rw [e]
      by_cases c1 : th < 0
      · simp [c1]
      · by_cases c2 : (a9.length : Int) ≤ th
        · simp [c2]
        · have : ActG.right ⟨5, o, q, v⟩ a1 = false := by
            cases h : ActG.right ⟨5, o, q, v⟩ a1 with
            | false => rfl
            | true => exact absurd ⟨⟨by omega, by omega⟩, h⟩ hb
          simp [this]
    unfold V_hist_Do L_hist_Do R_hist_Do
    simp (maxSteps := 3000000) only [↓Z0k, ↓Z0x, ↓Z02, ↓Z0i, ↓Z0j, ↓Z0c, ↓Z06, ↓Z0h, ↓Z1m, ↓blockK_r, ↓Z0g, ↓Z1a, ↓Z0p, ↓Z0m, ↓Z1j, ↓Z0a, ↓boolK_and, Z1g, Z05, Z10, Z0s, Z18, Z0v, evN, Z11, Z0f, Z0u, Z1u, Z0e, Z09, Z0d, Z1v, Z1x, guardG_no, Z0q, evT, Opd.ev, Z01, Z00, Z0t, Z1q, Z17, Z1i, Z0o, Z0r, Z0w, Z07, Z16, LOp.isNew, State.prune, Z19, Z13, AV.leaf, Heap.at, Z08, Z04, Z2g, Z0y, Z0b, Z03, loadDT_f, rowI, Z2i, List.length_map, List.take_of_length_le, Z1r, Z20, Z1s, evUn, binT, binQ, chk, Z1y, Bool.and_self, resQ, resV, resT, pickV, Z0z, Z1e, fnOf, Z1d, isD, Z23, evEq, eqV, eqK, eqC1, buildQ, buildT, putRow, Z0n, Nat.le_refl, ↓reduceIte, Nat.reduceAdd, Nat.reduceBEq, List.length_cons, List.length_nil, List.replicate_succ, List.replicate_zero, List.nil_append, List.cons_append, List.append_nil, List.map_cons, List.map_nil, List.all_cons, List.all_nil, List.set_cons_zero, List.set_cons_succ, List.getD_cons_zero, List.getD_cons_succ, List.drop_zero, List.drop_succ_cons, List.take_succ_cons, List.take_zero, List.flatten_cons, List.flatten_nil, Bool.and_true, Bool.not_false, true_and, and_true, Option.bind_some, Option.map_some, decide_true, decide_false, and_self, Nat.reduceLT, Nat.reduceLeDiff, List.reverse_cons, List.reverse_nil, Nat.zero_add, Nat.add_zero, Bool.false_eq_true, MemG.av, StepG.av7, F1, G1, F2, G2, G4, F9, G9, Z2b, at_plain, cp0_eff, Z04, Z03, Z27, cpL_len, Int.reduceEq, decide_true, decide_false, Bool.or_self]
    subst hX
    exact ⟨fun _ => end_err hD (by decide), fun g1 => ⟨fun _ => end_err hD (by decide), fun g2 => ⟨fun g3 => absurd ⟨⟨by omega, by omega⟩, g3⟩ hb, fun _ => end_err hD (by decide)⟩⟩⟩
set_option maxHeartbeats 8000000 in
theorem do_other {T : Tab} {n1 n2 n3 n4 n5 n6 n7 n8 n9 n10 : Nat} (k1 : Knows T n1 sp_act_Right) (k2 : Knows T n2 sp_plain) (k3 : Knows T n3 sp_rat_Right) (k4 : KnowsG T n4 ef_copied0.at) (k5 : Knows T n5 sp_hist_at) (k6 : Knows T n6 sp_rat_Cmp) (k7 : Knows T n7 sp_rat_Least) (k8 : KnowsG T n8 ef_Insert.at) (k9 : Knows T n9 sp_join) (k10 : Knows T n10 (cloneS 2 16))
    (m : MemG) (th o q v : Int) (w : RatG) (hm : m.plain.Wf 1000000) {k : Int} (hk : k ≠ 1 ∧ k ≠ 2 ∧ k ≠ 3 ∧ k ≠ 4 ∧ k ≠ 5) :
    vck T 0 V_hist_Do (L_hist_Do n1 n2 n3 n4 n5 n6 n7 n8 n9 n10) ⟨Z0w 0 [m.av, StepG.av7 ⟨th, ⟨k, o, q, v⟩, w⟩], []⟩ (retK R_hist_Do (SaysK (RetD (.tup [(resM m.plain ⟨th, ⟨k, o, q, v⟩, w⟩).av, .d (.int .i64 (Z2a m.plain ⟨th, ⟨k, o, q, v⟩, w⟩))])))) := by
  have F1 := k1.F; have G1 := k1.G; have F2 := k2.F; have G2 := k2.G; have F3 := k3.F; have G3 := k3.G; have G4 := k4.G; have F5 := k5.F; have G5 := k5.G; have F6 := k6.F; have G6 := k6.G; have F7 := k7.F; have G7 := k7.G; have G8 := k8.G; have F9 := k9.F; have G9 := k9.G; have F10 := k10.F; have G10 := k10.G
  generalize hX : SaysK _ = X
  obtain ⟨a1, a2, a3, a4, a5, a6, a7, a8, a9, a10⟩ := m
  obtain ⟨wn, wd⟩ := w
  have hl : a1.length ≤ 16 := hm.locs
  have h1 : a3.length = a1.length := by have := hm.past; simpa [MemG.plain, Z1p] using this
  have h2 : a5.length = a1.length := hm.vals
  have h3 : a7.length = a1.length := by have := hm.marks; simpa [MemG.plain, Z1p] using this
  have h4 : a9.length ≤ 3 := by have := hm.fronts; simpa [MemG.plain, Z1p] using this
  have hcp := cp_ok hm (Nat.le_refl _)
  obtain ⟨q1, q2, q3, q4, q5⟩ := hk
  have kk1 : (k = 1) = False := by simp [q1]
  have kk2 : (k = 2) = False := by simp [q2]
  have kk3 : (k = 3) = False := by simp [q3]
  have kk4 : (k = 4) = False := by simp [q4]
  have kk5 : (k = 5) = False := by simp [q5]
  have kpl : (decide (k = 1) || decide (k = 2)) = false := by simp [q1, q2]
  by_cases hb : (0 ≤ th ∧ th < a9.length) ∧ ActG.right ⟨k, o, q, v⟩ a1 = true
  · obtain ⟨⟨b1, b2⟩, b3⟩ := hb
    have r8 := rowsL_all (f := RatG.row) (L := a9) (i := th.toNat) (by omega)
    have c1 : (th < 0) = False := by simp; omega
    have c2 : ((a9.length : Int) ≤ th) = False := by simp; omega
    have hgood : goodQ (MemG.plain ⟨a1, a2, a3, a4, a5, a6, a7, a8, a9, a10⟩) ⟨th, ⟨k, o, q, v⟩, ⟨wn, wd⟩⟩ = decide (wn = 0 ∧ wd = 0) := by
      have e1 : decide (th < 0) = false := decide_eq_false (by omega)
      have e2 : decide ((a9.length : Int) ≤ th) = false := decide_eq_false (by omega)
      simp [goodQ, MemG.plain, Z1p, isPl, b3, e1, e2, q1, q2]
    have hD : Z2a (MemG.plain ⟨a1, a2, a3, a4, a5, a6, a7, a8, a9, a10⟩) ⟨th, ⟨k, o, q, v⟩, ⟨wn, wd⟩⟩ = if decide (wn = 0 ∧ wd = 0) = false then 1 else 0 := by
      unfold Z2a
      rw [hgood]
      simp [isAt, q1, q2, q3, q4, q5]
    have hM : doMem (MemG.plain ⟨a1, a2, a3, a4, a5, a6, a7, a8, a9, a10⟩) ⟨th, ⟨k, o, q, v⟩, ⟨wn, wd⟩⟩ = (MemG.plain ⟨a1, a2, a3, a4, a5, a6, a7, a8, a9, a10⟩) := by
      simp [doMem, isAt, q2, q3, q4, q5]
    unfold V_hist_Do L_hist_Do R_hist_Do
    simp (maxSteps := 3000000) only [↓Z0k, ↓Z0x, ↓Z02, ↓Z0i, ↓Z0j, ↓Z0c, ↓Z06, ↓Z0h, ↓Z1m, ↓Z1h, ↓Z0g, ↓Z1a, ↓Z0p, ↓Z0m, ↓Z1j, ↓boolK_and, Z1g, Z05, Z0s, Z18, Z0v, evN, Z11, Z0f, Z0u, Z0e, Z09, Z0d, Z1v, Z1x, Z0q, evT, Opd.ev, Z01, Z00, Z0t, Z1q, Z17, Z1i, Z0o, Z0r, Z0w, Z07, Z16, LOp.isNew, State.prune, Z19, Z13, AV.leaf, Heap.at, Z08, Z04, Z0y, Z0b, Z03, Z2i, List.length_map, List.take_of_length_le, Z1r, Z20, Z1s, evUn, binT, binQ, Bool.and_self, resQ, resV, resT, pickV, Z0z, Z1e, fnOf, Z1d, isD, Z23, evEq, eqV, eqK, eqC1, buildQ, buildT, putRow, Z0n, Nat.le_refl, ↓reduceIte, Nat.reduceAdd, Nat.reduceBEq, List.length_cons, List.length_nil, List.replicate_succ, List.replicate_zero, List.nil_append, List.cons_append, List.append_nil, List.map_cons, List.map_nil, List.all_cons, List.all_nil, List.set_cons_zero, List.set_cons_succ, List.getD_cons_zero, List.getD_cons_succ, List.drop_zero, List.drop_succ_cons, List.take_succ_cons, List.take_zero, List.flatten_cons, List.flatten_nil, Bool.and_true, Bool.not_true, Bool.not_false, true_and, and_true, Option.bind_some, Option.map_some, decide_false, and_self, Nat.reduceLT, Nat.reduceLeDiff, Nat.zero_add, Nat.add_zero, Bool.false_eq_true, MemG.av, StepG.av7, F1, G1, F2, G2, G4, Z2b, at_plain, cp0_eff, Z04, Z03, Z27, cpL_len, decide_false, Bool.or_self, c1, c2, b3, r8, kk1, kk2, kk3, kk4, kk5]
    subst hX
    have endg : ∀ {P : Prop}, (decide (wn = 0) = true ∧ decide (wd = 0) = true) → ¬ decide (wn = 0 ∧ wd = 0) = false := fun h => by
      simp only [decide_eq_true_eq] at h
      simp [h]
    have endb : (decide (wn = 0) = false ∨ decide (wd = 0) = false) → decide (wn = 0 ∧ wd = 0) = false := fun h => by
      simp only [decide_eq_false_iff_not] at h ⊢
      intro h2; rcases h with h | h
      · exact h h2.1
      · exact h h2.2
    refine ⟨fun g1 => ⟨hcp, ⟨by omega, by omega⟩, by omega, ?_⟩, fun g1 => ?_⟩
    · exact end_ok (ids := [3]) (by rw [hD, if_neg (endg (P := True) g1)]) (by simp only [State.ices, State.ice, HO.data, iceEnv, Z2c, HO.ice, AV.ice, AV.iceL, Z2h, iceRows_nil, iceRows_set, iceRows_rowsL, iceL_data, Heap.at, List.getD_cons_zero, List.getD_cons_succ, ↓reduceIte, Nat.reduceEqDiff, Option.map_some, Nat.zero_add, Nat.reduceAdd, Nat.reduceBEq, List.drop_zero, take_mapF, List.take_length, List.length_map, Nat.le_refl, and_self, Bool.not_true]; rfl) (by rw [hM]; exact ⟨rfl, mk_rowsL _, rfl, mk_rowsL _, mk_rowsL _⟩) (by rw [hM]; rfl) (by rw [hM]; simp [MemG.plain, Z1p]) (by rw [hM]; rfl) (by rw [hM]; simp [MemG.plain, Z1p]) (by rw [hM]; simp [MemG.plain, Z1p])
    · exact end_err (by rw [hD, if_pos (endb g1)]) (by decide)
  · have hD : Z2a (MemG.plain ⟨a1, a2, a3, a4, a5, a6, a7, a8, a9, a10⟩) ⟨th, ⟨k, o, q, v⟩, ⟨wn, wd⟩⟩ = 1 := by
      unfold Z2a
      rw [if_pos]
      unfold goodQ
      have e : ((inn a9).length : Int) = a9.length := by rw [Z1p]
      show (!decide (th < 0) && !decide (((inn a9).length : Int) ≤ th) && ActG.right ⟨k, o, q, v⟩ a1 && _ && _) = false
      rw [e]
      by_cases c1 : th < 0
      · simp [c1]
      · by_cases c2 : (a9.length : Int) ≤ th
        · simp [c2]
        · have : ActG.right ⟨k, o, q, v⟩ a1 = false := by
            cases h : ActG.right ⟨k, o, q, v⟩ a1 with
            | false => rfl
            | true => exact absurd ⟨⟨by omega, by omega⟩, h⟩ hb
          simp [this]
    unfold V_hist_Do L_hist_Do R_hist_Do
    simp (maxSteps := 3000000) only [↓Z0k, ↓Z0x, ↓Z02, ↓Z0i, ↓Z0j, ↓Z0c, ↓Z06, ↓Z0h, ↓Z1m, ↓Z1h, ↓Z0g, ↓Z1a, ↓Z0p, ↓Z0m, ↓Z1j, ↓Z0a, ↓boolK_and, Z1g, Z05, Z0s, Z18, Z0v, evN, Z11, Z0f, Z0u, Z0e, Z09, Z0d, Z1v, Z1x, guardG_no, Z0q, evT, Opd.ev, Z01, Z00, Z0t, Z1q, Z17, Z1i, Z0o, Z0r, Z0w, Z07, Z16, LOp.isNew, State.prune, Z19, Z13, AV.leaf, Heap.at, Z08, Z04, Z0y, Z0b, Z03, Z2i, List.length_map, List.take_of_length_le, Z1r, Z20, Z1s, evUn, binT, binQ, Bool.and_self, resQ, resV, resT, pickV, Z0z, Z1e, fnOf, Z1d, isD, Z23, evEq, eqV, eqK, eqC1, buildQ, buildT, putRow, Z0n, Nat.le_refl, ↓reduceIte, Nat.reduceAdd, Nat.reduceBEq, List.length_cons, List.length_nil, List.replicate_succ, List.replicate_zero, List.nil_append, List.cons_append, List.append_nil, List.map_cons, List.map_nil, List.all_cons, List.all_nil, List.set_cons_zero, List.set_cons_succ, List.getD_cons_zero, List.getD_cons_succ, List.drop_zero, List.drop_succ_cons, List.take_succ_cons, List.take_zero, List.flatten_cons, List.flatten_nil, Bool.and_true, Bool.not_false, true_and, Option.bind_some, Option.map_some, decide_false, and_self, Nat.reduceLT, Nat.reduceLeDiff, Nat.zero_add, Nat.add_zero, Bool.false_eq_true, MemG.av, StepG.av7, F1, G1, F2, G2, G4, Z2b, at_plain, cp0_eff, Z04, Z03, Z27, cpL_len, decide_false, Bool.or_self, kk1, kk2, kk3, kk4, kk5]
    subst hX
    exact ⟨fun _ => end_err hD (by decide), fun g1 => ⟨fun _ => end_err hD (by decide), fun g2 => ⟨fun g3 => absurd ⟨⟨by omega, by omega⟩, g3⟩ hb, fun _ => end_err hD (by decide)⟩⟩⟩
end Go.Ago

/- hist.Do: writes. Conditions: none. -/
set_option maxRecDepth 100000
set_option linter.unusedSimpArgs false
set_option linter.unusedVariables false
namespace Go.Ago
theorem ice_vec {id sz0 sz : Nat} {rows : List (List DV)} {l : List (List AV)} : (HO.vec sz l).ice id sz0 rows = mkVec sz (iceRows id sz0 rows l) := rfl
theorem ice_dvec {id sz0 sz : Nat} {rows l : List (List DV)} : (HO.dvec sz l).ice id sz0 rows = .dvec sz l := rfl
theorem ice_dead {id sz0 : Nat} {rows : List (List DV)} : HO.dead.ice id sz0 rows = .dead := rfl
theorem ice_mkVec {id sz0 sz : Nat} {rows : List (List DV)} {l : List (List AV)} : (mkVec sz l).ice id sz0 rows = mkVec sz (iceRows id sz0 rows l) := by
  cases h : drows l with
  | none =>
    have : mkVec sz l = .vec sz l := by unfold mkVec; rw [h]
    rw [this]; rfl
  | some ds =>
    have e := drows_map _ _ h
    rw [mkVec_some h, e, iceRows_d, mkVec_some (drows_d ds)]; rfl
theorem bsGo_le (p : Nat → Bool) : ∀ (f i j : Nat), i ≤ j → bsGo p f i j ≤ j := by
  intro f
  induction f with
  | zero => intro i j h; exact h
  | succ f ih =>
    intro i j h
    simp only [bsGo]
    split
    · split
      · exact ih _ _ (by omega)
      · exact Nat.le_trans (ih _ _ (by omega)) (by omega)
    · exact h
theorem bsAt_le (l : List StampG) (w : RatG) : bsAt l w ≤ l.length := bsGo_le _ _ _ _ (Nat.zero_le _)
theorem cp_okH {m : MemG} {h : Hole} (hc : CpOk0 m) (hp : h.p < m.past.length) (hf : h.f < m.fronts.length) : CpOk h m := ⟨hc.locs, hc.vals, hc.past, hc.marks, hc.fronts, hc.pasts, hc.markss, hc.frontss, hp, hf⟩
set_option maxHeartbeats 8000000 in
theorem do_write {T : Tab} {n1 n2 n3 n4 n5 n6 n7 n8 n9 n10 : Nat} {hole : Hole} (k1 : Knows T n1 sp_act_Right) (k2 : Knows T n2 sp_plain) (k3 : Knows T n3 sp_rat_Right) (k4 : KnowsG T n4 (ef_copied hole).at) (k5 : Knows T n5 sp_hist_at) (k6 : Knows T n6 sp_rat_Cmp) (k7 : Knows T n7 sp_rat_Least) (k8 : KnowsG T n8 ef_Insert.at) (k9 : Knows T n9 sp_join) (k10 : Knows T n10 (cloneS 2 16))
    (m : MemG) (th o q v : Int) (w : RatG) (hm : m.plain.Wf 1000000) (hhole : hole = ⟨o.toNat, th.toNat⟩) :
    vck T 0 V_hist_Do (L_hist_Do n1 n2 n3 n4 n5 n6 n7 n8 n9 n10) ⟨Z0w 0 [m.av, StepG.av7 ⟨th, ⟨2, o, q, v⟩, w⟩], []⟩ (retK R_hist_Do (SaysK (RetD (.tup [(resM m.plain ⟨th, ⟨2, o, q, v⟩, w⟩).av, .d (.int .i64 (Z2a m.plain ⟨th, ⟨2, o, q, v⟩, w⟩))])))) := by
  have F1 := k1.F; have G1 := k1.G; have F2 := k2.F; have G2 := k2.G; have F3 := k3.F; have G3 := k3.G; have G4 := k4.G; have F5 := k5.F; have G5 := k5.G; have F6 := k6.F; have G6 := k6.G; have F7 := k7.F; have G7 := k7.G; have G8 := k8.G; have F9 := k9.F; have G9 := k9.G; have F10 := k10.F; have G10 := k10.G
  subst hhole
  generalize hX : SaysK _ = X
  obtain ⟨a1, a2, a3, a4, a5, a6, a7, a8, a9, a10⟩ := m
  obtain ⟨wn, wd⟩ := w
  have hl : a1.length ≤ 16 := hm.locs
  have h1 : a3.length = a1.length := by have := hm.past; simpa [MemG.plain, Z1p] using this
  have h2 : a5.length = a1.length := hm.vals
  have h3 : a7.length = a1.length := by have := hm.marks; simpa [MemG.plain, Z1p] using this
  have h4 : a9.length ≤ 3 := by have := hm.fronts; simpa [MemG.plain, Z1p] using this
  have hcp := cp_ok hm (Nat.le_refl _)
  by_cases hb : (0 ≤ th ∧ th < a9.length) ∧ ActG.right ⟨2, o, q, v⟩ a1 = true
  · obtain ⟨⟨b1, b2⟩, b3⟩ := hb
    obtain ⟨b4, b5⟩ := right_bounds (by decide) b3
    have r6 : ∀ x, ((Z21 StampG.row (cpL a3 a3.length)).set o.toNat x).getD o.toNat [] = x := fun x => by
      rw [List.getD_eq_getElem?_getD, List.getElem?_set_self (by rw [Z27, cpL_len]; omega)]; rfl
    have r8 : ∀ x, ((Z21 RatG.row (cpL a9 a9.length)).set th.toNat x).getD th.toNat [] = x := fun x => by
      rw [List.getD_eq_getElem?_getD, List.getElem?_set_self (by rw [Z27, cpL_len]; omega)]; rfl
    have c1 : (th < 0) = False := by simp; omega
    have c2 : ((a9.length : Int) ≤ th) = False := by simp; omega
    unfold V_hist_Do L_hist_Do R_hist_Do
    simp (maxSteps := 3000000) only [↓Z0k, ↓Z0x, ↓Z02, ↓Z0i, ↓Z0j, ↓Z0c, ↓Z06, ↓Z0h, ↓Z1m, ↓Z1h, ↓blockK_r, ↓Z0g, ↓Z1a, ↓Z0p, ↓Z0m, ↓Z1j, ↓Z0a, Z1g, Z05, Z10, Z0s, Z18, Z0v, evN, Z11, Z0f, Z0u, Z1u, Z0e, Z09, Z0d, Z1v, Z1x, guardG_no, Z0q, evT, Opd.ev, Z01, Z00, Z0t, Z1q, Z17, Z1i, Z0o, Z0r, Z0w, Z07, Z16, LOp.isNew, State.prune, Z19, Z13, AV.leaf, Heap.at, Z08, Z04, Z2g, Z0y, Z0b, Z03, RatG.row, Z1z, List.length_set, Z2i, mkVec, drows, List.length_map, List.take_of_length_le, Z1r, Z20, Z1s, evUn, binT, binQ, chk, Z1y, List.contains_cons, List.contains_nil, Bool.or_false, Bool.false_or, Bool.and_self, resQ, resV, resT, pickV, Z0z, evTake, Z1e, fnOf, Z1d, isD, Z23, buildQ, buildT, buildRQ, buildRT, putRow, dcells, Z0n, Nat.le_refl, ↓reduceIte, Nat.reduceAdd, Nat.reduceBEq, List.length_cons, List.length_nil, List.replicate_succ, List.replicate_zero, List.nil_append, List.cons_append, List.append_nil, List.map_cons, List.map_nil, List.all_cons, List.all_nil, List.set_cons_zero, List.set_cons_succ, List.getD_cons_zero, List.getD_cons_succ, List.drop_zero, List.drop_succ_cons, List.take_succ_cons, List.take_zero, List.flatten_cons, List.flatten_nil, Bool.true_and, Bool.not_true, Bool.not_false, true_and, and_true, Option.bind_some, Option.map_some, decide_true, decide_false, and_self, Nat.reduceLT, Nat.reduceLeDiff, List.reverse_cons, List.reverse_nil, Nat.zero_add, Nat.add_zero, Bool.false_eq_true, MemG.av, StepG.av7, F1, G1, F2, G2, F3, G3, G4, F5, G5, F6, G6, F7, G7, G8, Z2b, at_plain, at_rat_Right, cp_eff, at_InsertE, insE_d, store_rowRat, inn_at, List.set_set, at_hist_at, at_rat_Cmp, at_rat_Least, Z04, Z03, Z27, cpL_len, List.length_set, Int.reduceEq, decide_true, decide_false, Bool.or_false, c1, c2, b3, r6, r8]
    have hpl : ((inn a3).getD o.toNat []).length ≤ 1000000 := hm.pasts _ (inn_get (L := a3) (i := o.toNat) (by omega))
    have hfl : ((inn a9).getD th.toNat []).length = a1.length := hm.frontsL _ (inn_get (L := a9) (i := th.toNat) (by omega))
    have hgood : goodQ (MemG.plain ⟨a1, a2, a3, a4, a5, a6, a7, a8, a9, a10⟩) ⟨th, ⟨2, o, q, v⟩, ⟨wn, wd⟩⟩ = Z22 wn wd := by
      have e1 : decide (th < 0) = false := decide_eq_false (by omega)
      have e2 : decide ((a9.length : Int) ≤ th) = false := decide_eq_false (by omega)
      simp [goodQ, MemG.plain, Z1p, isPl, Z29, b3, e1, e2]
    have hD : Z2a (MemG.plain ⟨a1, a2, a3, a4, a5, a6, a7, a8, a9, a10⟩) ⟨th, ⟨2, o, q, v⟩, ⟨wn, wd⟩⟩ = if Z22 wn wd = false then 1 else (if bsHas ((inn a3).getD o.toNat []) ⟨wn, wd⟩ = true then 5 else if rat_cmp wn wd (((inn a9).getD th.toNat []).getD o.toNat default).num (((inn a9).getD th.toNat []).getD o.toNat default).den ≤ 0 then 6 else 0) := by
      unfold Z2a
      rw [hgood]
      by_cases g : Z22 wn wd = false
      · rw [if_pos g, if_pos g]
      · rw [if_neg g, if_neg g, if_neg (by show ¬ (2 : Int) = 1; decide), if_pos (by show (2 : Int) = 2; rfl)]; rfl
    have hM : doMem (MemG.plain ⟨a1, a2, a3, a4, a5, a6, a7, a8, a9, a10⟩) ⟨th, ⟨2, o, q, v⟩, ⟨wn, wd⟩⟩ = ⟨a1, (inn a3).set o.toNat (insG ((inn a3).getD o.toNat []) (bsAt ((inn a3).getD o.toNat []) ⟨wn, wd⟩) ⟨⟨(Z1w wn wd).1, (Z1w wn wd).2⟩, v⟩), a5, inn a7, (inn a9).set th.toNat (((inn a9).getD th.toNat []).set o.toNat ⟨(Z1w wn wd).1, (Z1w wn wd).2⟩)⟩ := by
      unfold doMem
      rw [if_pos (by show (2 : Int) = 2; rfl)]; rfl
    have hft : List.take ((inn a9).getD th.toNat []).length (((inn a9).getD th.toNat []).set o.toNat ⟨(Z1w wn wd).1, (Z1w wn wd).2⟩) = ((inn a9).getD th.toNat []).set o.toNat ⟨(Z1w wn wd).1, (Z1w wn wd).2⟩ := List.take_of_length_le (by simp)
    have hcp' : CpOk ⟨o.toNat, th.toNat⟩ ⟨a1, a2, a3, a4, a5, a6, a7, a8, a9, a10⟩ := cp_okH hcp (by show o.toNat < a3.length; omega) (by show th.toNat < a9.length; omega)
    have hbl := bsAt_le ((inn a3).getD o.toNat []) ⟨wn, wd⟩
    subst hX
    refine ⟨fun g1 => ⟨hcp', ⟨by omega, by omega⟩, by omega, ⟨by omega, by omega⟩, by omega, by omega, fun g2 => ?_, fun g2 => ⟨⟨by omega, by omega⟩, by omega, fun g3 => ?_, fun g3 => ⟨⟨by omega, by omega⟩, by omega, ⟨hbl, Z1t (by omega) (by omega)⟩, ⟨by omega, by omega⟩, by omega, ⟨by omega, by omega⟩, by omega, ?_⟩⟩⟩, fun g1 => ?_⟩
    · exact end_err (by rw [hD, g1, if_neg (by simp), if_pos g2]) (by decide)
    · exact end_err (by rw [hD, g1, if_neg (by simp), g2, if_neg (by simp), if_pos g3]) (by decide)
    · exact end_ok (ids := [10, 13]) (by rw [hD, g1, if_neg (by simp), g2, if_neg (by simp), if_neg g3]) (by simp only [State.ices, State.ice, HO.data, iceEnv, Z2c, ice_vec, ice_dvec, ice_dead, ice_mkVec, AV.ice, AV.iceL, Z2h, iceRows_nil, iceRows_set, iceRows_rowsL, iceL_data, Heap.at, List.getD_cons_zero, List.getD_cons_succ, ↓reduceIte, Nat.reduceEqDiff, Option.map_some, Nat.zero_add, Nat.reduceAdd, Nat.reduceBEq, List.drop_zero, take_mapF, List.take_length, List.length_map, List.length_set, Nat.le_refl, and_self, Bool.not_true, hft]; rfl) (by rw [hM]; exact ⟨rfl, mk_rowsL_set _ _ _, rfl, mk_rowsL _, mk_rowsL_set _ _ _⟩) (by rw [hM]) (by rw [hM]; simp [Z1p]) (by rw [hM]) (by rw [hM]; simp [Z1p]) (by rw [hM]; simp [Z1p])
    · exact end_err (by rw [hD, g1, if_pos rfl]) (by decide)
  · have hD : Z2a (MemG.plain ⟨a1, a2, a3, a4, a5, a6, a7, a8, a9, a10⟩) ⟨th, ⟨2, o, q, v⟩, ⟨wn, wd⟩⟩ = 1 := by
      unfold Z2a
      rw [if_pos]
      unfold goodQ
      have e : ((inn a9).length : Int) = a9.length := by rw [Z1p]
      show (!decide (th < 0) && !decide (((inn a9).length : Int) ≤ th) && ActG.right ⟨2, o, q, v⟩ a1 && _ && _) = false
      rw [e]
      by_cases c1 : th < 0
      · simp [c1]
      · by_cases c2 : (a9.length : Int) ≤ th
        · simp [c2]
        · have : ActG.right ⟨2, o, q, v⟩ a1 = false := by
            cases h : ActG.right ⟨2, o, q, v⟩ a1 with
            | false => rfl
            | true => exact absurd ⟨⟨by omega, by omega⟩, h⟩ hb
          simp [this]
    unfold V_hist_Do L_hist_Do R_hist_Do
    simp (maxSteps := 3000000) only [↓Z0k, ↓Z0x, ↓Z02, ↓Z0i, ↓Z0j, ↓Z0c, ↓Z06, ↓Z0h, ↓Z1m, ↓Z0g, ↓Z1a, ↓Z0p, ↓Z0m, ↓Z1j, ↓Z0a, Z1g, Z05, Z0s, Z18, Z0v, evN, Z11, Z0f, Z0u, Z1u, Z0e, Z09, Z0d, Z1v, Z1x, guardG_no, Z0q, evT, Opd.ev, Z01, Z00, Z0t, Z1q, Z17, Z1i, Z0o, Z0r, Z0w, Z07, Z16, LOp.isNew, State.prune, Z19, Z13, AV.leaf, Heap.at, Z08, Z04, Z0y, Z0b, Z03, List.length_set, Z2i, List.length_map, List.take_of_length_le, Z1r, Z20, Z1s, evUn, binT, binQ, Bool.false_or, Bool.and_self, resQ, resV, resT, pickV, Z0z, Z1e, fnOf, Z1d, isD, Z23, buildQ, buildT, putRow, Z0n, Nat.le_refl, ↓reduceIte, Nat.reduceAdd, Nat.reduceBEq, List.length_cons, List.length_nil, List.replicate_succ, List.replicate_zero, List.nil_append, List.cons_append, List.append_nil, List.map_cons, List.map_nil, List.all_cons, List.all_nil, List.set_cons_zero, List.set_cons_succ, List.getD_cons_zero, List.getD_cons_succ, List.drop_zero, List.drop_succ_cons, List.take_succ_cons, List.take_zero, List.flatten_cons, List.flatten_nil, Bool.not_true, true_and, decide_true, decide_false, and_self, Nat.reduceLT, Nat.reduceLeDiff, Nat.zero_add, Nat.add_zero, Bool.false_eq_true, MemG.av, StepG.av7, F1, G1, F2, G2, F3, G3, G4, F5, G5, Z2b, at_plain, at_rat_Right, cp_eff, inn_at, Z04, Z03, Z27, cpL_len, List.length_set, Int.reduceEq, decide_true, decide_false]
    subst hX
    exact ⟨fun _ => end_err hD (by decide), fun g1 => ⟨fun _ => end_err hD (by decide), fun g2 => ⟨fun g3 => absurd ⟨⟨by omega, by omega⟩, g3⟩ hb, fun _ => end_err hD (by decide)⟩⟩⟩
end Go.Ago

/- hist.Do: its contract. Conditions: none. -/
set_option maxRecDepth 100000
set_option linter.unusedSimpArgs false
set_option linter.unusedVariables false
namespace Go.Ago
def NeN (a b : Nat) : Prop := (a == b) = false
theorem KnowsG.nextG {T : Tab} {g g' : FuncId} {e e' : List AV → Heap → Option Eff} (hn : (g == g') = false) (h : KnowsG T g e) : KnowsG (T.addG g' e') g e :=
  ⟨by have : ¬ g = g' := by simpa using hn
      simp [Tab.addG, this, h.G]⟩
theorem KnowsG.hit {T : Tab} {g : FuncId} {e : List AV → Heap → Option Eff} : KnowsG (T.addG g e) g e := ⟨by simp [Tab.addG]⟩
theorem at_Do (a1 : List LocG) (a2 : Bool) (a3 : List StampsF) (a4 : Bool) (a5 : List Int) (a6 : Bool) (a7 : List RatsF) (a8 : Bool) (a9 : List RatsF) (a10 : Bool) (t k o q v n d : Int) :
    sp_Do.at [.agg [.d (.list (a1.map LocG.row) a2), .d (.list (a3.map rowStamps) a4), .d (.list (a5.map rowI) a6), .d (.list (a7.map rowRats) a8), .d (.list (a9.map rowRats) a10)], .agg [.d (.int .i64 t), .d (.int .i64 k), .d (.int .i64 o), .d (.int .i64 q), .d (.int .i64 v), .d (.int .i64 n), .d (.int .i64 d)]] =
      .data ((MemG.plain ⟨a1, a2, a3, a4, a5, a6, a7, a8, a9, a10⟩).Wf 1000000) (.tup [(resM (MemG.plain ⟨a1, a2, a3, a4, a5, a6, a7, a8, a9, a10⟩) ⟨t, ⟨k, o, q, v⟩, ⟨n, d⟩⟩).av, .d (.int .i64 (Z2a (MemG.plain ⟨a1, a2, a3, a4, a5, a6, a7, a8, a9, a10⟩) ⟨t, ⟨k, o, q, v⟩, ⟨n, d⟩⟩))]) false :=
  Sp.at_enc (s := sp_Do) (fun x y h => by
    obtain ⟨m, ⟨t, ⟨k, o, q, v⟩, n, d⟩⟩ := x; obtain ⟨m', ⟨t', ⟨k', o', q', v'⟩, n', d'⟩⟩ := y
    simp only [sp_Do, StepG.av7, List.cons.injEq, AV.agg.injEq, AV.d.injEq, DV.int.injEq, and_true, true_and] at h
    obtain ⟨h1, h2, h3, h4, h5, h6, h7, h8⟩ := h
    rw [MemG.av_inj _ _ h1, h2, h3, h4, h5, h6, h7, h8]) (⟨a1, a2, a3, a4, a5, a6, a7, a8, a9, a10⟩, ⟨t, ⟨k, o, q, v⟩, ⟨n, d⟩⟩)
theorem Do_ok {P : Program} {T : Tab} {n1 n2 n3 n4 n5 n6 n7 n8 n9 n10 : Nat} (hH : ∀ h, TabOK P (T.addG n4 (ef_copied h).at)) (h0 : TabOK P (T.addG n4 ef_copied0.at)) (k1 : Knows T n1 sp_act_Right) (k2 : Knows T n2 sp_plain) (k3 : Knows T n3 sp_rat_Right) (k5 : Knows T n5 sp_hist_at) (k6 : Knows T n6 sp_rat_Cmp) (k7 : Knows T n7 sp_rat_Least) (k8 : KnowsG T n8 ef_Insert.at) (k9 : Knows T n9 sp_join) (k10 : Knows T n10 (cloneS 2 16))
    (e1 : NeN n1 n4) (e2 : NeN n2 n4) (e3 : NeN n3 n4) (e5 : NeN n5 n4) (e6 : NeN n6 n4) (e7 : NeN n7 n4) (e8 : NeN n8 n4) (e9 : NeN n9 n4) (e10 : NeN n10 n4)
    {f : FuncId} {fn : Func} {c : Code} (hf : P.funcs[f]? = some fn) (hname : (fn.name == "runtime.NumGoroutine") = false) (hb : fn.body = some c) (hl : lowCode P fn.ntmps c = some (L_hist_Do n1 n2 n3 n4 n5 n6 n7 n8 n9 n10)) (hr : lowRess P fn.results.toList = some R_hist_Do)
    (ha : 2 ≤ fn.ntmps) : sp_Do.Ok P f := by
  rintro ⟨m, ⟨th, ⟨k, o, q, v⟩, w⟩⟩ hok
  have hok : m.plain.Wf 1000000 := hok
  have fin : ∀ {e : List AV → Heap → Option Eff}, TabOK P (T.addG n4 e) →
      (Knows (T.addG n4 e) n1 sp_act_Right → Knows (T.addG n4 e) n2 sp_plain → Knows (T.addG n4 e) n3 sp_rat_Right → KnowsG (T.addG n4 e) n4 e → Knows (T.addG n4 e) n5 sp_hist_at → Knows (T.addG n4 e) n6 sp_rat_Cmp → Knows (T.addG n4 e) n7 sp_rat_Least → KnowsG (T.addG n4 e) n8 ef_Insert.at → Knows (T.addG n4 e) n9 sp_join → Knows (T.addG n4 e) n10 (cloneS 2 16) →
        vck (T.addG n4 e) 0 V_hist_Do (L_hist_Do n1 n2 n3 n4 n5 n6 n7 n8 n9 n10) ⟨Z0w 0 [m.av, StepG.av7 ⟨th, ⟨k, o, q, v⟩, w⟩], []⟩ (retK R_hist_Do (SaysK (RetD (.tup [(resM m.plain ⟨th, ⟨k, o, q, v⟩, w⟩).av, .d (.int .i64 (Z2a m.plain ⟨th, ⟨k, o, q, v⟩, w⟩))]))))) →
      ACalls P f [m.av, StepG.av7 ⟨th, ⟨k, o, q, v⟩, w⟩] [] (RetD (.tup [(resM m.plain ⟨th, ⟨k, o, q, v⟩, w⟩).av, .d (.int .i64 (Z2a m.plain ⟨th, ⟨k, o, q, v⟩, w⟩))])) := fun hT hv =>
    ACalls.saysK (ACalls.of_vck hT V_hist_Do hf hname hb hl hr ha (hv (k1.nextG e1) (k2.nextG e2) (k3.nextG e3) .hit (k5.nextG e5) (k6.nextG e6) (k7.nextG e7) (k8.nextG e8) (k9.nextG e9) (k10.nextG e10)))
  have hA : ACalls P f [m.av, StepG.av7 ⟨th, ⟨k, o, q, v⟩, w⟩] [] (RetD (.tup [(resM m.plain ⟨th, ⟨k, o, q, v⟩, w⟩).av, .d (.int .i64 (Z2a m.plain ⟨th, ⟨k, o, q, v⟩, w⟩))])) := by
    by_cases c2 : k = 2
    · subst c2
      exact fin (hH ⟨o.toNat, th.toNat⟩) fun k1 k2 k3 k4 k5 k6 k7 k8 k9 k10 => do_write k1 k2 k3 k4 k5 k6 k7 k8 k9 k10 m th o q v w hok rfl
    · refine fin h0 fun k1 k2 k3 k4 k5 k6 k7 k8 k9 k10 => ?_
      by_cases c1 : k = 1
      · subst c1; exact do_read k1 k2 k3 k4 k5 k6 k7 k8 k9 k10 m th o q v w hok
      · by_cases c3 : k = 3
        · subst c3; exact do_get k1 k2 k3 k4 k5 k6 k7 k8 k9 k10 m th o q v w hok
        · by_cases c4 : k = 4
          · subst c4; exact do_set k1 k2 k3 k4 k5 k6 k7 k8 k9 k10 m th o q v w hok
          · by_cases c5 : k = 5
            · subst c5; exact do_turn k1 k2 k3 k4 k5 k6 k7 k8 k9 k10 m th o q v w hok
            · exact do_other k1 k2 k3 k4 k5 k6 k7 k8 k9 k10 m th o q v w hok ⟨c1, c2, c3, c4, c5⟩
  exact ⟨AV.plain_spec _ rfl, hA.mono fun r H' e => ⟨(AV.frz_spec _ _ e).1, fun h => by cases h⟩⟩
end Go.Ago

/- hist.Sees and hist.New. Conditions: none. -/
set_option maxRecDepth 100000
set_option linter.unusedSimpArgs false
set_option linter.unusedVariables false
namespace Go.Ago
/-! ### Sees -/
end Go.Ago

/- hist.New. Conditions: none. -/
set_option maxRecDepth 100000
set_option linter.unusedSimpArgs false
set_option linter.unusedVariables false
namespace Go.Ago
def newErr (l : List LocG) (t : Int) : Int := if 16 < l.length ∨ t < 1 ∨ 3 < t then 1 else 0
def pastX (x : LocG) : StampsF := if x.atom then ([], true) else ([⟨⟨0, 1⟩, x.init⟩], false)
def valX (x : LocG) : Int := if x.atom then x.init else 0
def markX (n : Nat) (x : LocG) : RatsF := if x.atom then (startG n, false) else ([], true)
def frontX (n t : Nat) : List RatsF := List.replicate t (startG n, false)
def newM (l : List LocG) (t : Int) : MemG := if newErr l t = 0 then ⟨l, false, l.map pastX, false, l.map valX, false, l.map (markX l.length), false, frontX l.length t.toNat, false⟩ else .nil
def sp_New : Sp := ⟨List LocG × Bool × Int, fun x => [.d (.list (x.1.map LocG.row) x.2.1), .d (.int .i64 x.2.2)], fun x => .data (x.1.length ≤ maxLen) (.tup [(newM x.1 x.2.2).av, .d (.int .i64 (newErr x.1 x.2.2))]) false⟩
theorem at_New (l : List LocG) (f : Bool) (t : Int) : sp_New.at [.d (.list (l.map LocG.row) f), .d (.int .i64 t)] = .data (l.length ≤ maxLen) (.tup [(newM l t).av, .d (.int .i64 (newErr l t))]) false :=
  Sp.at_enc (s := sp_New) (fun x y h => by
    obtain ⟨l, f, t⟩ := x; obtain ⟨l', f', t'⟩ := y
    simp only [sp_New, List.cons.injEq, AV.d.injEq, DV.list.injEq, DV.int.injEq, and_true, true_and] at h
    rw [Z1k LocG.row_inj h.1.1, h.1.2, h.2]) (l, f, t)
theorem mkVec_appd {sz : Nat} {L : List (List DV)} {x : DV} : mkVec sz (L.map (fun x => x.map AV.d) ++ [[.d x]]) = .dvec sz (L ++ [[x]]) := by
  have : L.map (fun x => x.map AV.d) ++ [[AV.d x]] = (L ++ [[x]]).map (·.map AV.d) := by simp
  rw [this]; exact mkVec_some (drows_d _)
theorem frontX_len (n k : Nat) : (frontX n k).length = k := List.length_replicate
theorem frontX_take (n k : Nat) : List.take k (frontX n k) = frontX n k := List.take_of_length_le (by rw [frontX_len]; exact Nat.le_refl _)
theorem frontX_succ (n k : Nat) : ((frontX n (k + 1)).map rowRats) = (frontX n k).map rowRats ++ [[.list ((startG n).map RatG.row) false]] := by
  unfold frontX; rw [List.replicate_succ', List.map_append]; rfl
def nobj : HO := .vec 5 [[.d (.list [] true), .d (.list [] true), .d (.list [] true), .d (.list [] true), .d (.list [] true)]]
def frSt0 (f : Bool) (t : Int) : Nat → State
  | 0 => ⟨[(0, .d (.list [] f)), (4, .ptr 0 5 0 0), (6, .ptr 2 5 0 0), (73, .d (.int .i64 t)), (74, .d (.int .i64 0))],
      [nobj, .dvec 2 [], .vec 5 [[.ref 1 2 0 0 true, .d (.list [] true), .d (.list [] true), .d (.list [] true), .d (.list [] true)]]]⟩
  | j + 1 => ⟨[(0, .d (.list [] f)), (4, .ptr 0 5 0 0), (6, .ptr 2 5 0 0), (73, .d (.int .i64 t)), (74, .d (.int .i64 ((j + 1 : Nat) : Int)))],
      [nobj, .dvec 2 [], .vec 5 [[.ref 1 2 0 0 true, .d (.list [] true), .d (.list [] true), .d (.list [] true), .ref 3 1 0 (j + 1) true]], .dvec 1 ((frontX 0 (j + 1)).map rowRats)]⟩
def frSt (l : List LocG) (f : Bool) (t : Int) : Nat → State
  | 0 => ⟨[(0, .d (.list (l.map LocG.row) f)), (4, .ptr 0 5 0 0), (6, .ptr 2 5 0 0), (73, .d (.int .i64 t)), (74, .d (.int .i64 0))],
      [nobj, .dvec 2 (l.map LocG.row), .vec 5 [[.ref 1 2 0 l.length true, .ref 3 1 0 l.length true, .ref 4 1 0 l.length true, .ref 5 1 0 l.length true, .d (.list [] true)]],
       .dvec 1 ((l.map pastX).map rowStamps), .dvec 1 ((l.map valX).map rowI), .dvec 1 ((l.map (markX l.length)).map rowRats)]⟩
  | j + 1 => ⟨[(0, .d (.list (l.map LocG.row) f)), (4, .ptr 0 5 0 0), (6, .ptr 2 5 0 0), (73, .d (.int .i64 t)), (74, .d (.int .i64 ((j + 1 : Nat) : Int)))],
      [nobj, .dvec 2 (l.map LocG.row), .vec 5 [[.ref 1 2 0 l.length true, .ref 3 1 0 l.length true, .ref 4 1 0 l.length true, .ref 5 1 0 l.length true, .ref 6 1 0 (j + 1) true]],
       .dvec 1 ((l.map pastX).map rowStamps), .dvec 1 ((l.map valX).map rowI), .dvec 1 ((l.map (markX l.length)).map rowRats), .dvec 1 ((frontX l.length (j + 1)).map rowRats)]⟩
def newSt (l : List LocG) (f : Bool) (t : Int) : Nat → State
  | 0 => ⟨[(0, .d (.list (l.map LocG.row) f)), (1, .d (.int .i64 t)), (4, .ptr 0 5 0 0), (24, .d (.list (l.map LocG.row) f)), (25, .d (.int .i64 l.length)), (26, .d (.int .i64 0)), (6, .ptr 2 5 0 0)],
      [.vec 5 [[.d (.list [] true), .d (.list [] true), .d (.list [] true), .d (.list [] true), .d (.list [] true)]], .dvec 2 (l.map LocG.row), .vec 5 [[.ref 1 2 0 l.length true, .d (.list [] true), .d (.list [] true), .d (.list [] true), .d (.list [] true)]]]⟩
  | i + 1 => ⟨[(0, .d (.list (l.map LocG.row) f)), (1, .d (.int .i64 t)), (4, .ptr 0 5 0 0), (24, .d (.list (l.map LocG.row) f)), (25, .d (.int .i64 l.length)), (26, .d (.int .i64 ((i + 1 : Nat) : Int))), (6, .ptr 2 5 0 0)],
      [.vec 5 [[.d (.list [] true), .d (.list [] true), .d (.list [] true), .d (.list [] true), .d (.list [] true)]], .dvec 2 (l.map LocG.row), .vec 5 [[.ref 1 2 0 l.length true, .ref 3 1 0 (i + 1) true, .ref 4 1 0 (i + 1) true, .ref 5 1 0 (i + 1) true, .d (.list [] true)]],
       .dvec 1 (((l.take (i + 1)).map pastX).map rowStamps), .dvec 1 (((l.take (i + 1)).map valX).map rowI), .dvec 1 (((l.take (i + 1)).map (markX l.length)).map rowRats)]⟩
set_option maxHeartbeats 4000000 in
theorem body_hist_New {T : Tab} {n1 n2 : Nat} (k1 : Knows T n1 (cloneS 2 16)) (k2 : Knows T n2 sp_begin) : sp_New.Body T V_hist_New (L_hist_New n1 n2) R_hist_New := by
  have F1 := k1.F; have G1 := k1.G; have F2 := k2.F; have G2 := k2.G
  rintro ⟨l, f, t⟩ hl
  refine ⟨rfl, ?_⟩
  have hl : l.length ≤ maxLen := hl
  show vck T 0 V_hist_New (L_hist_New n1 n2) ⟨Z0w 0 [.d (.list (l.map LocG.row) f), .d (.int .i64 t)], []⟩ (retK R_hist_New (RetD (.tup [(newM l t).av, .d (.int .i64 (newErr l t))])))
  generalize hX : RetD _ = X
  unfold V_hist_New L_hist_New R_hist_New
  simp (maxSteps := 3000000) only [↓Z0k, ↓Z0x, ↓Z02, ↓Z0i, ↓Z0j, ↓Z0c, ↓Z1n, ↓Z06, ↓Z0h, ↓Z1m, ↓Z0g, ↓Z1a, ↓Z0p, ↓Z0m, ↓Z0a, Z1g, Z05, Z0s, Z18, Z0v, evN, Z11, Z0f, Z0u, Z0e, Z09, Z0d, Z1x, Z0q, evT, Opd.ev, Z01, Z00, Z0t, Z1q, Z17, Z1i, Z0o, Z0r, Z0w, Z07, Z16, LOp.isNew, State.prune, Z19, Z13, AV.leaf, Heap.at, Z08, Z04, Z0b, Z03, Z2i, List.length_map, List.take_of_length_le, Z1r, Z20, Z1s, binT, binQ, Bool.and_self, resQ, resV, resT, pickV, Z0z, Z1e, fnOf, Z1d, Z23, buildQ, buildT, lens_Loc, putRow, Z0n, Nat.le_refl, ↓reduceIte, Nat.reduceAdd, Nat.reduceBEq, List.length_cons, List.length_nil, List.replicate_succ, List.replicate_zero, List.nil_append, List.cons_append, List.append_nil, List.map_cons, List.map_nil, List.all_cons, List.all_nil, List.set_cons_zero, List.set_cons_succ, List.getD_cons_zero, List.getD_cons_succ, List.drop_zero, List.drop_succ_cons, List.take_zero, List.flatten_cons, List.flatten_nil, true_and, and_true, true_or, and_self, Nat.reduceLT, Nat.reduceLeDiff, Nat.zero_add, Nat.add_zero, Bool.false_eq_true, F1, G1, at_clone, Z04, Z03]
  have err : ∀ {H}, (16 < l.length ∨ t < 1 ∨ 3 < t) → X (.tup [.agg [.d (.list [] true), .d (.list [] true), .d (.list [] true), .d (.list [] true), .d (.list [] true)], .d (.int .i64 1)]) H := fun {H} h => by
    have e1 : newErr l t = 1 := if_pos h
    have e2 : newM l t = .nil := by unfold newM; rw [if_neg (by rw [e1]; decide)]
    rw [← hX, e1, e2]; rfl
  refine ⟨fun c => err (.inl (by omega)), fun c1 => ⟨fun c => err (.inr (.inl c)), fun c2 => ⟨fun c => err (.inr (.inr c)), fun c3 => ⟨Z1t (by omega) (by omega), ?_⟩⟩⟩⟩
  have hl16 : l.length ≤ 16 := by omega
  have ok1 : newErr l t = 0 := if_neg (by omega)
  have ok2 : newM l t = ⟨l, false, l.map pastX, false, l.map valX, false, l.map (markX l.length), false, frontX l.length t.toNat, false⟩ := if_pos ok1
  refine Loop.fam [0, 1, 4, 24, 25, 26, 6] (newSt l f t) (fun i => i ≤ l.length) (fun i => l.length - i) 0 [0, 1, 2] (by simp) (by simp) (by simp only [State.can, AV.can, AV.canL, HO.can, Z14, idx, Z01, Z00, Heap.at, Nat.reduceBEq, ↓reduceIte, Nat.reduceEqDiff, Option.getD_some, Option.map_some, List.map_cons, List.map_nil, List.getD_cons_zero, List.getD_cons_succ, newSt]) (Nat.zero_le _) ?_
  intro i hi
  have hi : i ≤ l.length := hi
  by_cases hin : i < l.length
  · have e : l.getD i default = l[i] := Z28 hin
    have etk : l.take (i + 1) = l.take i ++ [l[i]] := by rw [List.take_add_one, List.getElem?_eq_getElem hin]; rfl
    by_cases hat : (l.getD i default).atom = true
    · have ep : rowStamps (pastX l[i]) = [.list [] true] := by rw [← e]; unfold pastX; rw [hat]; rfl
      have ev : rowI (valX l[i]) = [.int .i64 (l.getD i default).init] := by rw [← e]; unfold valX; rw [hat]; rfl
      have em : rowRats (markX l.length l[i]) = [.list ((startG l.length).map RatG.row) false] := by rw [← e]; unfold markX; rw [hat]; rfl
      cases i with
      | zero =>
        simp (maxSteps := 3000000) only [↓Z0k, ↓Z1c, ↓Z02, ↓Z0i, ↓Z0j, ↓Z0c, ↓Z1n, ↓Z06, ↓Z0h, ↓Z1o, ↓Z1h, ↓Z1b, ↓Z0g, ↓famK_n, ↓Z26, ↓Z0p, ↓Z0a, Z1g, Z05, Z10, Z0s, Z0v, evN, Z11, Z0f, Z0u, Z1u, Z0e, Z09, Z0d, Z0q, evT, Opd.ev, Z01, Z00, Z0t, Z1q, Z17, Z0o, Z0r, Z07, Z16, LOp.isNew, State.prune, Z19, Z13, AV.leaf, Heap.at, Z08, Z15, Z04, idx_Loc, Z0b, Z03, LocG.row, Z1z, Int.toNat_natCast, Int.reduceToNat, Z2i, evAppend, srcOf, Src.all, Src.len, Src.leaf, joinV, mkVec, drows, List.length_map, List.take_of_length_le, Nat.sub_zero, Z1r, Z20, Z1s, binT, binQ, chk, Z1y, List.contains_cons, List.contains_nil, Bool.or_false, Bool.and_self, Z0z, Z1e, fnOf, Z1d, Z23, buildRQ, buildRT, List.mem_cons, List.not_mem_nil, or_false, forall_eq, putRow, dcells, Z0n, Nat.le_refl, ↓reduceIte, Nat.reduceAdd, Nat.reduceBEq, List.length_cons, List.length_nil, List.replicate_succ, List.replicate_zero, List.nil_append, List.cons_append, List.append_nil, List.map_cons, List.map_nil, List.all_cons, List.all_nil, List.set_cons_zero, List.set_cons_succ, List.getD_cons_zero, List.getD_cons_succ, List.drop_zero, List.drop_succ_cons, List.take_succ_cons, List.take_zero, List.flatten_cons, List.flatten_nil, Bool.true_and, Bool.and_true, Bool.not_false, true_and, or_true, Option.bind_some, Option.map_some, false_implies, implies_true, and_self, Nat.reduceLT, Nat.reduceLeDiff, List.reverse_cons, List.reverse_nil, Nat.zero_add, Nat.add_zero, Bool.false_eq_true, newSt, F2, G2, at_begin, Z04, Z03, hat]
        refine ⟨fun c => ⟨⟨by omega, by omega⟩, Z1t (by omega) (by omega), Z1t (by omega) (by omega), ⟨by omega, by omega⟩, Z1t (by omega) (by omega), Z0l.mk [0, 1, 2, 5, 7, 10] 1 (by simp) (by simp) ?_ (by show 1 ≤ l.length; omega) (by show l.length - 1 < l.length; omega)⟩, fun c => absurd (by omega) c⟩
        simp only [State.can, AV.can, AV.canL, HO.can, Z14, idx, Z01, Z00, Heap.at, Nat.reduceBEq, ↓reduceIte, Nat.reduceEqDiff, Option.getD_some, Option.map_some, List.map_cons, List.map_nil, List.getD_cons_zero, List.getD_cons_succ, newSt, etk, List.take_zero, List.nil_append, List.map_cons, List.map_nil, ep, ev, em]; rfl
      | succ i =>
        have hlt : (List.take (i + 1) l).length = i + 1 := by rw [List.length_take]; omega
        have ht : ∀ {β : Type} (g : LocG → β), List.take (i + 1) (List.map g (List.take (i + 1) l)) = List.map g (List.take (i + 1) l) := fun g => List.take_of_length_le (by rw [List.length_map, hlt]; omega)
        simp (maxSteps := 3000000) only [↓Z0k, ↓Z1c, ↓Z02, ↓Z0i, ↓Z0j, ↓Z0c, ↓Z1n, ↓Z06, ↓Z0h, ↓Z1o, ↓Z1h, ↓Z1b, ↓Z0g, ↓famK_n, ↓Z26, ↓Z0p, ↓Z0a, Z1g, Z05, Z10, Z0s, Z0v, evN, Z11, Z0f, Z0u, Z1u, Z0e, Z09, Z0d, Z0q, evT, Opd.ev, Z01, Z00, Z0t, Z1q, Z17, Z0o, Z0r, Z07, Z16, LOp.isNew, State.prune, Z19, Z13, AV.leaf, Heap.at, Z08, Z15, Z04, idx_Loc, Z0b, Z03, LocG.row, Z1z, app_rowI, Int.toNat_natCast, Z2i, evAppend, srcOf, Src.all, Src.len, Src.leaf, joinV, mkVec, drows, List.length_map, List.take_of_length_le, Z1r, Z20, Z1s, binT, binQ, chk, Z1y, List.contains_cons, List.contains_nil, Bool.or_false, Bool.and_self, Z0z, Z1e, fnOf, Z1d, Z23, buildRQ, buildRT, List.mem_cons, List.not_mem_nil, or_false, forall_eq, putRow, dcells, Z0n, Nat.le_refl, ↓reduceIte, Nat.reduceAdd, Nat.reduceBEq, List.length_cons, List.length_nil, List.replicate_succ, List.replicate_zero, List.nil_append, List.cons_append, List.append_nil, List.map_cons, List.map_nil, List.all_cons, List.all_nil, List.set_cons_zero, List.set_cons_succ, List.getD_cons_zero, List.getD_cons_succ, List.drop_zero, List.drop_succ_cons, List.take_succ_cons, List.take_zero, List.flatten_cons, List.flatten_nil, Bool.true_and, Bool.and_true, Bool.not_false, true_and, Option.bind_some, Option.map_some, and_self, Nat.reduceLT, Nat.reduceLeDiff, List.reverse_cons, List.reverse_nil, Nat.zero_add, Nat.add_zero, Bool.false_eq_true, newSt, F2, G2, at_begin, Z04, Z03, hat, hlt]
        refine ⟨fun c => ⟨⟨by omega, by omega⟩, Z1t (by omega) (by omega), Z1t (by omega) (by omega), ⟨by omega, by omega⟩, Z1t (by omega) (by omega), ?_⟩, fun c => absurd (by omega) c⟩
        rw [Z12 hin (by unfold maxLen; omega)]
        refine Z0l.mk [0, 1, 2, 8, 10, 13] (i + 2) (by simp) (by simp) ?_ (by show i + 2 ≤ l.length; omega) (by show l.length - (i + 2) < l.length - (i + 1); omega)
        simp only [State.can, AV.can, AV.canL, HO.can, Z14, idx, Z01, Z00, Heap.at, Nat.reduceBEq, ↓reduceIte, Nat.reduceEqDiff, Option.getD_some, Option.map_some, List.map_cons, List.map_nil, List.getD_cons_zero, List.getD_cons_succ, newSt, etk, List.map_append, List.map_cons, List.map_nil, ep, ev, em]; rfl
    · have hat : (l.getD i default).atom = false := by simpa using hat
      have ep : rowStamps (pastX l[i]) = [.list [[.int .i64 0, .int .i64 1, .int .i64 (l.getD i default).init]] false] := by rw [← e]; unfold pastX; rw [hat]; rfl
      have ev : rowI (valX l[i]) = [.int .i64 0] := by rw [← e]; unfold valX; rw [hat]; rfl
      have em : rowRats (markX l.length l[i]) = [.list [] true] := by rw [← e]; unfold markX; rw [hat]; rfl
      cases i with
      | zero =>
        simp (maxSteps := 3000000) only [↓Z0k, ↓Z1c, ↓Z02, ↓Z0i, ↓Z0j, ↓Z0c, ↓Z1n, ↓Z06, ↓Z0h, ↓Z1o, ↓Z1h, ↓Z1b, ↓Z0g, ↓famK_n, ↓Z26, ↓Z0m, ↓Z0a, Z1g, Z05, Z10, Z0s, Z0v, evN, Z0f, Z0u, Z1u, Z0e, Z09, Z0d, Z0q, evT, Opd.ev, Z01, Z00, Z0t, Z1q, Z17, Z0o, Z0r, Z07, Z16, LOp.isNew, State.prune, Z19, Z13, AV.leaf, Heap.at, Z08, Z15, Z04, idx_Loc, Z0b, Z03, LocG.row, Z1z, Int.reduceToNat, evAppend, srcOf, Src.all, Src.len, Src.leaf, joinV, mkVec, drows, List.take_of_length_le, Nat.sub_zero, Z1r, Z20, Z1s, binT, binQ, chk, Z1y, List.contains_cons, List.contains_nil, Bool.or_false, Bool.and_self, buildQ, buildT, buildRQ, buildRT, List.mem_cons, List.not_mem_nil, or_false, forall_eq, putRow, dcells, Z0n, Nat.le_refl, ↓reduceIte, Nat.reduceAdd, Nat.reduceBEq, List.length_cons, List.length_nil, List.replicate_succ, List.replicate_zero, List.nil_append, List.cons_append, List.append_nil, List.map_cons, List.map_nil, List.all_cons, List.all_nil, List.set_cons_zero, List.set_cons_succ, List.getD_cons_zero, List.getD_cons_succ, List.drop_zero, List.drop_succ_cons, List.take_succ_cons, List.take_zero, Bool.true_and, Bool.and_true, Bool.not_false, true_and, or_true, Option.bind_some, Option.map_some, false_implies, implies_true, and_self, Nat.reduceLT, Nat.reduceLeDiff, List.reverse_cons, List.reverse_nil, Nat.zero_add, Nat.add_zero, Bool.false_eq_true, newSt, Z04, Z03, hat, Option.bind_none]
        refine ⟨fun c => ⟨⟨by omega, by omega⟩, Z1t (by omega) (by omega), Z1t (by omega) (by omega), Z1t (by omega) (by omega), Z0l.ices [4] (Z0l.thaw 0 (Z0l.thaw 2 (Z0l.mk [0, 1, 2, 6, 8, 10] 1 (by simp) (by simp [State.thaw, ices_len]) ?_ (by show 1 ≤ l.length; omega) (by show l.length - 1 < l.length; omega))))⟩, fun c => absurd (by omega) c⟩
        simp only [State.can, AV.can, AV.canL, HO.can, Z14, idx, Z01, Z00, Heap.at, Nat.reduceBEq, ↓reduceIte, Nat.reduceEqDiff, Option.getD_some, Option.map_some, List.map_cons, List.map_nil, List.getD_cons_zero, List.getD_cons_succ, newSt, etk, List.take_zero, List.nil_append, List.map_cons, List.map_nil, ep, ev, em, State.ices, State.ice, HO.data, iceEnv, Z2c, HO.ice, AV.ice, AV.iceL, State.thaw, thaw_mkVec, Z2h, iceRows_nil, List.set_cons_zero, List.set_cons_succ, List.drop_zero, List.take_succ_cons, List.take_zero, List.length_cons, List.length_nil, Bool.not_true, Nat.zero_add, Nat.le_refl, and_self]; rfl
      | succ i =>
        have hlt : (List.take (i + 1) l).length = i + 1 := by rw [List.length_take]; omega
        have ht : ∀ {β : Type} (g : LocG → β), List.take (i + 1) (List.map g (List.take (i + 1) l)) = List.map g (List.take (i + 1) l) := fun g => List.take_of_length_le (by rw [List.length_map, hlt]; omega)
        simp (maxSteps := 3000000) only [↓Z0k, ↓Z1c, ↓Z02, ↓Z0i, ↓Z0j, ↓Z0c, ↓Z1n, ↓Z06, ↓Z0h, ↓Z1o, ↓Z1h, ↓Z1b, ↓Z0g, ↓famK_n, ↓Z26, ↓Z0m, ↓Z0a, Z1g, Z05, Z10, Z0s, Z0v, evN, Z0f, Z0u, Z1u, Z0e, Z09, Z0d, Z0q, evT, Opd.ev, Z01, Z00, Z0t, Z1q, Z17, Z0o, Z0r, Z07, Z16, LOp.isNew, State.prune, Z19, Z13, AV.leaf, Heap.at, Z08, Z15, Z04, idx_Loc, Z0b, Z03, LocG.row, Z1z, app_rowI, Int.toNat_natCast, evAppend, srcOf, Src.all, Src.len, Src.leaf, joinV, mkVec, drows, List.length_map, List.take_of_length_le, Z1r, Z20, Z1s, binT, binQ, chk, Z1y, List.contains_cons, List.contains_nil, Bool.or_false, Bool.and_self, buildQ, buildT, buildRQ, buildRT, List.mem_cons, List.not_mem_nil, or_false, forall_eq, putRow, dcells, Z0n, Nat.le_refl, ↓reduceIte, Nat.reduceAdd, Nat.reduceBEq, List.length_cons, List.length_nil, List.replicate_succ, List.replicate_zero, List.nil_append, List.cons_append, List.append_nil, List.map_cons, List.map_nil, List.all_cons, List.all_nil, List.set_cons_zero, List.set_cons_succ, List.getD_cons_zero, List.getD_cons_succ, List.drop_zero, List.drop_succ_cons, List.take_succ_cons, List.take_zero, Bool.true_and, Bool.and_true, Bool.not_false, true_and, Option.bind_some, Option.map_some, and_self, Nat.reduceLT, Nat.reduceLeDiff, List.reverse_cons, List.reverse_nil, Nat.zero_add, Nat.add_zero, Bool.false_eq_true, newSt, Z04, Z03, hat, Option.bind_none, hlt]
        refine ⟨fun c => ⟨⟨by omega, by omega⟩, Z1t (by omega) (by omega), Z1t (by omega) (by omega), Z1t (by omega) (by omega), ?_⟩, fun c => absurd (by omega) c⟩
        rw [Z12 hin (by unfold maxLen; omega)]
        refine Z0l.ices [7] (Z0l.thaw 0 (Z0l.thaw 2 (Z0l.mk [0, 1, 2, 9, 11, 13] (i + 2) (by simp) (by simp [State.thaw, ices_len]) ?_ (by show i + 2 ≤ l.length; omega) (by show l.length - (i + 2) < l.length - (i + 1); omega))))
        simp only [State.can, AV.can, AV.canL, HO.can, Z14, idx, Z01, Z00, Heap.at, Nat.reduceBEq, ↓reduceIte, Nat.reduceEqDiff, Option.getD_some, Option.map_some, List.map_cons, List.map_nil, List.getD_cons_zero, List.getD_cons_succ, newSt, etk, List.map_append, List.map_cons, List.map_nil, ep, ev, em, mkVec_appd, State.ices, State.ice, HO.data, iceEnv, Z2c, HO.ice, AV.ice, AV.iceL, State.thaw, thaw_mkVec, Z2h, iceRows_nil, iceRows_app, iceRows_d, List.set_cons_zero, List.set_cons_succ, List.drop_zero, List.take_succ_cons, List.take_zero, List.length_cons, List.length_nil, Bool.not_true, Nat.zero_add, Nat.le_refl, and_self]; rfl
  · have hil : i = l.length := by omega
    cases i with
    | zero =>
      have hl0 : l = [] := List.length_eq_zero_iff.1 hil.symm
      subst hl0
      simp (maxSteps := 3000000) only [↓Z0k, ↓Z1c, ↓Z02, ↓Z0i, ↓Z0j, ↓Z0c, ↓Z1n, ↓Z06, ↓Z0h, ↓Z1o, ↓Z1b, ↓Z0g, ↓Z26, ↓Z0a, Z1g, Z05, Z0s, Z0v, evN, Z0f, Z0u, Z0e, Z0d, Z0q, evT, Opd.ev, Z01, Z00, Z0t, Z0o, Z0r, Z07, Z16, LOp.isNew, State.prune, Nat.sub_zero, Z1s, binT, binQ, Z0n, ↓reduceIte, Nat.reduceAdd, Nat.reduceBEq, List.length_cons, List.length_nil, List.replicate_succ, List.replicate_zero, List.nil_append, List.cons_append, List.append_nil, List.map_cons, List.map_nil, true_and, Nat.zero_add, Nat.add_zero, Bool.false_eq_true, newSt]
      refine ⟨fun c => absurd c (by simp), fun _ => ?_⟩
      refine Loop.fam [0, 4, 6, 73, 74] (frSt0 f t) (fun j => (j : Int) ≤ t) (fun j => t.toNat - j) 0 [0, 1, 2] (by simp) (by simp) (by simp only [State.can, AV.can, AV.canL, HO.can, Z14, idx, Z01, Z00, Heap.at, Nat.reduceBEq, ↓reduceIte, Nat.reduceEqDiff, Option.getD_some, Option.map_some, List.map_cons, List.map_nil, List.getD_cons_zero, List.getD_cons_succ, frSt0, nobj]) (by show (0 : Int) ≤ t; omega) ?_
      intro j hj
      have hj : (j : Int) ≤ t := hj
      cases j with
      | zero =>
        simp (maxSteps := 3000000) only [↓Z0k, ↓Z0x, ↓Z1c, ↓Z02, ↓Z0i, ↓Z0j, ↓Z0c, ↓Z06, ↓Z0h, ↓Z1o, ↓Z1h, ↓Z1b, ↓Z0g, ↓Z1a, ↓famK_n, ↓Z26, ↓Z0a, Z1g, Z05, Z10, Z0s, Z0v, evN, Z11, Z0f, Z0u, Z1u, Z0e, Z09, Z0d, Z0q, evT, Opd.ev, Z01, Z00, Z0t, Z1q, Z17, Z0o, Z0r, Z07, Z16, LOp.isNew, State.prune, Z19, Z13, AV.leaf, Heap.at, Z08, Z04, Z0b, Z03, Int.toNat_natCast, Z2i, evAppend, srcOf, Src.all, Src.len, Src.leaf, joinV, mkVec, drows, List.take_of_length_le, Nat.sub_zero, Z1r, Z20, Z1s, binT, binQ, chk, Z1y, List.contains_cons, List.contains_nil, Bool.or_false, Bool.and_self, resQ, resV, resT, Z0z, Z1e, fnOf, Z1d, Z23, buildRQ, buildRT, List.mem_cons, List.not_mem_nil, or_false, forall_eq, putRow, dcells, Z0n, Nat.le_refl, ↓reduceIte, Nat.reduceAdd, Nat.reduceBEq, List.length_cons, List.length_nil, List.replicate_succ, List.replicate_zero, List.nil_append, List.cons_append, List.append_nil, List.map_cons, List.map_nil, List.all_cons, List.all_nil, List.set_cons_zero, List.set_cons_succ, List.getD_cons_zero, List.getD_cons_succ, List.drop_zero, List.drop_succ_cons, List.take_succ_cons, List.take_zero, List.flatten_cons, List.flatten_nil, Bool.true_and, Bool.not_false, true_and, or_true, Option.bind_some, Option.map_some, false_implies, implies_true, and_self, Nat.reduceLT, List.reverse_cons, List.reverse_nil, Nat.zero_add, Nat.add_zero, Bool.false_eq_true, frSt0, nobj, F2, G2, at_begin, Z04, Z03]
        refine ⟨fun c => ⟨⟨by omega, by omega⟩, Z1t (by omega) (by omega), Z0l.mk [0, 1, 2, 5] 1 (by simp) (by simp) (by simp only [State.can, AV.can, AV.canL, HO.can, Z14, idx, Z01, Z00, Heap.at, Nat.reduceBEq, ↓reduceIte, Nat.reduceEqDiff, Option.getD_some, Option.map_some, List.map_cons, List.map_nil, List.getD_cons_zero, List.getD_cons_succ, frSt0, nobj]; rfl) (by show ((1 : Nat) : Int) ≤ t; omega) (by show t.toNat - 1 < t.toNat; omega)⟩, fun c => absurd (by omega) c⟩
      | succ j =>
        simp (maxSteps := 3000000) only [↓Z0k, ↓Z0x, ↓Z1c, ↓Z02, ↓Z0i, ↓Z0j, ↓Z0c, ↓Z06, ↓Z0h, ↓Z1o, ↓Z1h, ↓Z1b, ↓Z0g, ↓Z1a, ↓famK_n, ↓Z26, ↓Z0a, Z1g, Z05, Z10, Z0s, Z0v, evN, Z11, Z0f, Z0u, Z1u, Z0e, Z09, Z0d, Z0q, evT, Opd.ev, Z01, Z00, Z0t, Z1q, Z17, Z0o, Z0r, Z07, Z16, LOp.isNew, State.prune, Z19, Z13, AV.leaf, Heap.at, Z08, Z04, Z0b, Z03, Int.toNat_natCast, Z2i, evAppend, srcOf, Src.all, Src.len, Src.leaf, joinV, mkVec, drows, List.length_map, List.take_of_length_le, Z1r, Z20, Z1s, binT, binQ, chk, Z1y, List.contains_cons, List.contains_nil, Bool.or_false, Bool.and_self, resQ, resV, resT, Z0z, Z1e, fnOf, Z1d, Z23, buildRQ, buildRT, List.mem_cons, List.not_mem_nil, or_false, forall_eq, putRow, dcells, Z0n, Nat.le_refl, ↓reduceIte, Nat.reduceAdd, Nat.reduceBEq, List.length_cons, List.length_nil, List.replicate_succ, List.replicate_zero, List.nil_append, List.cons_append, List.append_nil, List.map_cons, List.map_nil, List.all_cons, List.all_nil, List.set_cons_zero, List.set_cons_succ, List.getD_cons_zero, List.getD_cons_succ, List.drop_zero, List.drop_succ_cons, List.take_succ_cons, List.take_zero, List.flatten_cons, List.flatten_nil, Bool.true_and, Bool.not_false, true_and, Option.bind_some, Option.map_some, and_self, Nat.reduceLT, List.reverse_cons, List.reverse_nil, Nat.zero_add, Nat.add_zero, Bool.false_eq_true, frSt0, nobj, F2, G2, at_begin, Z04, Z03, frontX_len]
        have ew : IntKind.i64.wrap (((j + 1 : Nat) : Int) + 1) = ((j + 2 : Nat) : Int) := by
          have := @Z12 (j + 1) 4 (by omega) (by unfold maxLen; omega)
          exact this
        refine ⟨fun c => ⟨⟨by omega, by omega⟩, Z1t (by omega) (by omega), ?_⟩, fun c => ?_⟩
        · rw [ew]
          refine Z0l.mk [0, 1, 2, 6] (j + 2) (by simp) (by simp) ?_ (by show ((j + 2 : Nat) : Int) ≤ t; omega) (by show t.toNat - (j + 2) < t.toNat - (j + 1); omega)
          simp only [State.can, AV.can, AV.canL, HO.can, Z14, idx, Z01, Z00, Heap.at, Nat.reduceBEq, ↓reduceIte, Nat.reduceEqDiff, Option.getD_some, Option.map_some, List.map_cons, List.map_nil, List.getD_cons_zero, List.getD_cons_succ, frSt0, nobj, frontX_succ 0 (j + 1)]
        · have et : t.toNat = j + 1 := by omega
          rw [← hX, ok1, ok2, et]
          simp only [RetD, AV.frz, AV.frzL, Heap.at, List.getD_cons_zero, List.getD_cons_succ, Nat.zero_add, Nat.le_refl, List.length_map, List.length_nil, frontX_len, and_self, if_true, List.drop_zero, take_mapF, List.take_length, Nat.le_zero_eq, frontX_take]
          rfl
    | succ i =>
      have hlt : List.take (i + 1) l = l := by rw [hil]; exact List.take_length
      have htk : ∀ {β : Type} (g : LocG → β), List.take l.length (List.map g l) = List.map g l := fun g => List.take_of_length_le (by rw [List.length_map]; omega)
      simp (maxSteps := 3000000) only [↓Z0k, ↓Z1c, ↓Z02, ↓Z0i, ↓Z0j, ↓Z0c, ↓Z1n, ↓Z06, ↓Z0h, ↓Z1o, ↓Z1b, ↓Z0g, ↓Z26, ↓Z0a, Z1g, Z05, Z0s, Z0v, evN, Z0f, Z0u, Z1u, Z0e, Z09, Z0d, Z0q, evT, Opd.ev, Z01, Z00, Z0t, Z1q, Z17, Z0o, Z0r, Z07, Z16, LOp.isNew, State.prune, Z19, Z13, AV.leaf, Heap.at, Z08, Z15, Z04, idx_Loc, Z0b, Z03, LocG.row, Z1z, Int.toNat_natCast, evAppend, srcOf, Src.all, Src.len, Src.leaf, joinV, mkVec, drows, List.length_map, take_mapF, List.take_of_length_le, Z1r, Z20, Z1s, binT, binQ, Bool.and_self, buildQ, buildT, buildRQ, buildRT, putRow, dcells, Z0n, Nat.le_refl, ↓reduceIte, Nat.reduceAdd, Nat.reduceBEq, List.length_cons, List.length_nil, List.replicate_succ, List.replicate_zero, List.nil_append, List.cons_append, List.append_nil, List.map_cons, List.map_nil, List.all_cons, List.all_nil, List.set_cons_zero, List.set_cons_succ, List.getD_cons_zero, List.getD_cons_succ, List.drop_zero, List.drop_succ_cons, List.take_succ_cons, List.take_zero, true_and, Option.bind_some, Option.map_some, and_self, Nat.reduceLT, Nat.reduceLeDiff, Nat.zero_add, Nat.add_zero, Bool.false_eq_true, newSt, Z04, Z03, Option.bind_none, hlt]
      refine ⟨fun c => absurd c (by omega), fun _ => ?_⟩
      refine Loop.fam [0, 4, 6, 73, 74] (frSt l f t) (fun j => (j : Int) ≤ t) (fun j => t.toNat - j) 0 [0, 1, 2, 3, 4, 5] (by simp) (by simp) (by simp only [State.can, AV.can, AV.canL, HO.can, Z14, idx, Z01, Z00, Heap.at, Nat.reduceBEq, ↓reduceIte, Nat.reduceEqDiff, Option.getD_some, Option.map_some, List.map_cons, List.map_nil, List.getD_cons_zero, List.getD_cons_succ, frSt, nobj, hil]) (by show (0 : Int) ≤ t; omega) ?_
      intro j hj
      have hj : (j : Int) ≤ t := hj
      cases j with
      | zero =>
        simp (maxSteps := 3000000) only [↓Z0k, ↓Z0x, ↓Z1c, ↓Z02, ↓Z0i, ↓Z0j, ↓Z0c, ↓Z06, ↓Z0h, ↓Z1o, ↓Z1h, ↓Z1b, ↓Z0g, ↓Z1a, ↓famK_n, ↓Z26, ↓Z0a, Z1g, Z05, Z10, Z0s, Z0v, evN, Z11, Z0f, Z0u, Z1u, Z0e, Z09, Z0d, Z0q, evT, Opd.ev, Z01, Z00, Z0t, Z1q, Z17, Z0o, Z0r, Z07, Z16, LOp.isNew, State.prune, Z19, Z13, AV.leaf, Heap.at, Z08, Z04, Z0b, Z03, Int.toNat_natCast, Z2i, evAppend, srcOf, Src.all, Src.len, Src.leaf, joinV, mkVec, drows, List.length_map, List.take_of_length_le, Nat.sub_zero, Z1r, Z20, Z1s, binT, binQ, chk, Z1y, List.contains_cons, List.contains_nil, Bool.or_false, Bool.and_self, resQ, resV, resT, Z0z, Z1e, fnOf, Z1d, Z23, buildRQ, buildRT, List.mem_cons, List.not_mem_nil, or_false, forall_eq, putRow, dcells, Z0n, Nat.le_refl, ↓reduceIte, Nat.reduceAdd, Nat.reduceBEq, List.length_cons, List.length_nil, List.replicate_succ, List.replicate_zero, List.nil_append, List.cons_append, List.append_nil, List.map_cons, List.map_nil, List.all_cons, List.all_nil, List.set_cons_zero, List.set_cons_succ, List.getD_cons_zero, List.getD_cons_succ, List.drop_zero, List.drop_succ_cons, List.take_succ_cons, List.take_zero, List.flatten_cons, List.flatten_nil, Bool.true_and, Bool.not_false, true_and, or_true, Option.bind_some, Option.map_some, false_implies, implies_true, and_self, Nat.reduceLT, List.reverse_cons, List.reverse_nil, Nat.zero_add, Nat.add_zero, Bool.false_eq_true, frSt, nobj, F2, G2, at_begin, Z04, Z03]
        refine ⟨fun c => ⟨⟨by omega, by omega⟩, Z1t (by omega) (by omega), Z0l.mk [0, 1, 2, 3, 4, 5, 8] 1 (by simp) (by simp) (by simp only [State.can, AV.can, AV.canL, HO.can, Z14, idx, Z01, Z00, Heap.at, Nat.reduceBEq, ↓reduceIte, Nat.reduceEqDiff, Option.getD_some, Option.map_some, List.map_cons, List.map_nil, List.getD_cons_zero, List.getD_cons_succ, frSt, nobj]; rfl) (by show ((1 : Nat) : Int) ≤ t; omega) (by show t.toNat - 1 < t.toNat; omega)⟩, fun c => absurd (by omega) c⟩
      | succ j =>
        simp (maxSteps := 3000000) only [↓Z0k, ↓Z0x, ↓Z1c, ↓Z02, ↓Z0i, ↓Z0j, ↓Z0c, ↓Z06, ↓Z0h, ↓Z1o, ↓Z1h, ↓Z1b, ↓Z0g, ↓Z1a, ↓famK_n, ↓Z26, ↓Z0a, Z1g, Z05, Z10, Z0s, Z0v, evN, Z11, Z0f, Z0u, Z1u, Z0e, Z09, Z0d, Z0q, evT, Opd.ev, Z01, Z00, Z0t, Z1q, Z17, Z0o, Z0r, Z07, Z16, LOp.isNew, State.prune, Z19, Z13, AV.leaf, Heap.at, Z08, Z04, Z0b, Z03, Int.toNat_natCast, Z2i, evAppend, srcOf, Src.all, Src.len, Src.leaf, joinV, mkVec, drows, List.length_map, List.take_of_length_le, Z1r, Z20, Z1s, binT, binQ, chk, Z1y, List.contains_cons, List.contains_nil, Bool.or_false, Bool.and_self, resQ, resV, resT, Z0z, Z1e, fnOf, Z1d, Z23, buildRQ, buildRT, List.mem_cons, List.not_mem_nil, or_false, forall_eq, putRow, dcells, Z0n, Nat.le_refl, ↓reduceIte, Nat.reduceAdd, Nat.reduceBEq, List.length_cons, List.length_nil, List.replicate_succ, List.replicate_zero, List.nil_append, List.cons_append, List.append_nil, List.map_cons, List.map_nil, List.all_cons, List.all_nil, List.set_cons_zero, List.set_cons_succ, List.getD_cons_zero, List.getD_cons_succ, List.drop_zero, List.drop_succ_cons, List.take_succ_cons, List.take_zero, List.flatten_cons, List.flatten_nil, Bool.true_and, Bool.not_false, true_and, Option.bind_some, Option.map_some, and_self, Nat.reduceLT, List.reverse_cons, List.reverse_nil, Nat.zero_add, Nat.add_zero, Bool.false_eq_true, frSt, nobj, F2, G2, at_begin, Z04, Z03, frontX_len]
        have ew : IntKind.i64.wrap (((j + 1 : Nat) : Int) + 1) = ((j + 2 : Nat) : Int) := by
          have := @Z12 (j + 1) 4 (by omega) (by unfold maxLen; omega)
          exact this
        refine ⟨fun c => ⟨⟨by omega, by omega⟩, Z1t (by omega) (by omega), ?_⟩, fun c => ?_⟩
        · rw [ew]
          refine Z0l.mk [0, 1, 2, 3, 4, 5, 9] (j + 2) (by simp) (by simp) ?_ (by show ((j + 2 : Nat) : Int) ≤ t; omega) (by show t.toNat - (j + 2) < t.toNat - (j + 1); omega)
          simp only [State.can, AV.can, AV.canL, HO.can, Z14, idx, Z01, Z00, Heap.at, Nat.reduceBEq, ↓reduceIte, Nat.reduceEqDiff, Option.getD_some, Option.map_some, List.map_cons, List.map_nil, List.getD_cons_zero, List.getD_cons_succ, frSt, nobj, frontX_succ l.length (j + 1)]
        · have et : t.toNat = j + 1 := by omega
          rw [← hX, ok1, ok2, et]
          simp only [RetD, AV.frz, AV.frzL, Heap.at, List.getD_cons_zero, List.getD_cons_succ, Nat.zero_add, Nat.le_refl, List.length_map, List.length_nil, frontX_len, and_self, if_true, List.drop_zero, take_mapF, List.take_length, Nat.le_zero_eq, frontX_take, htk]
          rfl
end Go.Ago

/- The laws of layer 1, as bodies that answer true. Conditions: none. -/
set_option maxRecDepth 100000
set_option linter.unusedSimpArgs false
set_option linter.unusedVariables false
namespace Go.Ago


/-! ### The plain laws -/
theorem cmp_eq {a b c d : Int} (h1 : Z22 a b = true) (h2 : Z22 c d = true) : rat_cmp a b c d = sgn (a * d - c * b) := by simp [rat_cmp, h1, h2]

theorem sgn_mul {d x : Int} (h : 0 < d) : sgn (d * x) = sgn x := by
  unfold sgn
  rcases Int.lt_trichotomy x 0 with hx | hx | hx
  · have := Int.mul_neg_of_pos_of_neg h hx
    rw [if_pos this, if_pos hx]
  · subst hx; simp
  · have := Int.mul_pos h hx
    rw [if_neg (by omega), if_pos this, if_neg (by omega), if_pos hx]

theorem sgn_nonpos {x : Int} : sgn x ≤ 0 ↔ x ≤ 0 := by unfold sgn; split <;> (try split) <;> omega
theorem sgn_zero {x : Int} : sgn x = 0 ↔ x = 0 := by unfold sgn; split <;> (try split) <;> omega
/-- From a first to a second to a third. -/
theorem cross {a b c d e f : Int} (hb : 0 < b) (hd : 0 < d) (hf : 0 < f) (h1 : a * d ≤ c * b) (h2 : c * f ≤ e * d) : a * f ≤ e * b := by
  have e1 : a * d * f ≤ c * b * f := Int.mul_le_mul_of_nonneg_right h1 (by omega)
  have e2 : c * f * b ≤ e * d * b := Int.mul_le_mul_of_nonneg_right h2 (by omega)
  have e3 : c * b * f = c * f * b := by rw [Int.mul_assoc, Int.mul_comm b f, ← Int.mul_assoc]
  have e4 : a * d * f = d * (a * f) := by rw [Int.mul_comm a d, Int.mul_assoc]
  have e5 : e * d * b = d * (e * b) := by rw [Int.mul_comm e d, Int.mul_assoc]
  exact Int.le_of_mul_le_mul_left (by omega : d * (a * f) ≤ d * (e * b)) hd

theorem cmp_alike {a b c d e f : Int} (h1 : Z22 a b = true) (h2 : Z22 c d = true) (h3 : Z22 e f = true) (h : rat_cmp a b c d = 0) : rat_cmp a b e f = rat_cmp c d e f := by
  obtain ⟨r1, r2, r3, r4⟩ := right_iff.1 h1
  obtain ⟨s1, s2, s3, s4⟩ := right_iff.1 h2
  rw [cmp_eq h1 h2, sgn_zero] at h
  rw [cmp_eq h1 h3, cmp_eq h2 h3, ← sgn_mul (d := d) (x := a * f - e * b) (by omega), ← sgn_mul (d := b) (x := c * f - e * d) (by omega)]
  congr 1
  have e1 : d * (a * f) = f * (a * d) := by rw [← Int.mul_assoc, Int.mul_comm d a, Int.mul_comm]
  have e2 : b * (c * f) = f * (c * b) := by rw [← Int.mul_assoc, Int.mul_comm b c, Int.mul_comm]
  have e3 : d * (e * b) = b * (e * d) := by rw [Int.mul_comm d, Int.mul_comm b, Int.mul_assoc, Int.mul_assoc, Int.mul_comm b]
  have e4 : a * d = c * b := by omega
  rw [Int.mul_sub, Int.mul_sub, e1, e2, e3, e4]

/-- A moment and what it is lessened to. -/
theorem least_spec {a b : Int} (h : Z22 a b = true) : ∃ g A B, 0 < g ∧ 0 < B ∧ Z1w a b = (A, B) ∧ a = g * A ∧ b = g * B ∧ Nat.gcd A.natAbs B.natAbs = 1 := by
  obtain ⟨r1, r2, r3, r4⟩ := right_iff.1 h
  have g0 := gcdI_pos (a := a) (b := b) (by omega)
  have ha : gcdI a b ∣ a := Int.ofNat_dvd_left.2 (Nat.gcd_dvd_left _ _)
  have hbd : gcdI a b ∣ b := Int.ofNat_dvd_left.2 (Nat.gcd_dvd_right _ _)
  have hl : Z1w a b = (a.tdiv (gcdI a b), b.tdiv (gcdI a b)) := by simp [Z1w, h]
  have hg : gcdI a b = (Nat.gcd a.natAbs b.natAbs : Nat) := rfl
  rw [hl]
  generalize gcdI a b = g at *
  obtain ⟨A, rfl⟩ := ha
  obtain ⟨B, rfl⟩ := hbd
  refine ⟨g, A, B, g0, ?_, by rw [Int.mul_tdiv_cancel_left _ (by omega), Int.mul_tdiv_cancel_left _ (by omega)], rfl, rfl, ?_⟩
  · by_cases h : 0 < B
    · exact h
    · have := Int.mul_nonpos_of_nonneg_of_nonpos (Int.le_of_lt g0) (show B ≤ 0 by omega); omega
  · rw [Int.natAbs_mul, Int.natAbs_mul, Nat.gcd_mul_left] at hg
    have : g.natAbs * Nat.gcd A.natAbs B.natAbs = g.natAbs * 1 := by
      have : ((g.natAbs * Nat.gcd A.natAbs B.natAbs : Nat) : Int) = (g.natAbs : Nat) := by rw [← hg]; omega
      omega
    exact Nat.eq_of_mul_eq_mul_left (by omega) this

theorem least_right {a b : Int} (h : Z22 a b = true) : Z22 (Z1w a b).1 (Z1w a b).2 = true := by
  obtain ⟨r1, r2, r3, r4⟩ := right_iff.1 h
  obtain ⟨l1, l2, l3⟩ := least_bd h
  exact right_iff.2 ⟨by omega, by omega, by omega, by omega⟩

theorem least_cmp {a b : Int} (h : Z22 a b = true) : rat_cmp (Z1w a b).1 (Z1w a b).2 a b = 0 := by
  rw [cmp_eq (least_right h) h, sgn_zero]
  obtain ⟨g, A, B, hg, hB, hl, ha, hb, _⟩ := least_spec h
  rw [hl]
  show A * b - a * B = 0
  rw [ha, hb, Int.mul_comm g A, Int.mul_assoc]; omega

theorem least_one {a b c d : Int} (h1 : Z22 a b = true) (h2 : Z22 c d = true) : rat_cmp a b c d = 0 ↔ Z1w a b = Z1w c d := by
  have k1 := least_cmp h1
  have k2 := least_cmp h2
  obtain ⟨g, A, B, hg, hB, hl, ha, hb, hc⟩ := least_spec h1
  obtain ⟨g', C, D, hg', hD, hl', ha', hb', hc'⟩ := least_spec h2
  constructor
  · intro h
    rw [cmp_eq h1 h2, sgn_zero] at h
    rw [hl, hl']
    have h3 : g * g' * (A * D) = g * g' * (C * B) := by
      have e1 : a * d = g * g' * (A * D) := by rw [ha, hb', Int.mul_assoc, Int.mul_assoc, Int.mul_left_comm A]
      have e2 : c * b = g * g' * (C * B) := by rw [ha', hb, Int.mul_comm (g' * C), Int.mul_assoc, Int.mul_assoc, Int.mul_left_comm B, Int.mul_comm B]
      omega
    have hgg := Int.mul_pos hg hg'
    have h4 : A * D = C * B := Int.eq_of_mul_eq_mul_left (by omega) h3
    have d1 : B ∣ D := by
      have : B ∣ A * D := ⟨C, by rw [h4, Int.mul_comm]⟩
      have := Int.natAbs_dvd_natAbs.2 this
      rw [Int.natAbs_mul] at this
      exact Int.natAbs_dvd_natAbs.1 (Nat.Coprime.dvd_of_dvd_mul_left (by rw [Nat.Coprime, Nat.gcd_comm]; exact hc) this)
    have d2 : D ∣ B := by
      have : D ∣ C * B := ⟨A, by rw [← h4, Int.mul_comm]⟩
      have := Int.natAbs_dvd_natAbs.2 this
      rw [Int.natAbs_mul] at this
      exact Int.natAbs_dvd_natAbs.1 (Nat.Coprime.dvd_of_dvd_mul_left (by rw [Nat.Coprime, Nat.gcd_comm]; exact hc') this)
    have hBD : B = D := Int.le_antisymm (Int.le_of_dvd hD d1) (Int.le_of_dvd hB d2)
    subst hBD
    have : A = C := Int.eq_of_mul_eq_mul_right (by omega) h4
    rw [this]
  · intro h
    rw [cmp_eq h1 h2, sgn_zero]
    rw [hl, hl'] at h
    cases h
    have e1 : a * d = g * g' * (A * B) := by rw [ha, hb', Int.mul_assoc, Int.mul_assoc, Int.mul_left_comm A]
    have e2 : c * b = g * g' * (A * B) := by rw [ha', hb, Int.mul_comm (g' * A), Int.mul_assoc, Int.mul_assoc, Int.mul_left_comm B, Int.mul_comm B]
    omega

end Go.Ago

/- Memories in plain words: what a step Z16. Conditions: none. -/
set_option maxRecDepth 100000
set_option linter.unusedSimpArgs false
set_option linter.unusedVariables false
namespace Go.Ago
/-! ### Moments -/
theorem rightQ_iff {a : RatG} : Z29 a = true ↔ 1 ≤ a.den ∧ a.den ≤ 1024 ∧ -1048576 ≤ a.num ∧ a.num ≤ 1048576 := right_iff
theorem cmpQ_eq {a b : RatG} (h1 : Z29 a = true) (h2 : Z29 b = true) : cmpQ' a b = sgn (a.num * b.den - b.num * a.den) := cmp_eq h1 h2
theorem cmpQ_anti (a b : RatG) : cmpQ' b a = - cmpQ' a b := cmp_swap _ _ _ _
theorem cmpQ_self (a : RatG) : cmpQ' a a = 0 := by have := cmpQ_anti a a; omega
theorem cmpQ_le {a b : RatG} (h1 : Z29 a = true) (h2 : Z29 b = true) : cmpQ' a b ≤ 0 ↔ a.num * b.den ≤ b.num * a.den := by
  rw [cmpQ_eq h1 h2, sgn_nonpos]; omega
theorem cmpQ_trans {a b c : RatG} (h1 : Z29 a = true) (h2 : Z29 b = true) (h3 : Z29 c = true) (h : cmpQ' a b ≤ 0) (h' : cmpQ' b c ≤ 0) : cmpQ' a c ≤ 0 := by
  rw [cmpQ_le h1 h2] at h; rw [cmpQ_le h2 h3] at h'; rw [cmpQ_le h1 h3]
  have r1 := rightQ_iff.1 h1; have r2 := rightQ_iff.1 h2; have r3 := rightQ_iff.1 h3
  exact cross (by omega) (by omega) (by omega) h h'
theorem cmpQ_lt_le {a b c : RatG} (h1 : Z29 a = true) (h2 : Z29 b = true) (h3 : Z29 c = true) (h : cmpQ' a b < 0) (h' : cmpQ' b c ≤ 0) : cmpQ' a c < 0 := by
  by_cases hc : cmpQ' a c < 0
  · exact hc
  · have := cmpQ_trans h2 h3 h1 h' (by rw [cmpQ_anti]; omega)
    rw [cmpQ_anti] at this; omega
theorem leastQ_right {a : RatG} (h : Z29 a = true) : Z29 (leastQ a) = true := least_right h
theorem leastQ_cmp {a : RatG} (h : Z29 a = true) : cmpQ' (leastQ a) a = 0 := least_cmp h
theorem cmpQ_alike {a b c : RatG} (h1 : Z29 a = true) (h2 : Z29 b = true) (h3 : Z29 c = true) (h : cmpQ' a b = 0) : cmpQ' a c = cmpQ' b c := cmp_alike h1 h2 h3 h
theorem cmpQ_alike' {a b c : RatG} (h1 : Z29 a = true) (h2 : Z29 b = true) (h3 : Z29 c = true) (h : cmpQ' a b = 0) : cmpQ' c a = cmpQ' c b := by
  rw [cmpQ_anti, cmpQ_anti b c, cmpQ_alike h1 h2 h3 h]
theorem ratMaxG_eq (x y : RatG) : ratMaxG x y = if cmpQ' x y < 0 then y else x := by
  unfold ratMaxG rat_max cmpQ'; split <;> rfl
theorem ratMaxG_right {x y : RatG} (h1 : Z29 x = true) (h2 : Z29 y = true) : Z29 (ratMaxG x y) = true := by rw [ratMaxG_eq]; split <;> assumption
/-! ### Stamps by rising moments -/
structure Rising (l : List StampG) : Prop where
  right : ∀ s ∈ l, Z29 s.when = true
  rise : l.Pairwise fun s t => cmpQ' s.when t.when < 0
theorem bsGo_split {p : Nat → Bool} {n : Nat} (hp : ∀ i j, i ≤ j → j < n → p j = true → p i = true) : ∀ (f i j : Nat), i ≤ j → j ≤ n → j - i ≤ f → (∀ k, k < i → p k = true) → (∀ k, j ≤ k → k < n → p k = false) →
    (∀ k, k < bsGo p f i j → p k = true) ∧ (∀ k, bsGo p f i j ≤ k → k < n → p k = false) := by
  intro f
  induction f with
  | zero =>
    intro i j hij hjn hf h1 h2
    have : i = j := by omega
    subst this
    exact ⟨h1, h2⟩
  | succ f ih =>
    intro i j hij hjn hf h1 h2
    simp only [bsGo]
    split
    · rename_i hlt
      split
      · rename_i hm
        refine ih _ _ (by omega) hjn (by omega) (fun k hk => ?_) h2
        exact hp k _ (by omega) (by omega) hm
      · rename_i hm
        refine ih _ _ (by omega) (by omega) (by omega) h1 (fun k hk hn => ?_)
        by_cases hk2 : p k = true
        · exact absurd (hp _ _ hk hn hk2) hm
        · simpa using hk2
    · have : i = j := by omega
      subst this
      exact ⟨h1, h2⟩
theorem Rising.get {l : List StampG} (h : Rising l) {i : Nat} (hi : i < l.length) : Z29 (l.getD i default).when = true := by
  rw [Z28 hi]; exact h.right _ (List.getElem_mem _)
theorem Rising.lt {l : List StampG} (h : Rising l) {i j : Nat} (hij : i < j) (hj : j < l.length) : cmpQ' (l.getD i default).when (l.getD j default).when < 0 := by
  rw [Z28 hj, Z28 (by omega : i < l.length)]
  exact List.pairwise_iff_getElem.1 h.rise i j (by omega) hj hij
theorem bs_split {l : List StampG} {w : RatG} (h : Rising l) (hw : Z29 w = true) : (∀ k, k < bsAt l w → cmpQ' (l.getD k default).when w < 0) ∧ (∀ k, bsAt l w ≤ k → k < l.length → 0 ≤ cmpQ' (l.getD k default).when w) := by
  have hs : ∀ k, stampLess l w k = decide (cmpQ' (l.getD k default).when w < 0) := fun _ => rfl
  have := bsGo_split (p := stampLess l w) (n := l.length) (fun i j hij hj hp => by
    rw [hs] at hp ⊢
    simp only [decide_eq_true_eq] at hp ⊢
    rcases Nat.lt_or_eq_of_le hij with h' | h'
    · exact cmpQ_lt_le (h.get (by omega)) (h.get hj) hw (h.lt h' hj) (by omega)
    · rw [h']; exact hp) l.length 0 l.length (by omega) (by omega) (by omega) (by omega) (by omega)
  refine ⟨fun k hk => ?_, fun k hk hk2 => ?_⟩
  · have := this.1 k hk
    rw [hs] at this; simpa using this
  · have := this.2 k hk hk2
    rw [hs] at this; simpa using this
theorem bsHas_true {l : List StampG} {w : RatG} (hb : bsHas l w = true) : bsAt l w < l.length ∧ cmpQ' (l.getD (bsAt l w) default).when w = 0 := by
  unfold bsHas at hb
  simp only [Bool.and_eq_true, decide_eq_true_eq] at hb
  exact hb
theorem bsHas_of {l : List StampG} {w : RatG} (h : Rising l) (hw : Z29 w = true) {k : Nat} (hk : k < l.length) (hc : cmpQ' (l.getD k default).when w = 0) : bsHas l w = true ∧ bsAt l w = k := by
  obtain ⟨h1, h2⟩ := bs_split h hw
  have hle : bsAt l w ≤ k := by
    by_cases hlt : k < bsAt l w
    · have := h1 k hlt; omega
    · omega
  have he : bsAt l w = k := by
    rcases Nat.lt_or_eq_of_le hle with hlt | he
    · have g1 := h2 _ (Nat.le_refl _) (by omega)
      have g2 := cmpQ_lt_le (h.get (by omega)) (h.get hk) hw (h.lt hlt hk) (by omega)
      omega
    · exact he
  refine ⟨?_, he⟩
  unfold bsHas
  rw [he]
  simp only [Bool.and_eq_true, decide_eq_true_eq]
  exact ⟨hk, hc⟩
theorem bsHas_false {l : List StampG} {w : RatG} (h : Rising l) (hw : Z29 w = true) (hb : bsHas l w = false) {k : Nat} (hk : k < l.length) : cmpQ' (l.getD k default).when w ≠ 0 := fun hc => by
  rw [(bsHas_of h hw hk hc).1] at hb; cases hb
theorem mem_getD {α : Type} [Inhabited α] {l : List α} {x : α} (h : x ∈ l) : ∃ k, k < l.length ∧ l.getD k default = x := by
  obtain ⟨k, hk, rfl⟩ := List.getElem_of_mem h
  exact ⟨k, hk, Z28 hk⟩
theorem ins_rising {l : List StampG} {w : RatG} {v : Int} (h : Rising l) (hw : Z29 w = true) (hb : bsHas l w = false) : Rising (insG l (bsAt l w) ⟨leastQ w, v⟩) := by
  obtain ⟨h1, h2⟩ := bs_split h hw
  have hl := leastQ_right hw
  have hc := leastQ_cmp hw
  have hle := bsAt_le l w
  have pre : ∀ s ∈ l.take (bsAt l w), Z29 s.when = true ∧ cmpQ' s.when (leastQ w) < 0 := fun s hs => by
    obtain ⟨k, hk, rfl⟩ := mem_getD hs
    rw [List.length_take] at hk
    have e : (List.take (bsAt l w) l).getD k default = l.getD k default := by
      rw [Z28 (by rw [List.length_take]; exact hk), Z28 (by omega : k < l.length), List.getElem_take]
    rw [e]
    have r := h.get (show k < l.length by omega)
    exact ⟨r, by rw [cmpQ_alike' hl hw r hc]; exact h1 k (by omega)⟩
  have post : ∀ s ∈ l.drop (bsAt l w), Z29 s.when = true ∧ cmpQ' (leastQ w) s.when < 0 := fun s hs => by
    obtain ⟨k, hk, rfl⟩ := mem_getD hs
    rw [List.length_drop] at hk
    have e : (List.drop (bsAt l w) l).getD k default = l.getD (bsAt l w + k) default := by
      rw [Z28 (by rw [List.length_drop]; exact hk), Z28 (by omega : bsAt l w + k < l.length), List.getElem_drop]
    rw [e]
    have hk' : bsAt l w + k < l.length := by omega
    have r := h.get hk'
    have g1 := h2 _ (Nat.le_add_right _ k) hk'
    have g2 := bsHas_false h hw hb hk'
    exact ⟨r, by rw [cmpQ_alike hl hw r hc, cmpQ_anti]; omega⟩
  refine ⟨fun s hs => ?_, ?_⟩
  · unfold insG at hs
    rcases List.mem_append.1 hs with hs | hs
    · exact (pre s hs).1
    · rcases List.mem_cons.1 hs with rfl | hs
      · exact hl
      · exact (post s hs).1
  · unfold insG
    rw [List.pairwise_append]
    refine ⟨h.rise.sublist (List.take_sublist _ _), List.pairwise_cons.2 ⟨fun s hs => (post s hs).2, h.rise.sublist (List.drop_sublist _ _)⟩, fun a ha b hb' => ?_⟩
    rcases List.mem_cons.1 hb' with rfl | hb'
    · exact (pre a ha).2
    · exact cmpQ_lt_le (pre a ha).1 hl (post b hb').1 (pre a ha).2 (Int.le_of_lt (post b hb').2)
/-! ### Memories in order -/
structure Mem.Good (b : Nat) (m : Mem) : Prop where
  wf : m.Wf b
  rising : ∀ r ∈ m.past, Rising r
  frontsR : ∀ r ∈ m.fronts, ∀ q ∈ r, Z29 q = true
  marksR : ∀ r ∈ m.marks, ∀ q ∈ r, Z29 q = true
theorem Mem.Wf.mono {b b' : Nat} {m : Mem} (h : m.Wf b) (hb : b ≤ b') : m.Wf b' := ⟨h.locs, h.past, h.vals, h.marks, h.fronts, fun r hr => Nat.le_trans (h.pasts r hr) hb, h.marksL, h.marksA, h.frontsL⟩
theorem Mem.Good.mono {b b' : Nat} {m : Mem} (h : m.Good b) (hb : b ≤ b') : m.Good b' := ⟨h.wf.mono hb, h.rising, h.frontsR, h.marksR⟩
theorem good_iff {m : Mem} {s : StepG} : goodQ m s = true ↔ 0 ≤ s.thread ∧ s.thread < m.fronts.length ∧ s.act.right m.locs = true ∧ (isPl s.act.kind = true → Z29 s.when = true) ∧ (isPl s.act.kind = false → s.when = ⟨0, 0⟩) := by
  unfold goodQ
  cases h : isPl s.act.kind <;> simp [and_assoc]
theorem doErr_good {m : Mem} {s : StepG} (h : Z2a m s = 0) : goodQ m s = true := by
  unfold Z2a at h
  split at h
  · cases h
  · rename_i hg; simpa using hg
theorem joinG_get {a b : List RatG} {k : Nat} (h : k < a.length) : (joinG a b).getD k default = ratMaxG (a.getD k default) (b.getD k default) := by
  rw [Z28 (by rw [joinG_len]; exact h)]; unfold joinG; simp
theorem joinG_right {a b : List RatG} (hl : a.length ≤ b.length) (ha : ∀ q ∈ a, Z29 q = true) (hb : ∀ q ∈ b, Z29 q = true) : ∀ q ∈ joinG a b, Z29 q = true := by
  intro q hq
  obtain ⟨k, hk, rfl⟩ := mem_getD hq
  rw [joinG_len] at hk
  rw [joinG_get hk, Z28 hk, Z28 (by omega : k < b.length)]
  exact ratMaxG_right (ha _ (List.getElem_mem _)) (hb _ (List.getElem_mem _))
theorem right_locQ {k o q v : Int} {l : List LocG} (hk : isPl k = true ∨ isAt k = true) (h : ActG.right ⟨k, o, q, v⟩ l = true) : 0 ≤ o ∧ o < l.length :=
  right_bounds (by rintro rfl; rcases hk with hk | hk <;> revert hk <;> decide) h
theorem mem_set {α : Type} {l : List α} {i : Nat} {x y : α} (h : y ∈ l.set i x) : y ∈ l ∨ (y = x ∧ i < l.length) := by
  rcases List.mem_or_eq_of_mem_set h with h' | rfl
  · exact .inl h'
  · by_cases hi : i < l.length
    · exact .inr ⟨rfl, hi⟩
    · rw [List.set_eq_of_length_le (by omega)] at h; exact .inl h
theorem getD_mem {α : Type} {l : List α} {i : Nat} {d : α} (h : i < l.length) : l.getD i d ∈ l := by
  rw [List.getD_eq_getElem?_getD, List.getElem?_eq_getElem h]; exact List.getElem_mem _
theorem getD_setQ {α : Type} {l : List α} {i j : Nat} {d x : α} : (l.set i x).getD j d = if i = j ∧ j < l.length then x else l.getD j d := by
  rw [List.getD_eq_getElem?_getD, List.getElem?_set, List.getD_eq_getElem?_getD]
  by_cases h : i = j
  · subst h
    by_cases hl : i < l.length
    · simp [hl]
    · simp [hl]
  · simp [h]
theorem isPl_iff {k : Int} : isPl k = true ↔ k = 1 ∨ k = 2 := by unfold isPl; simp
theorem isAt_iff {k : Int} : isAt k = true ↔ k = 3 ∨ k = 4 ∨ k = 5 := by unfold isAt; simp [or_assoc]
/-- What a step that is taken leaves, said part by part. -/
theorem doMem_locs (m : Mem) (s : StepG) : (doMem m s).locs = m.locs := by unfold doMem; split; rfl; split; (try split) <;> rfl; rfl
/-- What is known of a step that is taken. -/
structure Taken (m : Mem) (s : StepG) : Prop where
  t0 : 0 ≤ s.thread
  t1 : s.thread < m.fronts.length
  right : s.act.right m.locs = true
  loc : isPl s.act.kind = true ∨ isAt s.act.kind = true → 0 ≤ s.act.loc ∧ s.act.loc < m.locs.length
  when : isPl s.act.kind = true → Z29 s.when = true
  write : s.act.kind = 2 → bsHas (pastOf m s) s.when = false ∧ 0 < cmpQ' s.when ((frontOf m s).getD s.act.loc.toNat default)
  read : s.act.kind = 1 → bsHas (pastOf m s) s.when = true ∧ 0 ≤ cmpQ' s.when ((frontOf m s).getD s.act.loc.toNat default) ∧ ((pastOf m s).getD (bsAt (pastOf m s) s.when) default).val = s.act.old
theorem taken {m : Mem} {s : StepG} (h : Z2a m s = 0) : Taken m s := by
  have hg := good_iff.1 (doErr_good h)
  refine ⟨hg.1, hg.2.1, hg.2.2.1, fun hk => ?_, hg.2.2.2.1, fun hk => ?_, fun hk => ?_⟩
  · obtain ⟨t, ⟨k, o, q, v⟩, w⟩ := s
    exact right_locQ hk hg.2.2.1
  · unfold Z2a at h
    rw [if_neg (by rw [doErr_good (by unfold Z2a; exact h)]; simp), if_neg (by omega), if_pos hk] at h
    split at h
    · cases h
    · split at h
      · cases h
      · rename_i g1 g2; exact ⟨by simpa using g1, by omega⟩
  · unfold Z2a at h
    rw [if_neg (by rw [doErr_good (by unfold Z2a; exact h)]; simp), if_pos hk] at h
    split at h
    · cases h
    · split at h
      · cases h
      · split at h
        · cases h
        · rename_i g1 g2 g3; exact ⟨by simpa using g1, by omega, by simpa using g3⟩
theorem doMem_good {m : Mem} {s : StepG} {b : Nat} (h : m.Good b) (he : Z2a m s = 0) : (doMem m s).Good (b + 1) := by
  have ht := taken he
  have t0 := ht.t0
  have t1 := ht.t1
  have hfm : frontOf m s ∈ m.fronts := getD_mem (by omega)
  have hfl : (frontOf m s).length = m.locs.length := h.wf.frontsL _ hfm
  have hfr := h.frontsR _ hfm
  unfold doMem
  split
  · rename_i hk
    have hl := ht.loc (.inl (by rw [hk]; rfl))
    have hw := ht.when (by rw [hk]; rfl)
    obtain ⟨hb, hf⟩ := ht.write hk
    have hpm : pastOf m s ∈ m.past := getD_mem (by rw [h.wf.past]; omega)
    have hpr := h.rising _ hpm
    refine ⟨⟨h.wf.locs, by simpa using h.wf.past, h.wf.vals, h.wf.marks, by simpa using h.wf.fronts, fun r hr => ?_, h.wf.marksL, h.wf.marksA, fun r hr => ?_⟩, fun r hr => ?_, fun r hr => ?_, h.marksR⟩
    · rcases mem_set hr with hr | ⟨rfl, -⟩
      · exact Nat.le_succ_of_le (h.wf.pasts r hr)
      · rw [insG_len (bsAt_le _ _)]; exact Nat.succ_le_succ (h.wf.pasts _ hpm)
    · rcases mem_set hr with hr | ⟨rfl, -⟩
      · exact h.wf.frontsL r hr
      · rw [List.length_set]; exact hfl
    · rcases mem_set hr with hr | ⟨rfl, -⟩
      · exact h.rising r hr
      · exact ins_rising hpr hw hb
    · rcases mem_set hr with hr | ⟨rfl, -⟩
      · exact h.frontsR r hr
      · intro q hq
        rcases mem_set hq with hq | ⟨rfl, -⟩
        · exact hfr q hq
        · exact leastQ_right hw
  · split
    · rename_i hk2 hk
      have hl := ht.loc (.inr hk)
      have hmm : markOf m s ∈ m.marks := getD_mem (by rw [h.wf.marks]; omega)
      have hml : (markOf m s).length = m.locs.length := h.wf.marksA _ (by omega) (by
        have := ht.right
        obtain ⟨t, ⟨k, o, q, v⟩, w⟩ := s
        exact right_atom hk this)
      have hbl : (joinG (frontOf m s) (markOf m s)).length = m.locs.length := by rw [joinG_len]; exact hfl
      have hbr := joinG_right (show (frontOf m s).length ≤ (markOf m s).length by omega) hfr (h.marksR _ hmm)
      have F1 : ∀ r ∈ m.fronts.set s.thread.toNat (joinG (frontOf m s) (markOf m s)), r.length = m.locs.length := fun r hr => by
        rcases mem_set hr with hr | ⟨rfl, -⟩
        · exact h.wf.frontsL r hr
        · exact hbl
      have F2 : ∀ r ∈ m.fronts.set s.thread.toNat (joinG (frontOf m s) (markOf m s)), ∀ q ∈ r, Z29 q = true := fun r hr => by
        rcases mem_set hr with hr | ⟨rfl, -⟩
        · exact h.frontsR r hr
        · exact hbr
      split
      · exact ⟨⟨h.wf.locs, h.wf.past, h.wf.vals, h.wf.marks, by simpa using h.wf.fronts, fun r hr => Nat.le_succ_of_le (h.wf.pasts r hr), h.wf.marksL, h.wf.marksA, F1⟩, h.rising, F2, h.marksR⟩
      · refine ⟨⟨h.wf.locs, h.wf.past, by simpa using h.wf.vals, by simpa using h.wf.marks, by simpa using h.wf.fronts, fun r hr => Nat.le_succ_of_le (h.wf.pasts r hr), fun r hr => ?_, fun i hi ha => ?_, F1⟩, h.rising, F2, fun r hr => ?_⟩
        · rcases mem_set hr with hr | ⟨rfl, -⟩
          · exact h.wf.marksL r hr
          · exact Nat.le_of_eq hbl
        · show ((m.marks.set _ _).getD i []).length = _
          rw [getD_setQ]
          split
          · exact hbl
          · exact h.wf.marksA i hi ha
        · rcases mem_set hr with hr | ⟨rfl, -⟩
          · exact h.marksR r hr
          · exact hbr
    · exact h.mono (Nat.le_succ b)
theorem inn_map {α β : Type} (f : β → List α × Bool) (l : List β) : inn (l.map f) = l.map fun x => (f x).1 := by unfold inn; rw [List.map_map]; rfl
theorem newM_good {l : List LocG} {t : Int} (h : newErr l t = 0) : (newM l t).plain.Good 1 := by
  have hb : l.length ≤ 16 ∧ 1 ≤ t ∧ t ≤ 3 := by unfold newErr at h; split at h; cases h; omega
  have z : Z29 ⟨0, 1⟩ = true := by decide
  unfold newM
  rw [if_pos h]
  have s0 : ∀ q ∈ startG l.length, Z29 q = true := fun q hq => by rw [(List.mem_replicate.1 hq).2]; exact z
  have sl : (startG l.length).length = l.length := List.length_replicate
  refine ⟨⟨hb.1, by simp [MemG.plain, Z1p], by simp [MemG.plain], by simp [MemG.plain, Z1p], ?_, fun r hr => ?_, fun r hr => ?_, fun i hi ha => ?_, fun r hr => ?_⟩, fun r hr => ?_, fun r hr => ?_, fun r hr => ?_⟩
  · show (inn (frontX l.length t.toNat)).length ≤ 3
    rw [Z1p, frontX_len]; omega
  · have hr : r ∈ inn (l.map pastX) := hr
    rw [inn_map] at hr
    obtain ⟨x, -, rfl⟩ := List.mem_map.1 hr
    unfold pastX; split <;> simp
  · have hr : r ∈ inn (l.map (markX l.length)) := hr
    rw [inn_map] at hr
    obtain ⟨x, -, rfl⟩ := List.mem_map.1 hr
    show _ ≤ l.length
    unfold markX; split <;> simp [sl]
  · have hi : i < l.length := hi
    have ha : (l.getD i default).atom = true := ha
    show ((inn (l.map (markX l.length))).getD i []).length = l.length
    rw [inn_map, List.getD_eq_getElem?_getD, List.getElem?_map, List.getElem?_eq_getElem hi]
    rw [Z28 hi] at ha
    show (markX l.length l[i]).1.length = _
    unfold markX; rw [if_pos ha]; exact sl
  · have hr : r ∈ inn (frontX l.length t.toNat) := hr
    unfold frontX inn at hr
    rw [List.map_replicate] at hr
    rw [(List.mem_replicate.1 hr).2]; exact sl
  · have hr : r ∈ inn (l.map pastX) := hr
    rw [inn_map] at hr
    obtain ⟨x, -, rfl⟩ := List.mem_map.1 hr
    unfold pastX; split
    · exact ⟨by simp, List.Pairwise.nil⟩
    · exact ⟨fun s hs => by rw [List.mem_singleton.1 hs]; exact z, List.pairwise_singleton _ _⟩
  · have hr : r ∈ inn (frontX l.length t.toNat) := hr
    unfold frontX inn at hr
    rw [List.map_replicate] at hr
    rw [(List.mem_replicate.1 hr).2]; exact s0
  · have hr : r ∈ inn (l.map (markX l.length)) := hr
    rw [inn_map] at hr
    obtain ⟨x, -, rfl⟩ := List.mem_map.1 hr
    unfold markX; split
    · exact s0
    · simp
end Go.Ago

/- Law 20: awake, done, onward. Conditions: none. -/
set_option maxRecDepth 100000
set_option linter.unusedSimpArgs false
set_option linter.unusedVariables false
namespace Go.Ago
theorem plain_av (m : Mem) : m.av.plain = m := by
  have h : ∀ {α : Type} (L : List (List α)), inn (L.map (·, false)) = L := fun L => by rw [inn_map]; exact List.map_id _
  unfold Mem.av MemG.plain
  simp only [h]
theorem at_Last (a1 : List LocG) (a2 : Bool) (a3 : List StampsF) (a4 : Bool) (a5 : List Int) (a6 : Bool) (a7 : List RatsF) (a8 : Bool) (a9 : List RatsF) (a10 : Bool) (l : Int) :
    sp_Last.at [.agg [.d (.list (a1.map LocG.row) a2), .d (.list (a3.map rowStamps) a4), .d (.list (a5.map rowI) a6), .d (.list (a7.map rowRats) a8), .d (.list (a9.map rowRats) a10)], .d (.int .i64 l)] =
      .data (∀ r ∈ a3, r.1.length ≤ maxLen) (lastAV (lastG ⟨a1, a2, a3, a4, a5, a6, a7, a8, a9, a10⟩ l)) true :=
  Sp.at_enc (s := sp_Last) (fun x y h => by
    obtain ⟨m, l⟩ := x; obtain ⟨m', l'⟩ := y
    simp only [sp_Last, List.cons.injEq, AV.d.injEq, DV.int.injEq, and_true, true_and] at h
    obtain ⟨h1, h2⟩ := h
    rw [MemG.av_inj _ _ h1, h2]) (⟨a1, a2, a3, a4, a5, a6, a7, a8, a9, a10⟩, l)
theorem at_DoM (m : MemG) (s : StepG) :
    sp_Do.at [.agg [.d (.list (m.locs.map LocG.row) m.lf), .d (.list (m.past.map rowStamps) m.pf), .d (.list (m.vals.map rowI) m.vf), .d (.list (m.marks.map rowRats) m.mf), .d (.list (m.fronts.map rowRats) m.ff)], .agg [.d (.int .i64 s.thread), .d (.int .i64 s.act.kind), .d (.int .i64 s.act.loc), .d (.int .i64 s.act.old), .d (.int .i64 s.act.new), .d (.int .i64 s.when.num), .d (.int .i64 s.when.den)]] =
      .data (m.plain.Wf 1000000) (.tup [(resM m.plain s).av, .d (.int .i64 (Z2a m.plain s))]) false := at_Do _ _ _ _ _ _ _ _ _ _ _ _ _ _ _ _ _
theorem at_LastM (m : MemG) (l : Int) :
    sp_Last.at [.agg [.d (.list (m.locs.map LocG.row) m.lf), .d (.list (m.past.map rowStamps) m.pf), .d (.list (m.vals.map rowI) m.vf), .d (.list (m.marks.map rowRats) m.mf), .d (.list (m.fronts.map rowRats) m.ff)], .d (.int .i64 l)] =
      .data (∀ r ∈ m.past, r.1.length ≤ maxLen) (lastAV (lastG m l)) true := at_Last _ _ _ _ _ _ _ _ _ _ _
theorem wfM {m : MemG} {b : Nat} (h : m.plain.Good b) (hb : b ≤ 1000000) : m.plain.Wf 1000000 := h.wf.mono hb
def stepM (m : MemG) (s : StepG) : MemG := if Z2a m.plain s = 0 then (doMem m.plain s).av else m
theorem stepM_good {m : MemG} {s : StepG} {b : Nat} (h : m.plain.Good b) : (stepM m s).plain.Good (b + 1) := by
  unfold stepM
  split
  · rename_i he; rw [plain_av]; exact doMem_good h he
  · exact h.mono (Nat.le_succ b)
def goM (m : MemG) (ss : List StepG) (n : Nat) : MemG := (ss.take n).foldl stepM m
theorem goM_succ (m : MemG) {ss : List StepG} {n : Nat} (h : n < ss.length) : goM m ss (n + 1) = stepM (goM m ss n) (ss.getD n default) := by
  unfold goM; rw [List.take_add_one, List.getElem?_eq_getElem h, List.foldl_append, Z28 h]; rfl
theorem goM_good {m : MemG} {b : Nat} (h : m.plain.Good b) (ss : List StepG) : ∀ n, (goM m ss n).plain.Good (b + n) := by
  intro n
  induction n with
  | zero => exact h
  | succ n ih =>
    by_cases hn : n < ss.length
    · rw [goM_succ m hn]; exact stepM_good ih
    · have : goM m ss (n + 1) = goM m ss n := by unfold goM; rw [List.take_of_length_le (by omega), List.take_of_length_le (by omega)]
      rw [this]; exact ih.mono (Nat.le_succ _)
def MemG.row (m : MemG) : List AV := [.d (.list (m.locs.map LocG.row) m.lf), .d (.list (m.past.map rowStamps) m.pf), .d (.list (m.vals.map rowI) m.vf), .d (.list (m.marks.map rowRats) m.mf), .d (.list (m.fronts.map rowRats) m.ff)]
/-! ### onward -/
/-! ### awake -/
end Go.Ago

/- Words of 64 bits: rows of them, the operations on them, and sets of bits. Conditions: none. -/
set_option linter.unusedSimpArgs false
set_option linter.unusedVariables false
namespace Go.Ago

abbrev W := BitVec 64
def rowW (x : W) : List DV := [.int .u64 (x.toNat : Int)]
theorem W.inj {x y : W} (h : (x.toNat : Int) = (y.toNat : Int)) : x = y := BitVec.eq_of_toNat_eq (by omega)
theorem rowW_inj (x y : W) (h : rowW x = rowW y) : x = y := by
  simp only [rowW, List.cons.injEq, DV.int.injEq, and_true, true_and] at h
  exact W.inj h
theorem idx_W {l : List W} {full : Bool} {kd : IntKind} {n : Int} {k : Delta → Prop} : stepK (evIdxAddr 1 (.d (.list (l.map rowW) full)) (.d (.int kd n))) k ↔ (0 ≤ n ∧ n < l.length) ∧ k ⟨.dptr (rowW (l.getD n.toNat default)) 0, [], []⟩ := stepK_idx_map (fun _ => rfl)
theorem set_rowW {l : List W} {i : Nat} {x : W} : (l.map rowW).set i [.int .u64 (x.toNat : Int)] = (l.set i x).map rowW := by rw [List.map_set]; rfl
theorem rep_rowW0 {n : Nat} : List.replicate n [DV.int .u64 0] = (List.replicate n 0#64).map rowW := by simp [rowW]
theorem scal_rowW {l : List W} : (∀ r ∈ l.map rowW, ∀ x ∈ r, DV.scal x = true) ↔ True := ⟨fun _ => trivial, fun _ r hr x hx => by
  obtain ⟨n, _, rfl⟩ := List.mem_map.1 hr; simp [rowW] at hx; subst hx; rfl⟩
theorem default_W : (default : W) = 0#64 := rfl

/-- Not by 'rfl': the kernel would reckon the number out. -/
theorem toNat_cast {n : Nat} : ((n : Nat) : Int).toNat = n := by omega
theorem evIdxArr_p {len sz id sz0 row j : Nat} {kd : IntKind} {n : Int} : evIdxArrAddr len sz (.ptr id sz0 row j) (.d (.int kd n)) = .v (0 ≤ n ∧ n < len) (.ptr id sz0 row (j + n.toNat * sz)) := rfl

def rowB (b : Bool) : List DV := [.bool b]
theorem rep_rowB {n : Nat} : List.replicate n [DV.bool false] = (List.replicate n false).map rowB := by simp [rowB]
theorem set_rowB {l : List Bool} {i : Nat} {b : Bool} : (l.map rowB).set i [.bool b] = (l.set i b).map rowB := by rw [List.map_set]; rfl
/-! ### Operations -/
theorem wlt (x : W) : x.toNat < 18446744073709551616 := x.isLt
theorem bits_u64 : IntKind.u64.bits = 64 := rfl
theorem w_or {x y : W} : bits .or .u64 (x.toNat : Int) (y.toNat : Int) = ((x ||| y).toNat : Int) := by
  rw [bits_or_u64_nat _ _ (wlt x) (wlt y), BitVec.toNat_or]
theorem w_and {x y : W} : bits .and .u64 (x.toNat : Int) (y.toNat : Int) = ((x &&& y).toNat : Int) := by
  rw [bits_and_u64_nat _ _ (wlt x) (wlt y), BitVec.toNat_and]
theorem w_and1 {x : W} : bits .and .u64 (x.toNat : Int) 1 = ((x &&& 1#64).toNat : Int) := w_and (y := 1#64)
theorem w_shl {x : W} {k : Nat} : IntKind.u64.wrap ((x.toNat : Int) * 2 ^ min k IntKind.u64.bits) = ((x <<< k).toNat : Int) := by
  rw [IntKind.wrap_u64, bits_u64]
  have e : ((x.toNat : Int) * 2 ^ min k 64) = ((x.toNat * 2 ^ min k 64 : Nat) : Int) := by push_cast; rfl
  rw [e, BitVec.toNat_shiftLeft, Nat.shiftLeft_eq]
  by_cases h : k ≤ 64
  · rw [Nat.min_eq_left h]; omega
  · rw [Nat.min_eq_right (by omega)]
    have h2 : x.toNat * 2 ^ k = x.toNat * 2 ^ (k - 64) * 2 ^ 64 := by rw [Nat.mul_assoc, ← Nat.pow_add]; congr 2; omega
    rw [h2]
    have h3 : x.toNat * 2 ^ (k - 64) * 2 ^ 64 % 2 ^ 64 = 0 := Nat.mul_mod_left _ _
    have h4 : x.toNat * 2 ^ 64 % 2 ^ 64 = 0 := Nat.mul_mod_left _ _
    omega
theorem w_shl1 {k : Nat} : IntKind.u64.wrap (1 * 2 ^ min k IntKind.u64.bits) = ((1#64 <<< k).toNat : Int) := w_shl (x := 1#64)
theorem w_shr {x : W} {k : Nat} : Int.fdiv (x.toNat : Int) (2 ^ min k IntKind.u64.bits) = ((x >>> k).toNat : Int) := by
  rw [bits_u64, BitVec.toNat_ushiftRight, Nat.shiftRight_eq_div_pow]
  have e : ((2 : Int) ^ min k 64) = ((2 ^ min k 64 : Nat) : Int) := by push_cast; rfl
  rw [e, ← Int.ofNat_fdiv]
  congr 1
  by_cases h : k ≤ 64
  · rw [Nat.min_eq_left h]
  · rw [Nat.min_eq_right (by omega)]
    have h1 : x.toNat / 2 ^ 64 = 0 := Nat.div_eq_of_lt x.isLt
    rw [h1]
    exact (Nat.div_eq_of_lt (Nat.lt_of_lt_of_le x.isLt (Nat.pow_le_pow_right (by omega) (by omega)))).symm
theorem w_sub1 {x : W} : IntKind.u64.wrap ((x.toNat : Int) - 1) = ((x - 1#64).toNat : Int) := by
  rw [IntKind.wrap_u64, BitVec.toNat_sub]
  have h1 : (1#64).toNat = 1 := rfl
  have h2 := wlt x
  rw [h1]
  omega
theorem w_eq {x y : W} : ((x.toNat : Int) = (y.toNat : Int)) = (x = y) := propext ⟨W.inj, fun h => by rw [h]⟩
theorem w_eq1 {x : W} : ((x.toNat : Int) = 1) = (x = 1#64) := w_eq (y := 1#64)
theorem w_bit {x : W} {k : Nat} : (x >>> k &&& 1#64 = 1#64) = (x.getLsbD k = true) := by
  apply propext
  constructor
  · intro h
    have := congrArg (fun y : W => y.getLsbD 0) h
    simpa using this
  · intro h
    apply BitVec.eq_of_getLsbD_eq
    intro i hi
    cases i with
    | zero => simpa using h
    | succ i => simp [BitVec.getLsbD_one]
theorem wrapU {k : Nat} (h : k < 18446744073709551616) : IntKind.u64.wrap (k : Int) = (k : Int) := by rw [IntKind.wrap_u64]; omega
/-! ### Sets of bits -/
def ofB : (Nat → Bool) → Nat → W
  | _, 0 => 0#64
  | q, n + 1 => ofB q n ||| (if q n then BitVec.twoPow 64 n else 0#64)
theorem get_ofB (q : Nat → Bool) : ∀ (n k : Nat), (ofB q n).getLsbD k = (decide (k < n) && decide (k < 64) && q k) := by
  intro n
  induction n with
  | zero => intro k; simp [ofB]
  | succ n ih =>
    intro k
    simp only [ofB, BitVec.getLsbD_or, ih]
    by_cases h : k = n
    · subst h
      cases hq : q k <;> simp [BitVec.getLsbD_twoPow]
    · have e1 : decide (k < n + 1) = decide (k < n) := by simp; omega
      rw [e1]
      split
      · rw [BitVec.getLsbD_twoPow]
        have : ¬ n = k := fun e => h e.symm
        simp [this]
      · simp
theorem W.ext {x y : W} (h : ∀ k, k < 64 → x.getLsbD k = y.getLsbD k) : x = y := BitVec.eq_of_getLsbD_eq h
theorem getLsb_ge {x : W} {k : Nat} (h : 64 ≤ k) : x.getLsbD k = false := BitVec.getLsbD_of_ge x k h
end Go.Ago

/- Contracts of package rel: its small functions, and two relations laid together. Conditions: none. -/
set_option maxRecDepth 100000
set_option linter.unusedSimpArgs false
set_option linter.unusedVariables false
namespace Go.Ago

/-! ### Relations -/
def szR (R : List W) : Nat := min R.length 64
def hasN (R : List W) (i k : Nat) : Bool := decide (i < szR R) && decide (k < szR R) && (R.getD i 0#64).getLsbD k
def hasI (R : List W) (i k : Int) : Bool := decide (0 ≤ i) && decide (0 ≤ k) && hasN R i.toNat k.toNat
def rowG (R : List W) (i : Nat) : W := ofB (hasN R i) 64
def mkR (n : Nat) (p : Nat → Nat → Bool) : List W := (List.range n).map fun i => ofB (p i) n
theorem szR_le (R : List W) : szR R ≤ 64 := Nat.min_le_right _ _
theorem szR_len (R : List W) : szR R ≤ R.length := Nat.min_le_left _ _
theorem hasN_lt {R : List W} {i k : Nat} (h : hasN R i k = true) : i < szR R ∧ k < szR R := by
  simp only [hasN, Bool.and_eq_true, decide_eq_true_eq] at h; exact h.1
theorem get_rowG {R : List W} {i k : Nat} : (rowG R i).getLsbD k = hasN R i k := by
  unfold rowG
  rw [get_ofB]
  by_cases h : hasN R i k = true
  · have := (hasN_lt h).2
    have := szR_le R
    rw [h]; simp; omega
  · simp [h]
theorem mkR_len {n : Nat} {p : Nat → Nat → Bool} : (mkR n p).length = n := by simp [mkR]
theorem mkR_get {n : Nat} {p : Nat → Nat → Bool} {i k : Nat} (hi : i < n) : ((mkR n p).getD i 0#64).getLsbD k = (decide (k < n) && decide (k < 64) && p i k) := by
  rw [List.getD_eq_getElem?_getD, mkR, List.getElem?_map, List.getElem?_range hi]
  exact get_ofB _ _ _
theorem mkR_ext {n : Nat} {p : Nat → Nat → Bool} {l : List W} (hl : l.length = n) (h : ∀ i k, i < n → k < 64 → (l.getD i 0#64).getLsbD k = (decide (k < n) && p i k)) : l = mkR n p := by
  apply List.ext_getElem (by rw [hl, mkR_len])
  intro i h1 h2
  apply W.ext
  intro k hk
  have e1 := h i k (by omega) hk
  have e2 := mkR_get (n := n) (p := p) (i := i) (k := k) (by omega)
  rw [List.getD_eq_getElem?_getD, List.getElem?_eq_getElem h1, Option.getD_some] at e1
  rw [List.getD_eq_getElem?_getD, List.getElem?_eq_getElem h2, Option.getD_some] at e2
  rw [e1, e2]
  simp [hk]
theorem szR_mk {n : Nat} {p : Nat → Nat → Bool} : szR (mkR n p) = min n 64 := by simp [szR, mkR_len]
theorem hasN_mk {n : Nat} {p : Nat → Nat → Bool} {i k : Nat} (hn : n ≤ 64) : hasN (mkR n p) i k = (decide (i < n) && decide (k < n) && p i k) := by
  unfold hasN
  rw [szR_mk, Nat.min_eq_left hn]
  by_cases hi : i < n
  · rw [mkR_get hi]
    by_cases hk : k < n
    · simp [hi, hk]; omega
    · simp [hk]
  · simp [hi]
theorem mkR_congr {n : Nat} {p q : Nat → Nat → Bool} (h : ∀ i k, i < n → k < n → p i k = q i k) : mkR n p = mkR n q := by
  apply mkR_ext mkR_len
  intro i k hi hk
  rw [mkR_get hi]
  by_cases hkn : k < n
  · rw [h i k hi hkn]; simp [hk]
  · simp [hkn]

/-! ### size, all, row, Has -/
def sp_size : Sp := ⟨List W × Bool, fun x => [.d (.list (x.1.map rowW) x.2)], fun x => .data (x.1.length ≤ maxLen) (.d (.int .i64 (szR x.1))) true⟩
theorem at_size (l : List W) (f : Bool) : sp_size.at [.d (.list (l.map rowW) f)] = .data (l.length ≤ maxLen) (.d (.int .i64 (szR l))) true :=
  Sp.at_enc (s := sp_size) (fun x y h => by
    obtain ⟨a, b⟩ := x; obtain ⟨a', b'⟩ := y
    simp only [sp_size, List.cons.injEq, AV.d.injEq, DV.list.injEq, and_true] at h
    rw [Z1k rowW_inj h.1, h.2]) (l, f)
theorem body_rel_size {T : Tab} : sp_size.Body T V_rel_size L_rel_size R_rel_size := by
  rintro ⟨l, f⟩ h
  refine .inl ⟨rfl, ?_⟩
  unfold V_rel_size L_rel_size R_rel_size
  simp only [↓Z0x, ↓Z02, ↓Z0i, ↓Z06, ↓Z0h, ↓Z0g, ↓Z1a, Z1g, Z05, Z0s, Z0v, evN, Z0f, Z0u, Z0e, Z0d, evT, Opd.ev, Z01, Z00, Z0t, Z0w, Z07, Z16, LOp.isNew, State.prune, Z2i, List.length_map, resQ, resV, resT, evInt2, RetS, AV.d.injEq, DV.int.injEq, ↓reduceIte, Nat.reduceBEq, List.length_nil, List.replicate_zero, List.append_nil, List.map_cons, List.map_nil, true_and, Nat.add_zero, Bool.false_eq_true, sp_size]
  unfold szR
  split <;> omega

def allB (n : Nat) : W := ofB (fun _ => true) n
theorem get_allB {n k : Nat} : (allB n).getLsbD k = (decide (k < n) && decide (k < 64)) := by unfold allB; rw [get_ofB]; simp
theorem allB_sub {n : Nat} (h : n < 64) : (1#64 <<< n) - 1#64 = allB n := by
  apply W.ext
  intro k hk
  rw [get_allB, BitVec.getLsbD]
  have e : ((1#64 <<< n) - 1#64).toNat = 2 ^ n - 1 := by
    have h1 : (1#64 <<< n).toNat = 2 ^ n := by
      rw [BitVec.toNat_shiftLeft, Nat.shiftLeft_eq]
      have : 2 ^ n < 2 ^ 64 := Nat.pow_lt_pow_right (by omega) h
      have e1 : (1#64).toNat = 1 := rfl
      rw [e1, Nat.one_mul]; exact Nat.mod_eq_of_lt this
    have h2 : (1#64).toNat = 1 := rfl
    rw [BitVec.toNat_sub, h1, h2]
    have : 2 ^ n < 2 ^ 64 := Nat.pow_lt_pow_right (by omega) h
    have : 0 < 2 ^ n := Nat.pow_pos (by omega)
    omega
  rw [e, Nat.testBit_two_pow_sub_one]
  simp [hk]
def sp_all : Sp := ⟨Int, fun n => [.d (.int .i64 n)], fun n => .data (0 ≤ n ∧ n ≤ 64) (.d (.int .u64 ((allB n.toNat).toNat : Int))) true⟩
theorem at_all (n : Int) : sp_all.at [.d (.int .i64 n)] = .data (0 ≤ n ∧ n ≤ 64) (.d (.int .u64 ((allB n.toNat).toNat : Int))) true :=
  Sp.at_enc (s := sp_all) (fun (x y : Int) h => by simpa [sp_all] using h) n
theorem body_rel_all {T : Tab} : sp_all.Body T V_rel_all L_rel_all R_rel_all := by
  rintro (n : Int) ⟨h1, h2⟩
  have h1 : 0 ≤ n := h1
  have h2 : n ≤ 64 := h2
  obtain ⟨n, rfl⟩ := Int.eq_ofNat_of_zero_le h1
  refine .inl ⟨rfl, ?_⟩
  unfold V_rel_all L_rel_all R_rel_all
  simp only [↓Z0k, ↓Z0x, ↓Z02, ↓Z0i, ↓Z0j, ↓Z06, ↓Z0h, ↓Z1m, ↓Z0g, ↓Z1a, ↓Z0a, Z1g, Z05, Z0s, Z0v, evN, Z0f, Z0u, Z0e, Z0d, Z0q, evT, Opd.ev, Z01, Z00, Z0t, Z0o, Z0r, Z0w, Z07, Z16, LOp.isNew, State.prune, w_shl1, w_sub1, w_eq, toNat_cast, Z1s, binT, binQ, resQ, resV, resT, Z0n, RetS, AV.d.injEq, DV.int.injEq, ↓reduceIte, Nat.reduceBEq, List.length_nil, List.replicate_zero, List.append_nil, List.map_cons, List.map_nil, true_and, Nat.add_zero, Bool.false_eq_true, sp_all, wrapU (k := n) (by omega)]
  refine ⟨fun h => ?_, fun h => ⟨by omega, ?_⟩⟩
  · have : n = 64 := by omega
    subst this
    decide
  · rw [allB_sub (by omega)]

def sp_row : Sp := ⟨List W × Bool × Int, fun x => [.d (.list (x.1.map rowW) x.2.1), .d (.int .i64 x.2.2)], fun x => .data (0 ≤ x.2.2 ∧ x.1.length ≤ maxLen) (.d (.int .u64 ((rowG x.1 x.2.2.toNat).toNat : Int))) true⟩
theorem at_row (l : List W) (f : Bool) (i : Int) : sp_row.at [.d (.list (l.map rowW) f), .d (.int .i64 i)] = .data (0 ≤ i ∧ l.length ≤ maxLen) (.d (.int .u64 ((rowG l i.toNat).toNat : Int))) true :=
  Sp.at_enc (s := sp_row) (fun x y h => by
    obtain ⟨a, b, c⟩ := x; obtain ⟨a', b', c'⟩ := y
    simp only [sp_row, List.cons.injEq, AV.d.injEq, DV.list.injEq, DV.int.injEq, and_true, true_and] at h
    rw [Z1k rowW_inj h.1.1, h.1.2, h.2]) (l, f, i)
theorem row_and {R : List W} {i : Nat} (h : i < szR R) : R.getD i 0#64 &&& allB (szR R) = rowG R i := by
  apply W.ext
  intro k hk
  rw [BitVec.getLsbD_and, get_allB, get_rowG]
  unfold hasN
  simp only [h, decide_true, Bool.true_and, hk, Bool.and_true]
  rw [Bool.and_comm]
theorem row_out {R : List W} {i : Nat} (h : ¬ i < szR R) : rowG R i = 0#64 := by
  apply W.ext
  intro k hk
  rw [get_rowG]
  unfold hasN
  simp [h]
theorem body_rel_row {T : Tab} {n1 n2 : Nat} (k1 : Knows T n1 sp_size) (k2 : Knows T n2 sp_all) : sp_row.Body T V_rel_row (L_rel_row n1 n2) R_rel_row := by
  have F1 := k1.F; have G1 := k1.G; have F2 := k2.F; have G2 := k2.G
  rintro ⟨l, f, i⟩ ⟨h1, h2⟩
  have h1 : 0 ≤ i := h1
  have h2 : l.length ≤ maxLen := h2
  have := szR_le l
  have := szR_len l
  obtain ⟨i, rfl⟩ := Int.eq_ofNat_of_zero_le h1
  refine .inl ⟨rfl, ?_⟩
  unfold V_rel_row L_rel_row R_rel_row
  simp only [↓Z0k, ↓Z0x, ↓Z02, ↓Z0i, ↓Z0j, ↓Z06, ↓Z0h, ↓Z1m, ↓Z0g, ↓Z1a, ↓Z0a, Z1g, Z05, Z10, Z0s, Z0v, evN, Z11, Z0f, Z0u, Z1u, Z0e, Z09, Z0d, Z0q, evT, Opd.ev, Z01, Z00, Z0t, Z0o, Z0r, Z0w, Z07, Z16, LOp.isNew, State.prune, Z15, idx_W, rowW, default_W, w_and, w_eq, loadDT_f, toNat_cast, Z1r, Z1s, binT, binQ, chk, Z1y, List.contains_nil, Bool.and_self, resQ, resV, resT, Z0z, Z1e, fnOf, Z1d, Z23, Z0n, RetS, AV.d.injEq, DV.int.injEq, ↓reduceIte, Nat.reduceBEq, List.length_cons, List.length_nil, List.replicate_zero, List.nil_append, List.cons_append, List.append_nil, List.map_cons, List.map_nil, List.all_cons, List.all_nil, List.getD_cons_zero, List.getD_cons_succ, List.flatten_cons, List.flatten_nil, Bool.not_false, true_and, Nat.reduceLT, List.reverse_cons, List.reverse_nil, Nat.zero_add, Nat.add_zero, Bool.false_eq_true, sp_row, F1, G1, F2, G2, at_size, at_all]
  refine ⟨h2, fun h => ⟨⟨by omega, by omega⟩, ⟨by omega, by omega⟩, ?_⟩, fun h => ?_⟩
  · rw [row_and (by omega)]
  · rw [row_out (by omega)]; rfl

def sp_Has : Sp := ⟨List W × Bool × Int × Int, fun x => [.d (.list (x.1.map rowW) x.2.1), .d (.int .i64 x.2.2.1), .d (.int .i64 x.2.2.2)], fun x => .data (x.1.length ≤ maxLen) (.d (.bool (hasI x.1 x.2.2.1 x.2.2.2))) true⟩
theorem at_Has (l : List W) (f : Bool) (i k : Int) : sp_Has.at [.d (.list (l.map rowW) f), .d (.int .i64 i), .d (.int .i64 k)] = .data (l.length ≤ maxLen) (.d (.bool (hasI l i k))) true :=
  Sp.at_enc (s := sp_Has) (fun x y h => by
    obtain ⟨a, b, c, d⟩ := x; obtain ⟨a', b', c', d'⟩ := y
    simp only [sp_Has, List.cons.injEq, AV.d.injEq, DV.list.injEq, DV.int.injEq, and_true, true_and] at h
    rw [Z1k rowW_inj h.1.1, h.1.2, h.2.1, h.2.2]) (l, f, i, k)
theorem hasI_no {R : List W} {i k : Int} (h : ¬ (0 ≤ i ∧ i < szR R ∧ 0 ≤ k ∧ k < szR R)) : hasI R i k = false := by
  unfold hasI hasN
  by_cases h1 : 0 ≤ i <;> by_cases h2 : 0 ≤ k <;> simp [h1, h2]
  intro h3 h4
  exact absurd ⟨h1, by omega, h2, by omega⟩ h
theorem hasI_nat {R : List W} {i k : Nat} : hasI R i k = hasN R i k := by
  unfold hasI
  simp
theorem body_rel_Has {T : Tab} {n1 : Nat} (k1 : Knows T n1 sp_size) : sp_Has.Body T V_rel_Has (L_rel_Has n1) R_rel_Has := by
  have F1 := k1.F; have G1 := k1.G
  rintro ⟨l, f, i, k⟩ h2
  have h2 : l.length ≤ maxLen := h2
  have := szR_le l
  have := szR_len l
  refine .inl ⟨rfl, ?_⟩
  unfold V_rel_Has L_rel_Has R_rel_Has
  simp only [↓Z0x, ↓Z02, ↓Z0i, ↓Z06, ↓Z0h, ↓Z0g, ↓Z1a, ↓Z0p, ↓Z0m, ↓Z0a, Z1g, Z05, Z0s, Z18, Z0v, evN, Z11, Z0f, Z0u, Z0e, Z09, Z0d, Z1v, evT, Opd.ev, Z01, Z00, Z0t, Z1i, Z0o, Z0w, Z07, Z16, LOp.isNew, State.prune, Z15, idx_W, rowW, default_W, w_and1, w_shr, w_bit, w_eq1, Bool.decide_eq_true, loadDT_f, Z1r, Z1s, binT, binQ, resQ, resV, resT, pickV, Z0z, Z1e, fnOf, Z1d, Z23, Z0n, RetS, AV.d.injEq, DV.bool.injEq, ↓reduceIte, Nat.reduceAdd, Nat.reduceBEq, List.length_cons, List.length_nil, List.replicate_zero, List.append_nil, List.map_cons, List.map_nil, List.getD_cons_zero, List.flatten_cons, List.flatten_nil, true_and, Nat.reduceLT, Nat.zero_add, Nat.add_zero, Bool.false_eq_true, sp_Has, F1, G1, at_size]
  refine ⟨h2, fun c1 => ⟨fun c2 => ⟨fun c3 => ⟨fun c4 => ?_, fun c4 => ?_⟩, fun c3 => ?_⟩, fun c2 => ?_⟩, fun c1 => ?_⟩
  · obtain ⟨i, rfl⟩ := Int.eq_ofNat_of_zero_le c1
    obtain ⟨k, rfl⟩ := Int.eq_ofNat_of_zero_le c3
    rw [wrapU (k := k) (by omega)]
    simp only [toNat_cast, w_shr, w_eq1, w_bit]
    refine ⟨⟨by omega, by omega⟩, by omega, ?_⟩
    rw [hasI_nat]
    unfold hasN
    rw [decide_eq_true (by omega : i < szR l), decide_eq_true (by omega : k < szR l)]
    simp
  · rw [hasI_no (by omega)]
  · rw [hasI_no (by omega)]
  · rw [hasI_no (by omega)]
  · rw [hasI_no (by omega)]

/-! ### TrailingZeros64 -/
/-! ### Laid together -/
def sp_h2 (h : W → W → W) : Sp := ⟨W × W, fun x => [.d (.int .u64 (x.1.toNat : Int)), .d (.int .u64 (x.2.toNat : Int))], fun x => .data True (.d (.int .u64 ((h x.1 x.2).toNat : Int))) true⟩
theorem at_h2 (h : W → W → W) (x y : W) : (sp_h2 h).at [.d (.int .u64 (x.toNat : Int)), .d (.int .u64 (y.toNat : Int))] = .data True (.d (.int .u64 ((h x y).toNat : Int))) true :=
  Sp.at_enc (s := sp_h2 h) (fun x y h => by
    obtain ⟨a, b⟩ := x; obtain ⟨c, d⟩ := y
    simp only [sp_h2, List.cons.injEq, AV.d.injEq, DV.int.injEq, and_true, true_and] at h
    rw [W.inj h.1, W.inj h.2]) (x, y)
def fstW (x _ : W) : W := x
theorem body_rel_Plus_1 {T : Tab} : (sp_h2 fstW).Body T V_rel_Plus_1 L_rel_Plus_1 R_rel_Plus_1 := by
  rintro ⟨x, y⟩ -
  refine .inl ⟨rfl, ?_⟩
  unfold V_rel_Plus_1 L_rel_Plus_1 R_rel_Plus_1
  simp only [↓Z0x, ↓Z02, ↓Z0i, ↓Z06, ↓Z0h, ↓Z0g, ↓Z1a, Z1g, Z05, Z0s, Z0v, evN, Z0f, Z0u, Z0e, Z0d, evT, Opd.ev, Z01, Z00, Z0t, Z0w, Z07, Z16, LOp.isNew, State.prune, resQ, resV, resT, RetS, ↓reduceIte, Nat.reduceBEq, List.length_nil, List.replicate_zero, List.append_nil, List.map_cons, List.map_nil, and_self, Nat.zero_add, Nat.add_zero, Bool.false_eq_true, sp_h2, fstW]

def mxR (A B : List W) : Nat := max (szR A) (szR B)
theorem mxR_le (A B : List W) : mxR A B ≤ 64 := by have := szR_le A; have := szR_le B; unfold mxR; omega
def layG (h : W → W → W) (A B : List W) : List W := (List.range (mxR A B)).map fun i => h (rowG A i) (rowG B i)
theorem layG_len {h : W → W → W} {A B : List W} : (layG h A B).length = mxR A B := by simp [layG]
def layOut (h : W → W → W) (A B : List W) : SpecR := .rows (A.length ≤ maxLen ∧ B.length ≤ maxLen) 1 ((layG h A B).map rowW)
/-- Told by the number of the function that is handed over. -/
def sp_lay (hs : Nat → Option (W → W → W)) : Sp := ⟨List W × Bool × List W × Bool × Nat, fun x => [.d (.list (x.1.map rowW) x.2.1), .d (.list (x.2.2.1.map rowW) x.2.2.2.1), .d (.fn x.2.2.2.2)],
  fun x => match hs x.2.2.2.2 with | some h => layOut h x.1 x.2.2.1 | none => .none⟩
theorem at_lay {hs : Nat → Option (W → W → W)} {g : Nat} {h : W → W → W} (hg : hs g = some h) (A B : List W) (e f : Bool) : (sp_lay hs).at [.d (.list (A.map rowW) e), .d (.list (B.map rowW) f), .d (.fn g)] = layOut h A B := by
  rw [show [AV.d (.list (A.map rowW) e), AV.d (.list (B.map rowW) f), AV.d (.fn g)] = (sp_lay hs).enc (A, e, B, f, g) from rfl]
  rw [Sp.at_enc (s := sp_lay hs) (fun x y h => by
    obtain ⟨a, b, c, d, e⟩ := x; obtain ⟨a', b', c', d', e'⟩ := y
    simp only [sp_lay, List.cons.injEq, AV.d.injEq, DV.list.injEq, DV.fn.injEq, and_true, true_and] at h
    rw [Z1k rowW_inj h.1.1, h.1.2, Z1k rowW_inj h.2.1.1, h.2.1.2, h.2.2]) (A, e, B, f, g)]
  simp only [sp_lay, hg]

theorem set_map_range {n i : Nat} {f : Nat → W} (h : i < n) : ((List.range i).map f ++ List.replicate (n - i) 0#64).set i (f i) = (List.range (i + 1)).map f ++ List.replicate (n - (i + 1)) 0#64 := by
  have e : List.replicate (n - i) 0#64 = 0#64 :: List.replicate (n - (i + 1)) 0#64 := by rw [← List.replicate_succ]; congr 1; omega
  rw [e, List.range_succ, List.map_append, List.append_assoc]
  have hl : ((List.range i).map f).length = i := by simp
  have := List.set_append_right (s := (List.range i).map f) (t := 0#64 :: List.replicate (n - (i + 1)) 0#64) i (f i) (by omega)
  rw [this, hl, Nat.sub_self]; rfl

theorem lay_body {T : Tab} {n1 n2 g : Nat} {h : W → W → W} (k1 : Knows T n1 sp_size) (k2 : Knows T n2 sp_row) (k3 : Knows T g (sp_h2 h)) (A B : List W) (e f : Bool) :
    (layOut h A B).asks fun Post => vck T 0 V_rel_lay (L_rel_lay n1 n2) ⟨Z0w 0 [.d (.list (A.map rowW) e), .d (.list (B.map rowW) f), .d (.fn g)], []⟩ (retK R_rel_lay Post) := by
  have F1 := k1.F; have G1 := k1.G; have F2 := k2.F; have G2 := k2.G; have F3 := k3.F; have G3 := k3.G
  rintro ⟨h1, h2⟩
  refine ⟨rows_len (f := rowW) (fun _ => rfl) _, ?_⟩
  unfold V_rel_lay L_rel_lay R_rel_lay
  simp only [↓Z02, ↓Z0i, ↓Z0c, ↓Z1n, ↓Z06, ↓Z0h, ↓Z0g, Z1g, Z05, Z0s, Z0v, evN, Z11, Z0f, Z0u, Z0e, Z09, Z0d, evT, Opd.ev, Z01, Z00, Z0t, Z17, Z0w, Z07, Z16, LOp.isNew, State.prune, rep_rowW0, Z2i, drows_rep1, mkVec, evMk, Z0z, Z1e, fnOf, Z1d, Z23, evInt2, Z0n, ↓reduceIte, Nat.reduceAdd, Nat.reduceBEq, List.length_cons, List.length_nil, List.replicate_succ, List.replicate_zero, List.nil_append, List.append_nil, List.map_cons, List.map_nil, List.set_cons_zero, List.flatten_cons, List.flatten_nil, true_and, Nat.zero_add, Nat.add_zero, Bool.false_eq_true, F1, G1, at_size]
  have hm : (if ((szR B : Nat) : Int) > ((szR A : Nat) : Int) then ((szR B : Nat) : Int) else ((szR A : Nat) : Int)) = ((mxR A B : Nat) : Int) := by unfold mxR; split <;> omega
  have hle := mxR_le A B
  rw [hm]
  simp only [toNat_cast]
  refine ⟨h1, h2, ⟨by omega, by omega, Z1t (by omega) (by omega)⟩, ?_⟩
  refine Loop.fam [0, 1, 2, 7, 16, 17] (fun i : Nat => ⟨[(0, .d (.list (A.map rowW) e)), (1, .d (.list (B.map rowW) f)), (2, .d (.fn g)), (7, .ref 0 1 0 (mxR A B) true), (16, .d (.int .i64 (mxR A B : Nat))), (17, .d (.int .i64 i))],
      [.dvec 1 (((List.range i).map (fun i => h (rowG A i) (rowG B i)) ++ List.replicate (mxR A B - i) 0#64).map rowW)]⟩) (fun i => i ≤ mxR A B) (fun i => mxR A B - i) 0 [0] (by simp) (by simp) (by simp only [State.can, AV.can, HO.can, idx, Z01, Z00, Heap.at, Nat.reduceBEq, ↓reduceIte, Option.getD_some, Option.map_some, List.map_cons, List.map_nil, List.getD_cons_zero]; simp) (by omega) ?_
  intro i hi
  simp only [↓Z0k, ↓Z0x, ↓Z1c, ↓Z02, ↓Z0i, ↓Z0j, ↓Z0c, ↓Z06, ↓Z0h, ↓Z1o, ↓Z1h, ↓Z1b, ↓Z0g, ↓Z1a, ↓famK_n, ↓Z26, ↓Z0a, Z1g, Z05, Z0s, Z0v, evN, Z11, Z0f, Z0u, Z0e, Z09, Z0d, Z0q, evT, Opd.ev, Z01, Z00, Z0t, Z1q, Z17, Z0o, Z0r, Z07, Z16, LOp.isNew, State.prune, Heap.at, rowW, set_rowW, default_W, Z0y, Z0b, stepK_store_map1, List.length_replicate, toNat_cast, List.length_map, List.length_append, Z1s, binT, binQ, resQ, resV, resT, Z0z, Z1e, fnOf, Z1d, Z23, putRow, Z0n, Nat.le_refl, ↓reduceIte, Nat.reduceBEq, List.length_cons, List.length_nil, List.replicate_zero, List.nil_append, List.append_nil, List.map_cons, List.map_nil, List.set_cons_zero, List.getD_cons_zero, List.drop_zero, List.drop_succ_cons, List.take_zero, List.flatten_cons, List.flatten_nil, true_and, and_true, and_self, Nat.zero_add, Nat.add_zero, Bool.false_eq_true, F2, G2, F3, G3, at_row, at_h2]
  refine ⟨fun c => ?_, fun c => ?_⟩
  · have c' : i < mxR A B := by omega
    rw [Z12 c' (by unfold maxLen; omega), set_map_range (f := fun i => h (rowG A i) (rowG B i)) c']
    refine ⟨⟨by omega, h1⟩, ⟨by omega, h2⟩, ⟨by omega, by omega⟩, by simp; omega, Z0l.mk [0] (i + 1) (by simp) (by simp) (by simp only [State.can, AV.can, HO.can, idx, Z01, Z00, Heap.at, Nat.reduceBEq, ↓reduceIte, Option.getD_some, Option.map_some, List.map_cons, List.map_nil, List.getD_cons_zero]) (by show i + 1 ≤ mxR A B; omega) (by show mxR A B - (i + 1) < mxR A B - i; omega)⟩
  · have : i = mxR A B := by omega
    subst this
    rw [Nat.sub_self, List.replicate_zero, List.append_nil]
    exact .inl ⟨0, true, by simp [layG_len], rfl⟩

end Go.Ago

/- Contracts of package rel: Union, Inter, Minus, Then, Back. Conditions: none. -/
set_option maxRecDepth 100000
set_option linter.unusedSimpArgs false
set_option linter.unusedVariables false
namespace Go.Ago

theorem getD_set {l : List W} {i j : Nat} {x : W} (hi : i < l.length) : (l.set i x).getD j 0#64 = if i = j then x else l.getD j 0#64 := by
  rw [List.getD_eq_getElem?_getD, List.getElem?_set, List.getD_eq_getElem?_getD]
  by_cases e : i = j
  · subst e; simp [hi]
  · simp [e]
theorem mkR_set {n : Nat} {p q : Nat → Nat → Bool} {i : Nat} {x : W} (hi : i < n) (hx : ∀ k, k < 64 → x.getLsbD k = (decide (k < n) && q i k)) (ho : ∀ a k, a < n → k < n → a ≠ i → q a k = p a k) : (mkR n p).set i x = mkR n q := by
  apply mkR_ext (by simp [mkR_len])
  intro a k ha hk
  rw [getD_set (by rw [mkR_len]; exact hi)]
  by_cases e : i = a
  · subst e; rw [if_pos rfl]; exact hx k hk
  · rw [if_neg e, mkR_get ha]
    by_cases hkn : k < n
    · rw [ho a k ha hkn (Ne.symm e)]; simp [hk]
    · simp [hkn]
theorem mkR_zero {n : Nat} {p : Nat → Nat → Bool} (h : ∀ i k, i < n → k < n → p i k = false) : List.replicate n 0#64 = mkR n p := by
  apply mkR_ext (by simp)
  intro i k hi hk
  have e : (List.replicate n 0#64).getD i 0#64 = 0#64 := by
    rw [List.getD_eq_getElem?_getD, List.getElem?_replicate]; split <;> rfl
  rw [e]
  by_cases hkn : k < n
  · rw [h i k hi hkn]; simp
  · simp [hkn]
theorem hasN_off {R : List W} {i k : Nat} (h : ¬ k < szR R) : hasN R i k = false := by unfold hasN; simp [h]
/-- Two laid together, place by place. -/
def lay2 (q : Bool → Bool → Bool) (A B : List W) : List W := mkR (mxR A B) fun i k => q (hasN A i k) (hasN B i k)
theorem layG_get {h : W → W → W} {A B : List W} {i : Nat} (hi : i < mxR A B) : (layG h A B).getD i 0#64 = h (rowG A i) (rowG B i) := by
  unfold layG
  rw [List.getD_eq_getElem?_getD, List.getElem?_map, List.getElem?_range hi]; rfl
theorem layG_mk {h : W → W → W} {q : Bool → Bool → Bool} (hh : ∀ x y k, k < 64 → (h x y).getLsbD k = q (x.getLsbD k) (y.getLsbD k)) (hq : q false false = false) (A B : List W) : layG h A B = lay2 q A B := by
  apply mkR_ext layG_len
  intro i k hi hk
  rw [layG_get hi, hh _ _ _ hk, get_rowG, get_rowG]
  by_cases hkn : k < mxR A B
  · simp [hkn]
  · have h1 : ¬ k < szR A := by unfold mxR at hkn; omega
    have h2 : ¬ k < szR B := by unfold mxR at hkn; omega
    rw [hasN_off h1, hasN_off h2, hq]; simp [hkn]
/-! ### Then -/
theorem beq_of_iff {a b : Bool} (h : a = true ↔ b = true) : a = b := by cases a <;> cases b <;> simp_all

end Go.Ago

/- Contracts of package rel: Back, Plus, Star, Ring. Conditions: none. -/
set_option maxRecDepth 100000
set_option linter.unusedSimpArgs false
set_option linter.unusedVariables false
namespace Go.Ago

/-! ### Back -/
theorem one_shl {i k : Nat} (hi : i < 64) : (1#64 <<< i).getLsbD k = decide (i = k) := by
  by_cases hk : k < 64
  · rw [BitVec.getLsbD_shiftLeft, BitVec.getLsbD_one]
    by_cases e : i = k
    · subst e; simp [hi]
    · by_cases e2 : k < i
      · simp [e2, e]
      · have : ¬ k - i = 0 := by omega
        simp [e, this]
  · rw [getLsb_ge (by omega)]; simp; omega
/-! ### Plus -/
/-- Ways whose places between are ahead of m. -/
def way (p : Nat → Nat → Bool) : Nat → Nat → Nat → Bool
  | 0, i, k => p i k
  | m + 1, i, k => way p m i k || way p m i m && way p m m k
def plusG (R : List W) : List W := mkR (szR R) (way (hasN R) (szR R))
def plusS (R : List W) (m i a b : Nat) : Bool := if a < i then way (hasN R) (m + 1) a b else way (hasN R) m a b
def sp_Plus : Sp := ⟨List W × Bool, fun x => [.d (.list (x.1.map rowW) x.2)], fun x => .rows (x.1.length ≤ maxLen) 1 ((plusG x.1).map rowW)⟩
theorem at_Plus (A : List W) (e : Bool) : sp_Plus.at [.d (.list (A.map rowW) e)] = .rows (A.length ≤ maxLen) 1 ((plusG A).map rowW) :=
  Sp.at_enc (s := sp_Plus) (fun x y h => by
    obtain ⟨a, b⟩ := x; obtain ⟨a', b'⟩ := y
    simp only [sp_Plus, List.cons.injEq, AV.d.injEq, DV.list.injEq, and_true] at h
    rw [Z1k rowW_inj h.1, h.2]) (A, e)
theorem szR_nil : szR [] = 0 := rfl
theorem lay_fst (A : List W) : layG fstW A [] = mkR (szR A) (hasN A) := by
  rw [layG_mk (h := fstW) (q := fun a _ => a) (fun x y k _ => rfl) rfl]
  unfold lay2 mxR
  rw [szR_nil, Nat.max_eq_left (Nat.zero_le _)]
theorem plus_body {T : Tab} {n1 n2 : Nat} {hs : Nat → Option (W → W → W)} (k1 : Knows T n1 (sp_lay hs)) (e1 : hs n2 = some fstW) :
    sp_Plus.Body T V_rel_Plus (L_rel_Plus n1 n2) R_rel_Plus := by
  have F1 := k1.F; have G1 := k1.G
  rintro ⟨A, e⟩ h1
  have h1 : A.length ≤ maxLen := h1
  refine ⟨rows_len (f := rowW) (fun _ => rfl) _, ?_⟩
  have hat : ∀ f : Bool, (sp_lay hs).at [.d (.list (A.map rowW) e), .d (.list [] f), .d (.fn n2)] = .rows (A.length ≤ maxLen ∧ 0 ≤ maxLen) 1 ((mkR (szR A) (hasN A)).map rowW) := fun f => by
    have := at_lay e1 A [] e f
    unfold layOut at this
    rw [lay_fst] at this
    exact this
  unfold V_rel_Plus L_rel_Plus R_rel_Plus
  simp only [↓Z02, ↓Z0i, ↓Z0c, ↓Z1n, ↓Z06, ↓Z0h, ↓Z0g, Z1g, Z05, Z0s, Z0v, evN, Z11, Z0f, Z0u, Z0e, Z09, Z0d, evT, Opd.ev, Z01, Z00, Z0t, Z17, Z0w, Z07, Z16, LOp.isNew, State.prune, scal_rowW, Z2i, List.length_map, Z0z, Z1e, fnOf, Z1d, Z23, Z0n, ↓reduceIte, Nat.reduceBEq, List.length_cons, List.length_nil, List.replicate_succ, List.replicate_zero, List.nil_append, List.append_nil, List.map_cons, List.map_nil, List.set_cons_zero, List.flatten_cons, List.flatten_nil, true_and, and_true, or_true, Nat.zero_add, Nat.add_zero, Bool.false_eq_true, sp_Plus, F1, G1, hat]
  have hle := szR_le A
  rw [mkR_len]
  generalize hn : szR A = n at *
  refine ⟨⟨h1, by omega⟩, ?_⟩
  refine Loop.fam [3, 9, 10] (fun m : Nat => ⟨[(3, .ref 0 1 0 n true), (9, .d (.int .i64 n)), (10, .d (.int .i64 m))],
      [.dvec 1 ((mkR n (way (hasN A) m)).map rowW)]⟩) (fun m => m ≤ n) (fun m => n - m) 0 [0] (by simp) (by simp) (by simp only [State.can, AV.can, HO.can, idx, Z01, Z00, Heap.at, Nat.reduceBEq, ↓reduceIte, Option.getD_some, Option.map_some, List.map_cons, List.map_nil, List.getD_cons_zero]; rfl) (by omega) ?_
  intro m hm
  simp only [↓Z0k, ↓Z0x, ↓Z1c, ↓Z02, ↓Z0i, ↓Z0j, ↓Z0c, ↓Z1n, ↓Z06, ↓Z0h, ↓Z1o, ↓Z1b, ↓Z0g, ↓Z1a, ↓Z26, ↓Z0a, Z1g, Z05, Z0s, Z0v, evN, Z0f, Z0u, Z0e, Z0d, Z0q, evT, Opd.ev, Z01, Z00, Z0t, Z0o, Z0r, Z07, Z16, LOp.isNew, State.prune, Z2i, Z1s, binT, binQ, resQ, resV, resT, Z0n, ↓reduceIte, Nat.reduceBEq, List.length_cons, List.length_nil, List.replicate_zero, List.append_nil, List.map_cons, List.map_nil, true_and, Nat.zero_add, Nat.add_zero, Bool.false_eq_true]
  refine ⟨fun c => ?_, fun c => ?_⟩
  · have c' : m < n := by omega
    refine Loop.fam [3, 4, 9, 10, 14, 15] (fun i : Nat => ⟨[(3, .ref 0 1 0 n true), (4, .d (.int .i64 m)), (9, .d (.int .i64 n)), (10, .d (.int .i64 m)), (14, .d (.int .i64 n)), (15, .d (.int .i64 i))],
      [.dvec 1 ((mkR n (plusS A m i)).map rowW)]⟩) (fun i => i ≤ n) (fun i => n - i) 0 [0] (by simp) (by simp) (by
        simp only [State.can, AV.can, HO.can, idx, Z01, Z00, Heap.at, Nat.reduceBEq, ↓reduceIte, Option.getD_some, Option.map_some, List.map_cons, List.map_nil, List.getD_cons_zero]
        rw [show mkR n (plusS A m 0) = mkR n (way (hasN A) m) from mkR_congr fun a b _ _ => by unfold plusS; rw [if_neg (by omega)]]
        rfl) (by omega) ?_
    intro i hi
    simp only [↓Z0k, ↓Z1c, ↓Z02, ↓Z0i, ↓Z0j, ↓Z0c, ↓Z06, ↓Z0h, ↓Z1o, ↓Z1h, ↓Z1b, ↓Z0g, ↓famK_n, ↓Z26, ↓Z0a, Z1g, Z05, Z10, Z0s, Z0v, evN, Z0f, Z0u, Z1u, Z0e, Z0d, Z0q, evT, Opd.ev, Z01, Z00, Z0t, Z1q, Z17, Z0o, Z0r, Z07, Z16, LOp.isNew, State.prune, Heap.at, Z08, Z2g, rowW, set_rowW, default_W, w_or, w_and1, w_shr, w_bit, w_eq1, Bool.decide_eq_true, Z0y, Z0b, stepK_store_map1, loadDT_f, toNat_cast, Z1r, Z1s, binT, binQ, chk, Z1y, putRow, Z0n, Nat.le_refl, ↓reduceIte, Nat.reduceBEq, List.length_cons, List.length_nil, List.replicate_zero, List.nil_append, List.cons_append, List.append_nil, List.map_cons, List.map_nil, List.all_nil, List.set_cons_zero, List.getD_cons_zero, List.drop_zero, List.drop_succ_cons, List.take_zero, true_and, and_true, and_self, Nat.reduceLT, List.reverse_cons, List.reverse_nil, Nat.zero_add, Nat.add_zero, Bool.false_eq_true, wrapU (k := m) (by omega)]
    rw [mkR_len]
    refine ⟨fun g => ?_, fun g => ?_⟩
    · have g' : i < n := by omega
      have bit : ((mkR n (plusS A m i)).getD i 0#64).getLsbD m = way (hasN A) m i m := by
        rw [mkR_get g']
        unfold plusS
        rw [if_neg (by omega)]
        simp only [decide_eq_true c', decide_eq_true (by omega : m < 64), Bool.true_and]
      rw [bit, Z12 g' (by unfold maxLen; omega)]
      refine ⟨by omega, by omega, by omega, fun hb => ⟨by omega, by omega, by omega, by omega, by omega, by omega, ?_⟩, fun hb => ?_⟩
      · refine Z0l.mk [0] (i + 1) (by simp) (by simp) ?_ (by show i + 1 ≤ n; omega) (by show n - (i + 1) < n - i; omega)
        rw [mkR_set (q := plusS A m (i + 1)) g']
        · simp only [State.can, AV.can, HO.can, idx, Z01, Z00, Heap.at, Nat.reduceBEq, ↓reduceIte, Option.getD_some, Option.map_some, List.map_cons, List.map_nil, List.getD_cons_zero]
        · intro k hk
          rw [BitVec.getLsbD_or, mkR_get g', mkR_get c']
          by_cases hkn : k < n
          · simp only [hkn, hk, decide_true, Bool.true_and]
            have g1 : plusS A m i i k = way (hasN A) m i k := if_neg (by omega)
            have g2 : plusS A m (i + 1) i k = way (hasN A) (m + 1) i k := if_pos (by omega)
            have g3 : plusS A m i m k = way (hasN A) m m k := by
              unfold plusS
              split
              · simp only [way]; cases way (hasN A) m m k <;> simp
              · rfl
            rw [g1, g2, g3]
            simp only [way, hb, Bool.true_and]
          · simp [hkn]
        · intro a k ha hk hne
          unfold plusS
          by_cases e1 : a < i
          · rw [if_pos e1, if_pos (by omega)]
          · rw [if_neg e1, if_neg (by omega)]
      · refine Z0l.mk [0] (i + 1) (by simp) (by simp) ?_ (by show i + 1 ≤ n; omega) (by show n - (i + 1) < n - i; omega)
        rw [show mkR n (plusS A m (i + 1)) = mkR n (plusS A m i) from mkR_congr fun a b _ _ => by
          unfold plusS
          by_cases e1 : a < i
          · rw [if_pos e1, if_pos (by omega)]
          · by_cases e2 : a = i
            · subst e2
              rw [if_pos (by omega), if_neg (by omega)]
              simp only [way]
              have hb' : way (hasN A) m a m = false := by simpa using hb
              simp [hb']
            · rw [if_neg e1, if_neg (by omega)]]
        simp only [State.can, AV.can, HO.can, idx, Z01, Z00, Heap.at, Nat.reduceBEq, ↓reduceIte, Option.getD_some, Option.map_some, List.map_cons, List.map_nil, List.getD_cons_zero]
    · have : i = n := by omega
      subst this
      rw [Z12 c' (by unfold maxLen; omega)]
      refine Z0l.mk [0] (m + 1) (by simp) (by simp) ?_ (by show m + 1 ≤ i; omega) (by show i - (m + 1) < i - m; omega)
      rw [show mkR i (plusS A m i) = mkR i (way (hasN A) (m + 1)) from mkR_congr fun a b ha _ => by unfold plusS; rw [if_pos ha]]
      simp only [State.can, AV.can, HO.can, idx, Z01, Z00, Heap.at, Nat.reduceBEq, ↓reduceIte, Option.getD_some, Option.map_some, List.map_cons, List.map_nil, List.getD_cons_zero]
  · have : m = n := by omega
    subst this
    have : mkR m (way (hasN A) m) = plusG A := by unfold plusG; rw [hn]
    rw [this]
    exact .inl ⟨0, true, by simp [plusG, mkR_len, hn], rfl⟩
/-! Where no other function is laid: -/
def hs1 (n : Nat) : Nat → Option (W → W → W) := fun g => if g = n then some fstW else none
theorem bodyP_rel_lay {T : Tab} {n1 n2 n_rel_Plus_1 : Nat} (k1 : Knows T n1 sp_size) (k2 : Knows T n2 sp_row) (k3 : Knows T n_rel_Plus_1 (sp_h2 fstW)) : (sp_lay (hs1 n_rel_Plus_1)).Body T V_rel_lay (L_rel_lay n1 n2) R_rel_lay := by
  rintro ⟨A, e, B, f, g⟩
  simp only [sp_lay, hs1]
  split
  · rename_i h hh
    split at hh
    · rename_i e; cases hh; rw [e]; exact lay_body k1 k2 k3 A B _ f
    · cases hh
  · trivial
theorem bodyP_rel_Plus {T : Tab} {n1 n2 n_rel_Plus_1 : Nat} (k1 : Knows T n1 (sp_lay (hs1 n_rel_Plus_1))) (e1 : hs1 n_rel_Plus_1 n2 = some fstW) :
    sp_Plus.Body T V_rel_Plus (L_rel_Plus n1 n2) R_rel_Plus := plus_body k1 e1
end Go.Ago

/- Contracts of package rel: Star, Ring, Of, Order. Conditions: none. -/
set_option maxRecDepth 100000
set_option linter.unusedSimpArgs false
set_option linter.unusedVariables false
namespace Go.Ago

/-! ### Star, Ring -/
/-! ### Of pairs -/
def ofBad (n : Int) (p : RatG) : Bool := decide (p.num < 0) || decide (n ≤ p.num) || decide (p.den < 0) || decide (n ≤ p.den)
def ofErr (n : Int) (l : List RatG) : Int := if n < 0 ∨ 64 < n then 1 else if l.any (ofBad n) then 2 else 0
def ofP (l : List RatG) (i k : Nat) : Bool := l.any fun p => decide (p.num = i) && decide (p.den = k)
def ofG (n : Int) (l : List RatG) : List W := if ofErr n l = 0 then mkR n.toNat (ofP l) else []
def ofAV (n : Int) (l : List RatG) : AV := .tup [.d (.list ((ofG n l).map rowW) false), .d (.int .i64 (ofErr n l))]
def sp_Of : Sp := ⟨Int × List RatG × Bool, fun x => [.d (.int .i64 x.1), .d (.list (x.2.1.map RatG.row) x.2.2)], fun x => .data (x.2.1.length ≤ maxLen) (ofAV x.1 x.2.1) true⟩
theorem at_Of (n : Int) (l : List RatG) (f : Bool) : sp_Of.at [.d (.int .i64 n), .d (.list (l.map RatG.row) f)] = .data (l.length ≤ maxLen) (.tup [.d (.list ((ofG n l).map rowW) false), .d (.int .i64 (ofErr n l))]) true :=
  Sp.at_enc (s := sp_Of) (fun x y h => by
    obtain ⟨a, b, c⟩ := x; obtain ⟨a', b', c'⟩ := y
    simp only [sp_Of, List.cons.injEq, AV.d.injEq, DV.list.injEq, DV.int.injEq, and_true, true_and] at h
    rw [h.1, Z1k RatG.row_inj h.2.1, h.2.2]) (n, l, f)
theorem any_take_succ {α : Type} {q : α → Bool} {l : List α} {i : Nat} {d : α} (h : i < l.length) : (l.take (i + 1)).any q = ((l.take i).any q || q (l.getD i d)) := by
  have e : l.take (i + 1) = l.take i ++ [l.getD i d] := by rw [List.take_add_one, List.getElem?_eq_getElem h, Z28 h]; rfl
  rw [e, List.any_append, List.any_cons, List.any_nil, Bool.or_false]
theorem ofP_take {l : List RatG} {i a b : Nat} (h : i < l.length) : ofP (l.take (i + 1)) a b = (ofP (l.take i) a b || (decide ((l.getD i default).num = a) && decide ((l.getD i default).den = b))) := any_take_succ h
theorem body_rel_Of {T : Tab} : sp_Of.Body T V_rel_Of L_rel_Of R_rel_Of := by
  rintro ⟨n, l, f⟩ h1
  have h1 : l.length ≤ maxLen := h1
  refine .inr ⟨rfl, ?_⟩
  unfold V_rel_Of L_rel_Of R_rel_Of
  simp only [↓Z0k, ↓Z0x, ↓Z02, ↓Z0i, ↓Z0j, ↓Z0c, ↓Z1n, ↓Z06, ↓Z0h, ↓Z1m, ↓Z0g, ↓Z1a, ↓Z0p, ↓Z0m, ↓Z0a, Z1g, Z05, Z0s, Z18, Z0v, evN, Z0f, Z0u, Z0e, Z09, Z0d, Z1x, Z0q, evT, Opd.ev, Z01, Z00, Z0t, Z17, Z1i, Z0o, Z0r, Z0w, Z07, Z16, LOp.isNew, State.prune, rep_rowW0, Z2i, drows_rep1, mkVec, evMk, List.length_map, Z1s, binT, binQ, resQ, resV, resT, pickV, Z0n, RetF, AV.frz, AV.frzL, AV.freshP, AV.freshL, DV.less, scal_int, scal_nil, Option.some.injEq, AV.tup.injEq, List.cons.injEq, DV.list.injEq, AV.d.injEq, DV.int.injEq, ↓reduceIte, Nat.reduceBEq, List.length_cons, List.length_nil, List.replicate_succ, List.replicate_zero, List.nil_append, List.append_nil, List.map_cons, List.map_nil, List.set_cons_zero, true_and, and_true, Option.map_some, and_self, Nat.zero_add, Nat.add_zero, Bool.false_eq_true, sp_Of, ofAV]
  have bad : (n < 0 ∨ 64 < n) → ofErr n l = 1 ∧ ofG n l = [] := fun h => by
    have : ofErr n l = 1 := by unfold ofErr; rw [if_pos h]
    exact ⟨this, by unfold ofG; rw [this]; rfl⟩
  refine ⟨fun c => ?_, fun c => ⟨fun c2 => ?_, fun c2 => ?_⟩⟩
  · obtain ⟨e1, e2⟩ := bad (.inl c)
    rw [e1, e2]; simp
  · obtain ⟨e1, e2⟩ := bad (.inr c2)
    rw [e1, e2]; simp
  · obtain ⟨n, rfl⟩ := Int.eq_ofNat_of_zero_le (by omega : 0 ≤ n)
    simp only [toNat_cast]
    refine ⟨⟨by omega, by omega, Z1t (by omega) (by omega)⟩, ?_⟩
    have notbad : ofErr n l = if l.any (ofBad n) then 2 else 0 := by unfold ofErr; rw [if_neg (by omega)]
    refine Loop.fam [0, 6, 17, 18, 19] (fun i : Nat => ⟨[(0, .d (.int .i64 n)), (6, .ref 0 1 0 n true), (17, .d (.list (l.map RatG.row) f)), (18, .d (.int .i64 l.length)), (19, .d (.int .i64 i))],
        [.dvec 1 ((mkR n (ofP (l.take i))).map rowW)]⟩) (fun i => i ≤ l.length ∧ (l.take i).any (ofBad n) = false) (fun i => l.length - i) 0 [0] (by simp) (by simp) (by
          simp only [State.can, AV.can, HO.can, idx, Z01, Z00, Heap.at, Nat.reduceBEq, ↓reduceIte, Option.getD_some, Option.map_some, List.map_cons, List.map_nil, List.getD_cons_zero]
          rw [mkR_zero (p := ofP (l.take 0)) (fun i k _ _ => by simp [ofP])]; rfl) ⟨by omega, by simp⟩ ?_
    rintro i ⟨hi, hb⟩
    simp only [↓Z0k, ↓Z0x, ↓Z1c, ↓Z02, ↓Z0i, ↓Z0j, ↓Z0c, ↓Z06, ↓Z0h, ↓Z1o, ↓Z1m, ↓Z1h, ↓Z1b, ↓blockK_r, ↓Z0g, ↓Z1a, ↓famK_n, ↓Z26, ↓famK_r, ↓Z0p, ↓Z0m, ↓Z0a, Z1g, Z05, Z10, Z0s, Z18, Z0v, evN, Z0f, Z0u, Z1u, Z0e, Z09, Z0d, Z1x, Z0q, evT, Opd.ev, Z01, Z00, Z0t, Z1q, Z17, Z1i, Z0o, Z0r, Z07, Z16, LOp.isNew, State.prune, Z19, Z13, AV.leaf, Heap.at, Z08, Z15, Z04, Z2g, rowW, set_rowW, scal_rowW, default_W, w_or, w_shl1, idx_Rat, Z0y, Z0b, Z03, stepK_store_map1, loadDT_f, RatG.row, Z1z, toNat_cast, Int.reduceToNat, List.length_map, take_mapF, List.take_of_length_le, Z1r, Z20, Z1s, evIdxArr_p, binT, binQ, chk, Z1y, Bool.and_self, resQ, resV, resT, pickV, putRow, Z0n, RetF, AV.frz, AV.frzL, AV.freshP, AV.freshL, DV.less, scal_int, scal_nil, Option.some.injEq, AV.tup.injEq, List.cons.injEq, DV.list.injEq, Nat.le_refl, AV.d.injEq, DV.int.injEq, ↓reduceIte, Nat.reduceAdd, Nat.reduceBEq, List.length_cons, List.length_nil, List.replicate_succ, List.replicate_zero, List.nil_append, List.cons_append, List.append_nil, List.map_cons, List.map_nil, List.all_cons, List.all_nil, List.set_cons_zero, List.set_cons_succ, List.getD_cons_zero, List.getD_cons_succ, List.drop_zero, List.drop_succ_cons, List.take_zero, true_and, and_true, Option.map_some, and_self, Nat.reduceLT, List.reverse_cons, List.reverse_nil, Nat.zero_add, Nat.add_zero, Bool.false_eq_true, Nat.mul_one]
    refine ⟨fun g => ?_, fun g => ?_⟩
    · have g' : i < l.length := by omega
      have e1 := any_take_succ (q := ofBad n) (d := default) g'
      have e2 : ∀ a b, _ := fun a b => ofP_take (a := a) (b := b) g'
      have out : ofBad n (l.getD i default) = true → ofErr n l = 2 ∧ ofG n l = [] := fun h => by
        have h2 : l.any (ofBad n) = true := by
          rw [List.any_eq_true]
          refine ⟨l.getD i default, ?_, h⟩
          rw [Z28 g']; exact List.getElem_mem g'
        have : ofErr n l = 2 := by rw [notbad, if_pos h2]
        exact ⟨this, by unfold ofG; rw [this]; rfl⟩
      generalize l.getD i default = x at *
      simp only [Z12 g' h1]
      have isbad : ∀ q : ofBad n x = true, ([] : List (List DV)) = List.map rowW (ofG n l) ∧ (2 : Int) = ofErr n l := fun q => by
        obtain ⟨o1, o2⟩ := out q
        rw [o1, o2]; simp
      refine ⟨by omega, by omega, fun b1 => isbad (by simp [ofBad, b1]), fun b1 => ⟨by omega, fun b2 => isbad (by simp [ofBad, b2]), fun b2 => ⟨by omega, fun b3 => isbad (by simp [ofBad, b3]), fun b3 => ⟨by omega, fun b4 => isbad (by simp [ofBad, b4]), fun b4 => ?_⟩⟩⟩⟩
      have nb : ofBad n x = false := by simp [ofBad]; omega
      obtain ⟨a, ha⟩ := Int.eq_ofNat_of_zero_le (by omega : 0 ≤ x.num)
      obtain ⟨b, hb2⟩ := Int.eq_ofNat_of_zero_le (by omega : 0 ≤ x.den)
      simp only [ha, hb2] at e2 b2 b4 ⊢
      simp only [wrapU (k := b) (by omega), toNat_cast, w_shl1, w_or]
      rw [mkR_len]
      refine ⟨by omega, by omega, by omega, by omega, by omega, by omega, by omega, ?_⟩
      have han : a < n := by omega
      refine Z0l.mk [0] (i + 1) (by simp) (by simp) ?_ ⟨by omega, by rw [e1, hb, nb]; rfl⟩ (by omega)
      rw [mkR_set (q := ofP (l.take (i + 1))) han]
      · simp only [State.can, AV.can, HO.can, idx, Z01, Z00, Heap.at, Nat.reduceBEq, ↓reduceIte, Option.getD_some, Option.map_some, List.map_cons, List.map_nil, List.getD_cons_zero]
      · intro k hk
        rw [BitVec.getLsbD_or, mkR_get han, one_shl (by omega), e2]
        by_cases hkn : k < n
        · by_cases e3 : b = k
          · subst e3; simp [hkn, hk]
          · have : ¬ (b : Int) = k := by omega
            simp [hkn, hk, e3, this]
        · have : ¬ b = k := by omega
          simp [hkn, this]
      · intro a' k ha' hk hne
        rw [e2]
        have : ¬ (a : Int) = a' := by omega
        simp [this]
    · have : i = l.length := by omega
      subst this
      rw [List.take_length] at hb ⊢
      have e1 : ofErr n l = 0 := by rw [notbad, hb]; rfl
      have e2 : ofG n l = mkR n (ofP l) := by unfold ofG; rw [e1, if_pos rfl]; rfl
      rw [e1, e2]
      simp [mkR_len, List.take_of_length_le]

/-! ### Order -/
end Go.Ago

/- Package race: runs that are played, and their order. Conditions: none. -/
set_option maxRecDepth 100000
set_option linter.unusedSimpArgs false
set_option linter.unusedVariables false
namespace Go.Ago
/-! ### plain, atomic -/
def sp_rplain : Sp := ⟨ActG, fun a => [a.av], fun a => .data True (.d (.bool (isPl a.kind))) true⟩
theorem at_rplain (k o q v : Int) : sp_rplain.at [.agg [.d (.int .i64 k), .d (.int .i64 o), .d (.int .i64 q), .d (.int .i64 v)]] = .data True (.d (.bool (isPl k))) true :=
  Sp.at_enc (s := sp_rplain) (fun x y h => by
    obtain ⟨k, o, q, v⟩ := x; obtain ⟨k', o', q', v'⟩ := y
    simp only [sp_rplain, ActG.av, List.cons.injEq, AV.agg.injEq, AV.d.injEq, DV.int.injEq, and_true, true_and] at h
    obtain ⟨h1, h2, h3, h4⟩ := h
    rw [h1, h2, h3, h4]) ⟨k, o, q, v⟩
theorem body_race_plain {T : Tab} : sp_rplain.Body T V_race_plain L_race_plain R_race_plain := by
  rintro ⟨k, o, q, v⟩ -
  refine .inl ⟨rfl, ?_⟩
  unfold V_race_plain L_race_plain R_race_plain
  simp (maxSteps := 3000000) only [↓Z0x, ↓Z02, ↓Z0i, ↓Z06, ↓Z0h, ↓Z0g, ↓Z1a, ↓Z0p, ↓Z0m, ↓Z0a, Z1g, Z05, Z0s, Z18, Z0v, evN, Z0f, Z0u, Z0e, Z09, Z0d, Z1x, evT, Opd.ev, Z01, Z00, Z0t, Z17, Z1i, Z0o, Z0w, Z07, Z16, LOp.isNew, State.prune, Z19, Z13, AV.leaf, Heap.at, Z08, Z04, ActG.av, Z1r, Z20, Z1s, binT, binQ, Bool.and_self, resQ, resV, resT, pickV, RetS, AV.d.injEq, DV.bool.injEq, ↓reduceIte, Nat.reduceAdd, Nat.reduceBEq, List.length_cons, List.length_nil, List.replicate_succ, List.replicate_zero, List.nil_append, List.append_nil, List.map_cons, List.map_nil, List.all_cons, List.all_nil, List.set_cons_zero, List.getD_cons_zero, true_and, and_self, Nat.reduceLT, Nat.zero_add, Nat.add_zero, Bool.false_eq_true, sp_rplain, ActG.av, Z04]
  refine ⟨fun h => ?_, fun h => ?_⟩
  · rw [isPl_iff.2 (.inl h)]
  · unfold isPl; rw [decide_eq_false h]; rfl
def isSet (k : Int) : Bool := decide (k = 4) || decide (k = 5)
def sp_ratomic : Sp := ⟨ActG, fun a => [a.av], fun a => .data True (.tup [.d (.bool (isAt a.kind)), .d (.bool (isSet a.kind))]) true⟩
theorem at_ratomic (k o q v : Int) : sp_ratomic.at [.agg [.d (.int .i64 k), .d (.int .i64 o), .d (.int .i64 q), .d (.int .i64 v)]] = .data True (.tup [.d (.bool (isAt k)), .d (.bool (isSet k))]) true :=
  Sp.at_enc (s := sp_ratomic) (fun x y h => by
    obtain ⟨k, o, q, v⟩ := x; obtain ⟨k', o', q', v'⟩ := y
    simp only [sp_ratomic, ActG.av, List.cons.injEq, AV.agg.injEq, AV.d.injEq, DV.int.injEq, and_true, true_and] at h
    obtain ⟨h1, h2, h3, h4⟩ := h
    rw [h1, h2, h3, h4]) ⟨k, o, q, v⟩
theorem body_race_atomic {T : Tab} : sp_ratomic.Body T V_race_atomic L_race_atomic R_race_atomic := by
  rintro ⟨k, o, q, v⟩ -
  refine .inl ⟨rfl, ?_⟩
  unfold V_race_atomic L_race_atomic R_race_atomic
  simp (maxSteps := 3000000) only [↓Z0x, ↓Z02, ↓Z0i, ↓Z06, ↓Z0h, ↓Z0g, ↓Z1a, ↓Z0p, ↓Z0m, ↓Z0a, Z1g, Z05, Z10, Z0s, Z18, Z0v, evN, Z0f, Z0u, Z1u, Z0e, Z09, Z0d, Z1x, evT, Opd.ev, Z01, Z00, Z0t, Z17, Z1i, Z0o, Z0w, Z07, Z16, LOp.isNew, State.prune, Z19, Z13, AV.leaf, Heap.at, Z08, Z04, ActG.av, Z1r, Z20, Z1s, binT, binQ, chk, Z1y, Bool.and_self, resQ, resV, resT, pickV, RetS, AV.tup.injEq, List.cons.injEq, AV.d.injEq, DV.bool.injEq, ↓reduceIte, Nat.reduceAdd, Nat.reduceBEq, List.length_cons, List.length_nil, List.replicate_succ, List.replicate_zero, List.nil_append, List.cons_append, List.append_nil, List.map_cons, List.map_nil, List.all_cons, List.all_nil, List.set_cons_zero, List.getD_cons_zero, true_and, and_true, and_self, Nat.reduceLT, List.reverse_cons, List.reverse_nil, Nat.zero_add, Nat.add_zero, Bool.false_eq_true, sp_ratomic, ActG.av, Z04]
  unfold isAt isSet
  refine ⟨fun h => ⟨fun h2 => absurd h2 (by omega), fun h2 => ⟨?_, ?_⟩⟩, fun h => ⟨fun h2 => ⟨fun _ => ⟨?_, ?_⟩, fun h3 => absurd h2 h3⟩, fun h2 => ⟨fun h3 => absurd h3 h2, fun _ => ⟨?_, ?_⟩⟩⟩⟩
  all_goals simp [h, h2]
/-! ### played -/
def rowMem (m : MemG) : List DV := [.list (m.locs.map LocG.row) m.lf, .list (m.past.map rowStamps) m.pf, .list (m.vals.map rowI) m.vf, .list (m.marks.map rowRats) m.mf, .list (m.fronts.map rowRats) m.ff]
/-- The error of a run: of the first step that isn't taken. -/
def firstBad (m : MemG) : List StepG → Int
  | [] => 0
  | s :: r => if Z2a m.plain s = 0 then firstBad (stepM m s) r else Z2a m.plain s
def Z25 (l : List LocG) (t : Int) (ss : List StepG) : Int := if 64 < ss.length then 15 else if newErr l t = 0 then firstBad (newM l t) ss else newErr l t
def mems (m : MemG) (ss : List StepG) (n : Nat) : List MemG := (List.range n).map fun j => goM m ss j
def playL (l : List LocG) (t : Int) (ss : List StepG) : List MemG := if Z25 l t ss = 0 then mems (newM l t) ss ss.length else []
theorem firstBad_go {m : MemG} {ss : List StepG} : ∀ {n}, n ≤ ss.length → (∀ j, j < n → Z2a (goM m ss j).plain (ss.getD j default) = 0) → firstBad m ss = firstBad (goM m ss n) (ss.drop n) := by
  intro n
  induction n with
  | zero => intro _ _; rfl
  | succ n ih =>
    intro hn h
    rw [ih (by omega) (fun j hj => h j (by omega)), goM_succ m (by omega), List.drop_eq_getElem_cons (by omega : n < ss.length)]
    have e := h n (by omega)
    rw [Z28 (by omega)] at e ⊢
    simp only [firstBad]
    rw [if_pos e]
theorem firstBad_ok {m : MemG} {ss : List StepG} (h : ∀ j, j < ss.length → Z2a (goM m ss j).plain (ss.getD j default) = 0) : firstBad m ss = 0 := by
  rw [firstBad_go (Nat.le_refl _) h, List.drop_length]; rfl
theorem firstBad_at {m : MemG} {ss : List StepG} {n : Nat} (hn : n < ss.length) (h : ∀ j, j < n → Z2a (goM m ss j).plain (ss.getD j default) = 0) (hb : Z2a (goM m ss n).plain (ss.getD n default) ≠ 0) : firstBad m ss = Z2a (goM m ss n).plain (ss.getD n default) := by
  rw [firstBad_go (Nat.le_of_lt hn) h, List.drop_eq_getElem_cons hn]
  rw [Z28 hn] at hb ⊢
  simp only [firstBad]
  rw [if_neg hb]
theorem firstBad_zero {m : MemG} : ∀ {ss : List StepG}, firstBad m ss = 0 → ∀ j, j < ss.length → Z2a (goM m ss j).plain (ss.getD j default) = 0 := by
  intro ss
  induction ss generalizing m with
  | nil => intro _ j hj; cases hj
  | cons s r ih =>
    intro h j hj
    simp only [firstBad] at h
    split at h
    · rename_i e
      cases j with
      | zero => exact e
      | succ j => exact ih h j (by simpa using hj)
    · rename_i e; exact absurd h e
theorem mems_succ (m : MemG) (ss : List StepG) (n : Nat) : mems m ss (n + 1) = mems m ss n ++ [goM m ss n] := by unfold mems; rw [List.range_succ, List.map_append]; rfl
theorem mems_len (m : MemG) (ss : List StepG) (n : Nat) : (mems m ss n).length = n := by unfold mems; simp
def sp_played : Sp := ⟨List LocG × Bool × Int × List StepG × Bool, fun x => [.d (.list (x.1.map LocG.row) x.2.1), .d (.int .i64 x.2.2.1), .d (.list (x.2.2.2.1.map StepG.row) x.2.2.2.2)],
  fun x => .data (x.1.length ≤ maxLen ∧ x.2.2.2.1.length ≤ maxLen) (.tup [.d (.list ((playL x.1 x.2.2.1 x.2.2.2.1).map rowMem) false), .d (.int .i64 (Z25 x.1 x.2.2.1 x.2.2.2.1))]) false⟩
theorem at_played (l : List LocG) (f : Bool) (t : Int) (ss : List StepG) (g : Bool) : sp_played.at [.d (.list (l.map LocG.row) f), .d (.int .i64 t), .d (.list (ss.map StepG.row) g)] =
    .data (l.length ≤ maxLen ∧ ss.length ≤ maxLen) (.tup [.d (.list ((playL l t ss).map rowMem) false), .d (.int .i64 (Z25 l t ss))]) false :=
  Sp.at_enc (s := sp_played) (fun x y h => by
    obtain ⟨l, f, t, ss, g⟩ := x; obtain ⟨l', f', t', ss', g'⟩ := y
    simp only [sp_played, List.cons.injEq, AV.d.injEq, DV.list.injEq, DV.int.injEq, and_true, true_and] at h
    obtain ⟨⟨h1, h2⟩, h3, h4, h5⟩ := h
    rw [Z1k LocG.row_inj h1, h2, h3, Z1k StepG.row_inj h4, h5]) (l, f, t, ss, g)
def playSt (M : MemG) (ss : List StepG) (g : Bool) : Nat → State
  | 0 => ⟨[(8, .ptr 0 5 0 0), (10, .d (.list [] true)), (25, .d (.list (ss.map StepG.row) g)), (26, .d (.int .i64 ss.length)), (27, .d (.int .i64 0))], [.vec 5 [M.row]]⟩
  | i + 1 => ⟨[(8, .ptr 0 5 0 0), (10, .ref 1 5 0 (i + 1) true), (25, .d (.list (ss.map StepG.row) g)), (26, .d (.int .i64 ss.length)), (27, .d (.int .i64 ((i + 1 : Nat) : Int)))], [.vec 5 [(goM M ss (i + 1)).row], .dvec 5 ((mems M ss (i + 1)).map rowMem)]⟩
set_option maxHeartbeats 4000000 in
theorem body_race_played {T : Tab} {n1 n2 : Nat} (k1 : Knows T n1 sp_New) (k2 : Knows T n2 sp_Do) : sp_played.Body T V_race_played (L_race_played n1 n2) R_race_played := by
  have F1 := k1.F; have G1 := k1.G; have F2 := k2.F; have G2 := k2.G
  rintro ⟨l, f, t, ss, g⟩ ⟨hl, hs⟩
  have hl : l.length ≤ maxLen := hl
  have hs : ss.length ≤ maxLen := hs
  refine ⟨rfl, ?_⟩
  unfold V_race_played L_race_played R_race_played
  simp (maxSteps := 3000000) only [↓Z0k, ↓Z0x, ↓Z02, ↓Z0i, ↓Z0j, ↓Z0c, ↓Z1n, ↓Z06, ↓Z0h, ↓Z1m, ↓Z0g, ↓Z1a, ↓Z1j, ↓Z0a, Z1g, Z05, Z0s, Z0v, evN, Z11, Z0f, Z0u, Z0e, Z09, Z0d, Z0q, evT, Opd.ev, Z01, Z00, Z0t, Z1q, Z17, Z0o, Z0r, Z0w, Z07, Z16, LOp.isNew, State.prune, Z19, Z13, AV.leaf, Heap.at, Z0b, Z03, Z2i, List.length_map, Z1s, binT, binQ, Bool.and_self, resQ, resV, resT, Z0z, Z1e, fnOf, Z1d, Z23, putRow, Z0n, RetD, AV.frz, AV.frzL, DV.less, Option.some.injEq, AV.tup.injEq, List.cons.injEq, DV.list.injEq, Nat.le_refl, AV.d.injEq, DV.int.injEq, ↓reduceIte, Nat.reduceAdd, Nat.reduceBEq, List.length_cons, List.length_nil, List.replicate_succ, List.replicate_zero, List.nil_append, List.append_nil, List.map_cons, List.map_nil, List.all_cons, List.all_nil, List.set_cons_zero, List.getD_cons_zero, List.getD_cons_succ, List.drop_zero, List.drop_succ_cons, List.take_zero, List.flatten_cons, List.flatten_nil, true_and, and_true, Option.map_some, and_self, Nat.reduceLT, Nat.zero_add, Nat.add_zero, Bool.false_eq_true, sp_played, F1, G1, at_New, MemG.av, Z03]
  have bad : ∀ {e : Int}, Z25 l t ss = e → e ≠ 0 → [] = List.map rowMem (playL l t ss) := fun {e} h h2 => by
    unfold playL; rw [if_neg (by omega)]; rfl
  refine ⟨fun c => ?_, fun c => ⟨hl, fun c2 => ?_, fun c2 => ?_⟩⟩
  · have e : Z25 l t ss = 15 := if_pos (by omega)
    exact ⟨bad e (by decide), e.symm⟩
  · have hpe : Z25 l t ss = firstBad (newM l t) ss := by unfold Z25; rw [if_neg (by omega), if_pos c2]
    have hg0 := newM_good c2
    have hpl : firstBad (newM l t) ss = 0 → playL l t ss = mems (newM l t) ss ss.length := fun h => by unfold playL; rw [if_pos (by rw [hpe]; exact h)]
    generalize newM l t = M at *
    refine Loop.fam [8, 10, 25, 26, 27] (playSt M ss g) (fun i => i ≤ ss.length ∧ ∀ j, j < i → Z2a (goM M ss j).plain (ss.getD j default) = 0) (fun i => ss.length - i) 0 [0] (by simp) (by simp) (by simp only [State.can, AV.can, AV.canL, HO.can, Z14, idx, Z01, Z00, Heap.at, Nat.reduceBEq, ↓reduceIte, Option.getD_some, Option.map_some, List.map_cons, List.map_nil, List.getD_cons_zero, playSt, MemG.row]) ⟨Nat.zero_le _, fun j hj => absurd hj (by omega)⟩ ?_
    rintro i ⟨hi, hj⟩
    have hi : i ≤ ss.length := hi
    have hgood : (goM M ss i).plain.Good (1 + i) := goM_good hg0 ss i
    have next : i < ss.length → Z2a (goM M ss i).plain (ss.getD i default) = 0 → (∀ j, j < i + 1 → Z2a (goM M ss j).plain (ss.getD j default) = 0) ∧ resM (goM M ss i).plain (ss.getD i default) = goM M ss (i + 1) := fun hlt he => by
      refine ⟨fun j hj2 => ?_, ?_⟩
      · rcases Nat.lt_or_eq_of_le (Nat.le_of_lt_succ hj2) with h | rfl
        · exact hj j h
        · exact he
      · rw [goM_succ M hlt]; unfold stepM resM; rw [if_pos he, if_pos he]
    cases i with
    | zero =>
      have e0 : goM M ss 0 = M := rfl
      rw [e0] at hgood next
      simp (maxSteps := 3000000) only [↓Z0k, ↓Z0x, ↓Z1c, ↓Z02, ↓Z0i, ↓Z0j, ↓Z0c, ↓Z06, ↓Z0h, ↓Z1o, ↓Z1m, ↓Z1h, ↓Z1b, ↓blockK_r, ↓Z0g, ↓Z1a, ↓famK_n, ↓Z26, ↓famK_r, ↓Z1j, ↓Z0a, Z1g, Z05, Z0s, Z0v, evN, Z11, Z0f, Z0u, Z0e, Z09, Z0d, Z0q, evT, Opd.ev, Z01, Z00, Z0t, Z1q, Z17, Z0o, Z0r, Z07, Z16, LOp.isNew, State.prune, Z19, Z13, AV.leaf, Heap.at, Z08, Z15, Z04, idx_Step, Z0b, Z03, StepG.row, Z1z, Int.reduceToNat, evAppend, srcOf, Src.all, Src.len, Src.leaf, joinV, mkVec, drows, List.take_of_length_le, Nat.sub_zero, Z1r, Z20, Z1s, binT, binQ, Bool.and_self, resQ, resV, resT, Z0z, Z1e, fnOf, Z1d, isD, Z23, buildRQ, buildRT, List.mem_cons, List.not_mem_nil, or_false, forall_eq, putRow, dcells, Z0n, RetD, AV.frz, AV.frzL, DV.less, Option.some.injEq, AV.tup.injEq, List.cons.injEq, DV.list.injEq, Nat.le_refl, AV.d.injEq, DV.int.injEq, ↓reduceIte, Nat.reduceAdd, Nat.reduceBEq, List.length_cons, List.length_nil, List.replicate_succ, List.replicate_zero, List.nil_append, List.cons_append, List.append_nil, List.map_cons, List.map_nil, List.all_cons, List.all_nil, List.set_cons_zero, List.set_cons_succ, List.getD_cons_zero, List.getD_cons_succ, List.drop_zero, List.drop_succ_cons, List.take_zero, List.flatten_cons, List.flatten_nil, true_and, and_true, or_true, Option.bind_some, Option.map_some, false_implies, implies_true, and_self, Nat.reduceLT, Nat.zero_add, Nat.add_zero, Bool.false_eq_true, playSt, MemG.row, F2, G2, at_DoM, MemG.av, Z04, Z03]
      have rw1 : IntKind.i64.wrap (0 + 1) = ((1 : Nat) : Int) := by decide
      refine ⟨fun h => ⟨⟨by omega, by omega⟩, Z1t (by omega) (by omega), wfM hgood (by omega), fun he => ?_, fun he => ?_⟩, fun h => ?_⟩
      · obtain ⟨n1, n2⟩ := next (by omega) he
        rw [n2, rw1]
        exact Z0l.mk [0, 3] 1 (by simp) (by simp) (by simp only [State.can, AV.can, AV.canL, HO.can, Z14, idx, Z01, Z00, Heap.at, Nat.reduceBEq, ↓reduceIte, Nat.reduceEqDiff, Option.getD_some, Option.map_some, List.map_cons, List.map_nil, List.getD_cons_zero, List.getD_cons_succ, playSt, MemG.row]; rfl) ⟨by show 1 ≤ _; omega, n1⟩ (by show _ - 1 < _; omega)
      · have e := firstBad_at (m := M) (ss := ss) (n := 0) (by omega) (fun j hj => absurd hj (by omega)) he
        have e2 : Z25 l t ss = Z2a M.plain (ss.getD 0 default) := hpe.trans e
        exact ⟨bad e2 he, e2.symm⟩
      · have hss : ss = [] := List.length_eq_zero_iff.1 (by omega)
        subst hss
        have e2 : Z25 l t [] = 0 := hpe.trans rfl
        exact ⟨by rw [hpl rfl]; rfl, e2.symm⟩
    | succ i =>
      have hrl : ((mems M ss (i + 1)).map rowMem).length = i + 1 := by rw [List.length_map, mems_len]
      have htk : List.take (i + 1) (mems M ss (i + 1)) = mems M ss (i + 1) := List.take_of_length_le (by rw [mems_len]; omega)
      simp (maxSteps := 3000000) only [↓Z0k, ↓Z0x, ↓Z1c, ↓Z02, ↓Z0i, ↓Z0j, ↓Z0c, ↓Z06, ↓Z0h, ↓Z1o, ↓Z1m, ↓Z1h, ↓Z1b, ↓blockK_r, ↓Z0g, ↓Z1a, ↓famK_n, ↓Z26, ↓famK_r, ↓Z1j, ↓Z0a, Z1g, Z05, Z0s, Z0v, evN, Z11, Z0f, Z0u, Z0e, Z09, Z0d, Z0q, evT, Opd.ev, Z01, Z00, Z0t, Z1q, Z17, Z0o, Z0r, Z07, Z16, LOp.isNew, State.prune, Z19, Z13, AV.leaf, Heap.at, Z08, Z15, Z04, idx_Step, Z0b, Z03, StepG.row, Z1z, Int.toNat_natCast, evAppend, srcOf, Src.all, Src.len, Src.leaf, joinV, mkVec, drows, List.length_map, List.take_of_length_le, Z1r, Z20, Z1s, binT, binQ, Bool.and_self, resQ, resV, resT, Z0z, Z1e, fnOf, Z1d, isD, Z23, buildRQ, buildRT, List.mem_cons, List.not_mem_nil, or_false, forall_eq, putRow, dcells, Z0n, RetD, AV.frz, AV.frzL, DV.less, Option.some.injEq, AV.tup.injEq, List.cons.injEq, DV.list.injEq, Nat.le_refl, AV.d.injEq, DV.int.injEq, ↓reduceIte, Nat.reduceAdd, Nat.reduceBEq, List.length_cons, List.length_nil, List.replicate_succ, List.replicate_zero, List.nil_append, List.cons_append, List.append_nil, List.map_cons, List.map_nil, List.all_cons, List.all_nil, List.set_cons_zero, List.set_cons_succ, List.getD_cons_zero, List.getD_cons_succ, List.drop_zero, List.drop_succ_cons, List.take_zero, List.flatten_cons, List.flatten_nil, true_and, and_true, Option.bind_some, Option.map_some, and_self, Nat.reduceLT, Nat.zero_add, Nat.add_zero, Bool.false_eq_true, playSt, MemG.row, F2, G2, at_DoM, MemG.av, Z04, Z03, mems_len]
      refine ⟨fun h => ⟨⟨by omega, by omega⟩, Z1t (by omega) (by omega), wfM hgood (by omega), fun he => ?_, fun he => ?_⟩, fun h => ?_⟩
      · have hlt : i + 1 < ss.length := by omega
        obtain ⟨n1, n2⟩ := next hlt he
        rw [n2, Z12 hlt hs]
        exact Z0l.mk [0, 4] (i + 2) (by simp) (by simp) (by simp only [State.can, AV.can, AV.canL, HO.can, Z14, idx, Z01, Z00, Heap.at, Nat.reduceBEq, ↓reduceIte, Nat.reduceEqDiff, Option.getD_some, Option.map_some, List.map_cons, List.map_nil, List.getD_cons_zero, List.getD_cons_succ, playSt, MemG.row, mems_succ M ss (i + 1), List.map_append]; rfl) ⟨by show i + 2 ≤ _; omega, n1⟩ (by show _ - (i + 2) < _ - (i + 1); omega)
      · have e := firstBad_at (m := M) (ss := ss) (n := i + 1) (by omega) hj he
        have e2 : Z25 l t ss = Z2a (goM M ss (i + 1)).plain (ss.getD (i + 1) default) := hpe.trans e
        exact ⟨bad e2 he, e2.symm⟩
      · have hie : i + 1 = ss.length := by omega
        have e := firstBad_ok (m := M) (ss := ss) (by rw [← hie]; exact hj)
        exact ⟨by rw [hpl e, hie], (hpe.trans e).symm⟩
  · have e : Z25 l t ss = newErr l t := by unfold Z25; rw [if_neg (by omega), if_neg c2]
    exact ⟨bad e c2, e.symm⟩
end Go.Ago

/- Package race: the order of a run. Conditions: none. -/
set_option maxRecDepth 100000
set_option linter.unusedSimpArgs false
set_option linter.unusedVariables false
namespace Go.Ago
/-! ### Pairs -/
def pRow (q : Nat → Nat → Bool) (i k : Nat) : List RatG := ((List.range k).filter fun j => decide (i < j) && q i j).map fun (j : Nat) => ⟨(i : Int), (j : Int)⟩
def pAll (q : Nat → Nat → Bool) (n i : Nat) : List RatG := (List.range i).flatMap fun j => pRow q j n
theorem pRow_start (q : Nat → Nat → Bool) (i : Nat) : pRow q i (i + 1) = [] := by
  unfold pRow
  have : (List.range (i + 1)).filter (fun j => decide (i < j) && q i j) = [] := by
    rw [List.filter_eq_nil_iff]
    intro j hj
    have := List.mem_range.1 hj
    simp; omega
  rw [this]; rfl
theorem pRow_succ (q : Nat → Nat → Bool) {i k : Nat} (h : i < k) : pRow q i (k + 1) = pRow q i k ++ (if q i k = true then [⟨i, k⟩] else []) := by
  unfold pRow
  rw [List.range_succ, List.filter_append, List.map_append]
  congr 1
  rw [List.filter_cons, decide_eq_true h, Bool.true_and]
  split <;> rfl
theorem pAll_succ (q : Nat → Nat → Bool) (n i : Nat) : pAll q n (i + 1) = pAll q n i ++ pRow q i n := by unfold pAll; rw [List.range_succ, List.flatMap_append]; simp
theorem pRow_len (q : Nat → Nat → Bool) (i k : Nat) : (pRow q i k).length ≤ k := by
  unfold pRow
  rw [List.length_map]
  exact Nat.le_trans (List.length_filter_le _ _) (by simp)
theorem pAll_len (q : Nat → Nat → Bool) (n i : Nat) : (pAll q n i).length ≤ i * n := by
  induction i with
  | zero => simp [pAll]
  | succ i ih => rw [pAll_succ, List.length_append, Nat.succ_mul]; have := pRow_len q i n; omega
theorem pRow_mem {q : Nat → Nat → Bool} {i k : Nat} {x : RatG} : x ∈ pRow q i k ↔ ∃ j, j < k ∧ i < j ∧ q i j = true ∧ x = ⟨i, j⟩ := by
  unfold pRow
  rw [List.mem_map]
  constructor
  · rintro ⟨j, h, rfl⟩
    rw [List.mem_filter, List.mem_range] at h
    simp only [Bool.and_eq_true, decide_eq_true_eq] at h
    exact ⟨j, h.1, h.2.1, h.2.2, rfl⟩
  · rintro ⟨j, h1, h2, h3, rfl⟩
    exact ⟨j, List.mem_filter.2 ⟨List.mem_range.2 h1, by simp [h2, h3]⟩, rfl⟩
theorem pAll_mem {q : Nat → Nat → Bool} {n i : Nat} {x : RatG} : x ∈ pAll q n i ↔ ∃ a b, a < i ∧ b < n ∧ a < b ∧ q a b = true ∧ x = ⟨a, b⟩ := by
  unfold pAll
  rw [List.mem_flatMap]
  constructor
  · rintro ⟨a, ha, h⟩
    obtain ⟨b, h1, h2, h3, h4⟩ := pRow_mem.1 h
    exact ⟨a, b, List.mem_range.1 ha, h1, h2, h3, h4⟩
  · rintro ⟨a, b, h1, h2, h3, h4, h5⟩
    exact ⟨a, List.mem_range.2 h1, pRow_mem.2 ⟨b, h2, h3, h4, h5⟩⟩
def accAV (id : Nat) : List RatG → AV
  | [] => .d (.list [] true)
  | a :: r => .ref id 2 0 (r.length + 1) true
def accO : List RatG → Heap
  | [] => []
  | a :: r => [.dvec 2 ((a :: r).map RatG.row)]
theorem at_Of0 (n : Int) (f : Bool) : sp_Of.at [.d (.int .i64 n), .d (.list [] f)] = .data (0 ≤ maxLen) (.tup [.d (.list ((ofG n []).map rowW) false), .d (.int .i64 (ofErr n []))]) true := at_Of n [] f
theorem at_OfC (n : Int) (a : RatG) (r : List RatG) (f : Bool) : sp_Of.at [.d (.int .i64 n), .d (.list ([.int .i64 a.num, .int .i64 a.den] :: r.map RatG.row) f)] = .data ((a :: r).length ≤ maxLen) (.tup [.d (.list ((ofG n (a :: r)).map rowW) false), .d (.int .i64 (ofErr n (a :: r)))]) true := at_Of n (a :: r) f
theorem ofG_le {n : Int} {l : List RatG} : (ofG n l).length ≤ 64 := by
  unfold ofG
  split
  · rename_i h
    rw [mkR_len]
    unfold ofErr at h
    split at h
    · cases h
    · omega
  · simp
theorem ret1 (l : List W) : RetRows 1 (l.map rowW) (.ref 0 1 0 l.length true) [.dvec 1 (l.map rowW)] := .inl ⟨0, true, by rw [List.length_map], rfl⟩
theorem ret1' (l : List W) (o : HO) : RetRows 1 (l.map rowW) (.ref 1 1 0 l.length true) [o, .dvec 1 (l.map rowW)] := .inl ⟨1, true, by rw [List.length_map], rfl⟩
/-! ### ordered -/
def dirB (a b : StepG) : Bool := decide (a.thread = b.thread) || (isSet a.act.kind && isAt b.act.kind && decide (a.act.loc = b.act.loc))
theorem dirB_1 {a b : StepG} (h : a.thread = b.thread) : dirB a b = true := by unfold dirB; rw [decide_eq_true h]; rfl
theorem dirB_2 {a b : StepG} (h1 : isSet a.act.kind = true) (h2 : isAt b.act.kind = true) (h3 : a.act.loc = b.act.loc) : dirB a b = true := by unfold dirB; rw [h1, h2, decide_eq_true h3]; simp
theorem dirB_3 {a b : StepG} (h : ¬ a.thread = b.thread) (h1 : isSet a.act.kind = false) : dirB a b = false := by unfold dirB; rw [decide_eq_false h, h1]; rfl
theorem dirB_4 {a b : StepG} (h : ¬ a.thread = b.thread) (h1 : isAt b.act.kind = false) : dirB a b = false := by unfold dirB; rw [decide_eq_false h, h1]; simp
theorem dirB_5 {a b : StepG} (h : ¬ a.thread = b.thread) (h1 : ¬ a.act.loc = b.act.loc) : dirB a b = false := by unfold dirB; rw [decide_eq_false h, decide_eq_false h1]; simp
def dirQ (ss : List StepG) (i k : Nat) : Bool := dirB (ss.getD i default) (ss.getD k default)
def ordG (ss : List StepG) : List W := plusG (ofG ss.length (pAll (dirQ ss) ss.length ss.length))
def sp_ordered : Sp := ⟨List StepG × Bool, fun x => [.d (.list (x.1.map StepG.row) x.2)], fun x => .rows (x.1.length ≤ 64) 1 ((ordG x.1).map rowW)⟩
theorem at_ordered (ss : List StepG) (g : Bool) : sp_ordered.at [.d (.list (ss.map StepG.row) g)] = .rows (ss.length ≤ 64) 1 ((ordG ss).map rowW) :=
  Sp.at_enc (s := sp_ordered) (fun x y h => by
    obtain ⟨ss, g⟩ := x; obtain ⟨ss', g'⟩ := y
    simp only [sp_ordered, List.cons.injEq, AV.d.injEq, DV.list.injEq, and_true] at h
    rw [Z1k StepG.row_inj h.1, h.2]) (ss, g)
def ordSt1 (ss : List StepG) (g : Bool) (x : Nat × List RatG) : State :=
  ⟨[(0, .d (.list (ss.map StepG.row) g)), (14, .d (.list (ss.map StepG.row) g)), (15, .d (.int .i64 ss.length)), (16, .d (.int .i64 x.1)), (3, accAV 0 x.2)], accO x.2⟩
def ordSt2 (ss : List StepG) (g : Bool) (i : Nat) (x : Nat × List RatG) : State :=
  ⟨[(0, .d (.list (ss.map StepG.row) g)), (14, .d (.list (ss.map StepG.row) g)), (15, .d (.int .i64 ss.length)), (16, .d (.int .i64 i)), (4, .d (.int .i64 i)), (5, .ptr 0 7 0 0), (7, .d (.bool (isSet (ss.getD i default).act.kind))), (8, .d (.int .i64 x.1)), (3, accAV 1 x.2)],
    .vec 7 [[.d (.int .i64 (ss.getD i default).thread), .d (.int .i64 (ss.getD i default).act.kind), .d (.int .i64 (ss.getD i default).act.loc), .d (.int .i64 (ss.getD i default).act.old), .d (.int .i64 (ss.getD i default).act.new), .d (.int .i64 (ss.getD i default).when.num), .d (.int .i64 (ss.getD i default).when.den)]] :: accO x.2⟩
set_option maxHeartbeats 4000000 in
theorem body_race_ordered {T : Tab} {n1 n2 n3 : Nat} (k1 : Knows T n1 sp_ratomic) (k2 : Knows T n2 sp_Of) (k3 : Knows T n3 sp_Plus) : sp_ordered.Body T V_race_ordered (L_race_ordered n1 n2 n3) R_race_ordered := by
  have F1 := k1.F; have G1 := k1.G; have F2 := k2.F; have G2 := k2.G; have F3 := k3.F; have G3 := k3.G
  rintro ⟨ss, g⟩ hs
  have hs : ss.length ≤ 64 := hs
  refine ⟨fun r hr => by obtain ⟨x, -, rfl⟩ := List.mem_map.1 hr; rfl, ?_⟩
  show vck T 0 V_race_ordered (L_race_ordered n1 n2 n3) ⟨Z0w 0 [.d (.list (ss.map StepG.row) g)], []⟩ (retK R_race_ordered (RetRows 1 ((ordG ss).map rowW)))
  generalize hX : RetRows 1 _ = X
  unfold V_race_ordered L_race_ordered R_race_ordered
  simp (maxSteps := 3000000) only [↓Z02, ↓Z0i, ↓Z0c, ↓Z1n, ↓Z06, ↓Z0h, ↓Z0g, Z1g, Z05, Z0s, Z0v, evN, Z0f, Z0u, Z0e, Z0d, evT, Opd.ev, Z01, Z00, Z0t, Z0w, Z07, Z16, LOp.isNew, State.prune, Z2i, List.length_map, Z0n, ↓reduceIte, Nat.reduceBEq, List.length_nil, List.replicate_zero, List.append_nil, List.map_cons, List.map_nil, true_and, Nat.add_zero, Bool.false_eq_true]
  refine Loop.fam [0, 14, 15, 16, 3] (ordSt1 ss g) (fun x => x.1 ≤ ss.length ∧ x.2 = pAll (dirQ ss) ss.length x.1) (fun x => ss.length - x.1) (0, []) [] (by simp) (by simp) (by simp only [State.can, AV.can, HO.can, Z01, Z00, Heap.at, Nat.reduceBEq, Option.getD_some, List.map_cons, List.map_nil, ordSt1, accAV, accO]; rfl) ⟨Nat.zero_le _, rfl⟩ ?_
  rintro ⟨i, L⟩ ⟨hi, hL⟩
  have hi : i ≤ ss.length := hi
  have hL : L = pAll (dirQ ss) ss.length i := hL
  have hm : maxLen = 9223372036854775807 := rfl
  have hLl : L.length ≤ i * ss.length := by rw [hL]; exact pAll_len _ _ _
  have hLb : L.length ≤ 64 * 64 := Nat.le_trans hLl (Nat.mul_le_mul (by omega) hs)
  have key : ∀ k, i < k → k < ss.length → True := fun _ _ _ => trivial
  obtain _ | ⟨c0, e0⟩ := L
  case' nil =>
    simp (maxSteps := 3000000) only [↓Z0k, ↓Z0x, ↓Z1c, ↓Z02, ↓Z0i, ↓Z0j, ↓Z0c, ↓Z1n, ↓Z06, ↓Z0h, ↓Z1o, ↓Z1b, ↓Z0g, ↓Z1a, ↓Z26, ↓Z0a, Z1g, Z05, Z0s, Z0v, evN, Z11, Z0f, Z0u, Z0e, Z09, Z0d, Z0q, evT, Opd.ev, Z01, Z00, Z0t, Z1q, Z17, Z0o, Z0r, Z07, Z16, LOp.isNew, State.prune, Z19, Z13, AV.leaf, Heap.at, Z08, Z15, Z04, idx_Step, Z0b, Z03, StepG.row, Z1z, Int.toNat_natCast, Z2i, List.length_map, List.take_of_length_le, Z1r, Z20, Z1s, binT, binQ, Bool.and_self, resQ, resV, resT, Z0z, Z1e, fnOf, Z1d, isD, Z23, putRow, Z0n, Nat.le_refl, ↓reduceIte, Nat.reduceAdd, Nat.reduceBEq, List.length_cons, List.length_nil, List.replicate_succ, List.replicate_zero, List.nil_append, List.append_nil, List.map_cons, List.map_nil, List.all_cons, List.all_nil, List.set_cons_zero, List.getD_cons_zero, List.getD_cons_succ, List.drop_zero, List.drop_succ_cons, List.take_succ_cons, List.take_zero, List.flatten_cons, List.flatten_nil, true_and, and_true, true_or, and_self, Nat.reduceLT, Nat.reduceLeDiff, Nat.zero_add, Nat.add_zero, Bool.false_eq_true, ordSt1, accAV, accO, F1, G1, F2, G2, F3, G3, at_ratomic, at_Of0, at_Plus, Z04, Z03]
    refine ⟨fun c => ⟨⟨by omega, by omega⟩, ?_⟩, fun c => ?_⟩
  case' cons =>
    simp (maxSteps := 3000000) only [↓Z0k, ↓Z0x, ↓Z1c, ↓Z02, ↓Z0i, ↓Z0j, ↓Z0c, ↓Z1n, ↓Z06, ↓Z0h, ↓Z1o, ↓Z1b, ↓Z0g, ↓Z1a, ↓Z26, ↓Z0a, Z1g, Z05, Z0s, Z0v, evN, Z11, Z0f, Z0u, Z0e, Z09, Z0d, Z0q, evT, Opd.ev, Z01, Z00, Z0t, Z1q, Z17, Z0o, Z0r, Z07, Z16, LOp.isNew, State.prune, Z19, Z13, AV.leaf, Heap.at, Z08, Z15, Z04, idx_Step, Z0b, Z03, RatG.row, StepG.row, Z1z, Int.toNat_natCast, Z2i, List.length_map, List.take_of_length_le, Z1r, Z20, Z1s, binT, binQ, Bool.and_self, resQ, resV, resT, Z0z, Z1e, fnOf, Z1d, isD, Z23, putRow, Z0n, Nat.le_refl, ↓reduceIte, Nat.reduceAdd, Nat.reduceBEq, List.length_cons, List.length_nil, List.replicate_succ, List.replicate_zero, List.nil_append, List.cons_append, List.append_nil, List.map_cons, List.map_nil, List.all_cons, List.all_nil, List.set_cons_zero, List.set_cons_succ, List.getD_cons_zero, List.getD_cons_succ, List.drop_zero, List.drop_succ_cons, List.take_succ_cons, List.take_zero, List.flatten_cons, List.flatten_nil, true_and, and_true, true_or, and_self, Nat.reduceLT, Nat.reduceLeDiff, Nat.zero_add, Nat.add_zero, Bool.false_eq_true, ordSt1, accAV, accO, F1, G1, F2, G2, F3, G3, at_ratomic, at_OfC, at_Plus, Z04, Z03]
    refine ⟨fun c => ⟨⟨by omega, by omega⟩, ?_⟩, fun c => ?_⟩
  case nil.refine_2 =>
    have hie : i = ss.length := by omega
    subst hie
    rw [← hX]
    unfold ordG
    rw [← hL]
    exact ⟨by decide, Nat.le_trans ofG_le (by decide), ret1 _⟩
  case cons.refine_2 =>
    have hie : i = ss.length := by omega
    subst hie
    rw [← hX]
    unfold ordG
    rw [← hL]
    have hLc : e0.length + 1 ≤ 64 * 64 := hLb
    exact ⟨by omega, Nat.le_trans ofG_le (by decide), ret1' _ _⟩
  case' nil.refine_1 =>
    refine Loop.fam [0, 14, 15, 16, 4, 5, 7, 8, 3] (ordSt2 ss g i) (fun x => i < x.1 ∧ x.1 ≤ ss.length ∧ x.2 = pAll (dirQ ss) ss.length i ++ pRow (dirQ ss) i x.1) (fun x => ss.length - x.1) (i + 1, []) [0] (by simp) (by simp) (by simp only [State.can, AV.can, AV.canL, HO.can, Z14, idx, Z01, Z00, Heap.at, Nat.reduceBEq, ↓reduceIte, Option.getD_some, Option.map_some, List.map_cons, List.map_nil, List.getD_cons_zero, ordSt2, accAV, accO, Z12 (show i < ss.length by omega) (by omega)]) ⟨Nat.lt_succ_self _, by show i + 1 ≤ _; omega, by show [] = _; rw [pRow_start, ← hL]; rfl⟩ ?_
  case' cons.refine_1 =>
    refine Loop.fam [0, 14, 15, 16, 4, 5, 7, 8, 3] (ordSt2 ss g i) (fun x => i < x.1 ∧ x.1 ≤ ss.length ∧ x.2 = pAll (dirQ ss) ss.length i ++ pRow (dirQ ss) i x.1) (fun x => ss.length - x.1) (i + 1, c0 :: e0) [1, 0] (by simp) (by simp) (by simp only [State.can, AV.can, AV.canL, HO.can, Z14, idx, Z01, Z00, Heap.at, Nat.reduceBEq, ↓reduceIte, Nat.reduceEqDiff, Option.getD_some, Option.map_some, List.map_cons, List.map_nil, List.getD_cons_zero, List.getD_cons_succ, ordSt2, accAV, accO, Z12 (show i < ss.length by omega) (by omega)]; rfl) ⟨Nat.lt_succ_self _, by show i + 1 ≤ _; omega, by show c0 :: e0 = _; rw [pRow_start, ← hL, List.append_nil]⟩ ?_
  all_goals
    have hi' : i < ss.length := by omega
    clear hL hLl hLb
    rintro ⟨k, M⟩ ⟨hik, hk, hM⟩
    have hik : i < k := hik
    have hk : k ≤ ss.length := hk
    have hM : M = pAll (dirQ ss) ss.length i ++ pRow (dirQ ss) i k := hM
    have hMl : M.length ≤ 4160 := by
      rw [hM, List.length_append]
      have h1 := pAll_len (dirQ ss) ss.length i
      have h2 := pRow_len (dirQ ss) i k
      have h3 : i * ss.length ≤ 64 * 64 := Nat.mul_le_mul (by omega) hs
      omega
    obtain _ | ⟨d, r⟩ := M
    case' nil =>
      simp (maxSteps := 3000000) only [↓Z0k, ↓Z1c, ↓Z02, ↓Z0i, ↓Z0j, ↓Z0c, ↓Z06, ↓Z0h, ↓Z1o, ↓Z1h, ↓Z1b, ↓Z0g, ↓famK_n, ↓Z26, ↓Z0p, ↓Z0m, ↓Z0a, Z1g, Z05, Z0s, Z18, Z0v, evN, Z11, Z0f, Z0u, Z0e, Z09, Z0d, Z1v, Z1x, guardG_no, Z0q, evT, Opd.ev, Z01, Z00, Z0t, Z1q, Z17, Z1i, Z0o, Z0r, Z07, Z16, LOp.isNew, State.prune, Z19, Z13, AV.leaf, Heap.at, Z08, Z15, Z04, idx_Step, Z0b, Z03, StepG.row, Z1z, Int.toNat_natCast, Z2i, evAppend, srcOf, Src.all, Src.len, Src.leaf, joinV, mkVec, drows, List.length_map, List.take_of_length_le, Z1r, Z20, Z1s, binT, binQ, Bool.and_self, pickV, Z0z, Z1e, fnOf, Z1d, isD, Z23, buildQ, buildT, buildRQ, buildRT, List.mem_cons, List.not_mem_nil, or_false, forall_eq, putRow, dcells, Z0n, Nat.le_refl, ↓reduceIte, Nat.reduceAdd, Nat.reduceBEq, List.length_cons, List.length_nil, List.replicate_succ, List.replicate_zero, List.nil_append, List.cons_append, List.append_nil, List.map_cons, List.map_nil, List.all_cons, List.all_nil, List.set_cons_zero, List.set_cons_succ, List.getD_cons_zero, List.getD_cons_succ, List.drop_zero, List.drop_succ_cons, List.take_succ_cons, List.take_zero, List.flatten_cons, List.flatten_nil, true_and, or_true, Option.bind_some, Option.map_some, false_implies, implies_true, and_self, Nat.reduceLT, Nat.reduceLeDiff, Nat.zero_add, Nat.add_zero, Bool.false_eq_true, ordSt2, accAV, accO, F1, G1, at_ratomic, Z04, Z03]
    case' cons =>
      simp (maxSteps := 3000000) only [↓Z0k, ↓Z1c, ↓Z02, ↓Z0i, ↓Z0j, ↓Z0c, ↓Z06, ↓Z0h, ↓Z1o, ↓Z1h, ↓Z1b, ↓Z0g, ↓famK_n, ↓Z26, ↓Z0p, ↓Z0m, ↓Z0a, Z1g, Z05, Z0s, Z18, Z0v, evN, Z11, Z0f, Z0u, Z0e, Z09, Z0d, Z1v, Z1x, guardG_no, Z0q, evT, Opd.ev, Z01, Z00, Z0t, Z1q, Z17, Z1i, Z0o, Z0r, Z07, Z16, LOp.isNew, State.prune, Z19, Z13, AV.leaf, Heap.at, Z08, Z15, Z04, idx_Step, Z0b, Z03, RatG.row, StepG.row, Z1z, app_rowRat, Int.toNat_natCast, Z2i, evAppend, srcOf, Src.all, Src.len, Src.leaf, joinV, mkVec, drows, List.length_map, List.take_of_length_le, Z1r, Z20, Z1s, binT, binQ, Bool.and_self, pickV, Z0z, Z1e, fnOf, Z1d, isD, Z23, buildQ, buildT, buildRQ, buildRT, List.mem_cons, List.not_mem_nil, or_false, forall_eq, putRow, dcells, Z0n, Nat.le_refl, ↓reduceIte, Nat.reduceAdd, Nat.reduceBEq, List.length_cons, List.length_nil, List.replicate_succ, List.replicate_zero, List.nil_append, List.cons_append, List.append_nil, List.map_cons, List.map_nil, List.all_cons, List.all_nil, List.set_cons_zero, List.set_cons_succ, List.getD_cons_zero, List.getD_cons_succ, List.drop_zero, List.drop_succ_cons, List.take_succ_cons, List.take_zero, List.flatten_cons, List.flatten_nil, true_and, Option.bind_some, Option.map_some, and_self, Nat.reduceLT, Nat.reduceLeDiff, Nat.zero_add, Nat.add_zero, Bool.false_eq_true, ordSt2, accAV, accO, F1, G1, at_ratomic, Z04, Z03]
    case' nil =>
      refine ⟨fun c => ⟨⟨by omega, by omega⟩, ?_⟩, fun c => ?_⟩
    case' cons =>
      refine ⟨fun c => ⟨⟨by omega, by omega⟩, ?_⟩, fun c => ?_⟩
    case nil.refine_2 =>
      have hke : k = ss.length := by omega
      subst hke
      exact Z0l.mk [] (i + 1, []) (by simp) (by simp) (by simp only [State.can, AV.can, HO.can, Z01, Z00, Heap.at, Nat.reduceBEq, Option.getD_some, List.map_cons, List.map_nil, ordSt1, accAV, accO, Z12 hi' (by omega)]) ⟨by show i + 1 ≤ _; omega, by show [] = _; rw [pAll_succ, ← hM]⟩ (by show _ - (i + 1) < _ - i; omega)
    case cons.refine_2 =>
      have hke : k = ss.length := by omega
      subst hke
      exact Z0l.mk [1] (i + 1, d :: r) (by simp) (by simp) (by simp only [State.can, AV.can, HO.can, idx, Z01, Z00, Heap.at, Nat.reduceBEq, ↓reduceIte, Option.getD_some, Option.map_some, List.map_cons, List.map_nil, List.getD_cons_zero, List.getD_cons_succ, ordSt1, accAV, accO, Z12 hi' (by omega)]; rfl) ⟨by show i + 1 ≤ _; omega, by show d :: r = _; rw [pAll_succ, ← hM]⟩ (by show _ - (i + 1) < _ - i; omega)
    case nil.refine_1 =>
      have hkl : k < ss.length := by omega
      have hq : dirQ ss i k = dirB (ss.getD i default) (ss.getD k default) := rfl
      have yes : dirB (ss.getD i default) (ss.getD k default) = true → [⟨(i : Int), (k : Int)⟩] = pAll (dirQ ss) ss.length i ++ pRow (dirQ ss) i (k + 1) := fun h => by
        rw [pRow_succ _ hik, if_pos (hq.trans h), ← List.append_assoc, ← hM]; rfl
      have no : dirB (ss.getD i default) (ss.getD k default) = false → [] = pAll (dirQ ss) ss.length i ++ pRow (dirQ ss) i (k + 1) := fun h => by
        rw [pRow_succ _ hik, if_neg (by rw [hq.trans h]; decide), List.append_nil, ← hM]
      have hroom : roomy 1 16 := Z1t (by decide) (by decide)
      clear hq hM
      refine ⟨fun c => ⟨hroom, ?_⟩, fun c => ⟨fun c1 => ⟨fun c2 => ⟨fun c3 => ⟨hroom, ?_⟩, fun c3 => ?_⟩, fun c2 => ?_⟩, fun c1 => ?_⟩⟩
      all_goals first
        | exact Z0l.mk [0, 3] (k + 1, [⟨(i : Int), (k : Int)⟩]) (by simp) (by simp) (by simp only [State.can, AV.can, AV.canL, HO.can, Z14, idx, Z01, Z00, Heap.at, Nat.reduceBEq, ↓reduceIte, Nat.reduceEqDiff, Option.getD_some, Option.map_some, List.map_cons, List.map_nil, List.getD_cons_zero, List.getD_cons_succ, ordSt2, accAV, accO, Z12 hkl (by omega)]; rfl) ⟨by show i < k + 1; omega, by show k + 1 ≤ _; omega, yes (by first | exact dirB_1 ‹_› | exact dirB_2 ‹_› ‹_› ‹_›)⟩ (by show _ - (k + 1) < _ - k; omega)
        | exact Z0l.mk [0] (k + 1, []) (by simp) (by simp) (by simp only [State.can, AV.can, AV.canL, HO.can, Z14, idx, Z01, Z00, Heap.at, Nat.reduceBEq, ↓reduceIte, Option.getD_some, Option.map_some, List.map_cons, List.map_nil, List.getD_cons_zero, ordSt2, accAV, accO, Z12 hkl (by omega)]) ⟨by show i < k + 1; omega, by show k + 1 ≤ _; omega, no (by first | exact dirB_3 ‹_› ‹_› | exact dirB_4 ‹_› ‹_› | exact dirB_5 ‹_› ‹_›)⟩ (by show _ - (k + 1) < _ - k; omega)
    case cons.refine_1 =>
      have hkl : k < ss.length := by omega
      have hq : dirQ ss i k = dirB (ss.getD i default) (ss.getD k default) := rfl
      have yes : dirB (ss.getD i default) (ss.getD k default) = true → d :: (r ++ [⟨(i : Int), (k : Int)⟩]) = pAll (dirQ ss) ss.length i ++ pRow (dirQ ss) i (k + 1) := fun h => by
        rw [pRow_succ _ hik, if_pos (hq.trans h), ← List.append_assoc, ← hM]; rfl
      have no : dirB (ss.getD i default) (ss.getD k default) = false → d :: r = pAll (dirQ ss) ss.length i ++ pRow (dirQ ss) i (k + 1) := fun h => by
        rw [pRow_succ _ hik, if_neg (by rw [hq.trans h]; decide), List.append_nil, ← hM]
      have hroom : roomy (r.length + 1 + 1) 16 := Z1t (by have := hMl; simp only [List.length_cons] at this; omega) (by decide)
      clear hq hM
      refine ⟨fun c => ⟨hroom, ?_⟩, fun c => ⟨fun c1 => ⟨fun c2 => ⟨fun c3 => ⟨hroom, ?_⟩, fun c3 => ?_⟩, fun c2 => ?_⟩, fun c1 => ?_⟩⟩
      all_goals first
        | exact Z0l.mk [0, 4] (k + 1, d :: (r ++ [⟨(i : Int), (k : Int)⟩])) (by simp) (by simp) (by simp only [State.can, AV.can, AV.canL, HO.can, Z14, idx, Z01, Z00, Heap.at, Nat.reduceBEq, ↓reduceIte, Nat.reduceEqDiff, Option.getD_some, Option.map_some, List.map_cons, List.map_nil, List.getD_cons_zero, List.getD_cons_succ, ordSt2, accAV, accO, List.length_append, List.length_singleton, Z12 hkl (by omega)]; rfl) ⟨by show i < k + 1; omega, by show k + 1 ≤ _; omega, yes (by first | exact dirB_1 ‹_› | exact dirB_2 ‹_› ‹_› ‹_›)⟩ (by show _ - (k + 1) < _ - k; omega)
        | exact Z0l.mk [0, 1] (k + 1, d :: r) (by simp) (by simp) (by simp only [State.can, AV.can, AV.canL, HO.can, Z14, idx, Z01, Z00, Heap.at, Nat.reduceBEq, ↓reduceIte, Nat.reduceEqDiff, Option.getD_some, Option.map_some, List.map_cons, List.map_nil, List.getD_cons_zero, List.getD_cons_succ, ordSt2, accAV, accO, Z12 hkl (by omega)]; rfl) ⟨by show i < k + 1; omega, by show k + 1 ≤ _; omega, no (by first | exact dirB_3 ‹_› ‹_› | exact dirB_4 ‹_› ‹_› | exact dirB_5 ‹_› ‹_›)⟩ (by show _ - (k + 1) < _ - k; omega)
end Go.Ago

/- Package race: Order and Races. Conditions: none. -/
set_option maxRecDepth 100000
set_option linter.unusedSimpArgs false
set_option linter.unusedVariables false
namespace Go.Ago
theorem playErr_len {l : List LocG} {t : Int} {ss : List StepG} (h : Z25 l t ss = 0) : ss.length ≤ 64 := by
  unfold Z25 at h
  split at h
  · cases h
  · omega
/-! ### Order -/
def ordL (l : List LocG) (t : Int) (ss : List StepG) : List W := if Z25 l t ss = 0 then ordG ss else []
def sp_rOrder : Sp := ⟨List LocG × Bool × Int × List StepG × Bool, fun x => [.d (.list (x.1.map LocG.row) x.2.1), .d (.int .i64 x.2.2.1), .d (.list (x.2.2.2.1.map StepG.row) x.2.2.2.2)],
  fun x => .data (x.1.length ≤ maxLen ∧ x.2.2.2.1.length ≤ maxLen) (.tup [.d (.list ((ordL x.1 x.2.2.1 x.2.2.2.1).map rowW) false), .d (.int .i64 (Z25 x.1 x.2.2.1 x.2.2.2.1))]) false⟩
theorem at_rOrder (l : List LocG) (f : Bool) (t : Int) (ss : List StepG) (g : Bool) : sp_rOrder.at [.d (.list (l.map LocG.row) f), .d (.int .i64 t), .d (.list (ss.map StepG.row) g)] =
    .data (l.length ≤ maxLen ∧ ss.length ≤ maxLen) (.tup [.d (.list ((ordL l t ss).map rowW) false), .d (.int .i64 (Z25 l t ss))]) false :=
  Sp.at_enc (s := sp_rOrder) (fun x y h => by
    obtain ⟨l, f, t, ss, g⟩ := x; obtain ⟨l', f', t', ss', g'⟩ := y
    simp only [sp_rOrder, List.cons.injEq, AV.d.injEq, DV.list.injEq, DV.int.injEq, and_true, true_and] at h
    obtain ⟨⟨h1, h2⟩, h3, h4, h5⟩ := h
    rw [Z1k LocG.row_inj h1, h2, h3, Z1k StepG.row_inj h4, h5]) (l, f, t, ss, g)
theorem body_race_Order {T : Tab} {n1 n2 : Nat} (k1 : Knows T n1 sp_played) (k2 : Knows T n2 sp_ordered) : sp_rOrder.Body T V_race_Order (L_race_Order n1 n2) R_race_Order := by
  have F1 := k1.F; have G1 := k1.G; have F2 := k2.F; have G2 := k2.G
  rintro ⟨l, f, t, ss, g⟩ ⟨hl, hs⟩
  have hl : l.length ≤ maxLen := hl
  have hs : ss.length ≤ maxLen := hs
  refine ⟨rfl, ?_⟩
  unfold V_race_Order L_race_Order R_race_Order
  simp (maxSteps := 3000000) only [↓Z0k, ↓Z0x, ↓Z02, ↓Z0i, ↓Z0j, ↓Z06, ↓Z0h, ↓Z1m, ↓Z0g, ↓Z1a, ↓Z1j, ↓Z0a, Z1g, Z05, Z0s, Z0v, evN, Z11, Z0f, Z0u, Z0e, Z09, Z0d, Z0q, evT, Opd.ev, Z01, Z00, Z0t, Z17, Z0o, Z0r, Z0w, Z07, Z16, LOp.isNew, State.prune, Heap.at, List.length_map, List.take_of_length_le, Z1s, binT, binQ, resQ, resV, resT, Z0z, Z1e, fnOf, Z1d, Z23, Z0n, RetD, AV.frz, AV.frzL, DV.less, Option.some.injEq, AV.tup.injEq, List.cons.injEq, DV.list.injEq, Nat.le_refl, AV.d.injEq, DV.int.injEq, ↓reduceIte, Nat.reduceAdd, Nat.reduceBEq, List.length_cons, List.length_nil, List.replicate_succ, List.replicate_zero, List.nil_append, List.append_nil, List.map_cons, List.map_nil, List.set_cons_zero, List.getD_cons_zero, List.getD_cons_succ, List.drop_zero, List.flatten_cons, List.flatten_nil, true_and, and_true, true_or, Option.map_some, and_self, Nat.reduceLT, Nat.zero_add, Nat.add_zero, Bool.false_eq_true, sp_rOrder, F1, G1, F2, G2, at_played, at_ordered]
  unfold ordL
  refine ⟨⟨hl, hs⟩, fun he => ⟨playErr_len he, ?_⟩, fun he => ?_⟩
  · rw [if_pos he]
    exact ⟨rfl, he.symm⟩
  · rw [if_neg he]; rfl
/-! ### Races -/
theorem pl2 : isPl 2 = true := rfl
def rcB (R : List W) (ss : List StepG) (i k : Nat) : Bool :=
  isPl (ss.getD i default).act.kind && isPl (ss.getD k default).act.kind && decide ((ss.getD i default).act.loc = (ss.getD k default).act.loc) && !decide ((ss.getD i default).thread = (ss.getD k default).thread)
    && (decide ((ss.getD i default).act.kind = 2) || decide ((ss.getD k default).act.kind = 2)) && !hasI R i k
def racesL (l : List LocG) (t : Int) (ss : List StepG) : List RatG := if Z25 l t ss = 0 then pAll (rcB (ordG ss) ss) ss.length ss.length else []
def sp_Races : Sp := ⟨List LocG × Bool × Int × List StepG × Bool, fun x => [.d (.list (x.1.map LocG.row) x.2.1), .d (.int .i64 x.2.2.1), .d (.list (x.2.2.2.1.map StepG.row) x.2.2.2.2)],
  fun x => .data (x.1.length ≤ maxLen ∧ x.2.2.2.1.length ≤ maxLen) (.tup [.d (.list ((racesL x.1 x.2.2.1 x.2.2.2.1).map RatG.row) false), .d (.int .i64 (Z25 x.1 x.2.2.1 x.2.2.2.1))]) false⟩
theorem at_Races (l : List LocG) (f : Bool) (t : Int) (ss : List StepG) (g : Bool) : sp_Races.at [.d (.list (l.map LocG.row) f), .d (.int .i64 t), .d (.list (ss.map StepG.row) g)] =
    .data (l.length ≤ maxLen ∧ ss.length ≤ maxLen) (.tup [.d (.list ((racesL l t ss).map RatG.row) false), .d (.int .i64 (Z25 l t ss))]) false :=
  Sp.at_enc (s := sp_Races) (fun x y h => by
    obtain ⟨l, f, t, ss, g⟩ := x; obtain ⟨l', f', t', ss', g'⟩ := y
    simp only [sp_Races, List.cons.injEq, AV.d.injEq, DV.list.injEq, DV.int.injEq, and_true, true_and] at h
    obtain ⟨⟨h1, h2⟩, h3, h4, h5⟩ := h
    rw [Z1k LocG.row_inj h1, h2, h3, Z1k StepG.row_inj h4, h5]) (l, f, t, ss, g)
def raSt1 (ss : List StepG) (g : Bool) (R : List W) (x : Nat × List RatG) : State :=
  ⟨[(2, .d (.list (ss.map StepG.row) g)), (29, .d (.list (ss.map StepG.row) g)), (30, .d (.int .i64 ss.length)), (31, .d (.int .i64 x.1)), (10, .ref 0 1 0 R.length true), (11, accAV 1 x.2)], .dvec 1 (R.map rowW) :: accO x.2⟩
def raSt2 (ss : List StepG) (g : Bool) (R : List W) (i : Nat) (x : Nat × List RatG) : State :=
  ⟨[(2, .d (.list (ss.map StepG.row) g)), (29, .d (.list (ss.map StepG.row) g)), (30, .d (.int .i64 ss.length)), (31, .d (.int .i64 i)), (12, .d (.int .i64 i)), (13, .ptr 1 7 0 0), (10, .ref 0 1 0 R.length true), (14, .d (.int .i64 x.1)), (11, accAV 2 x.2)],
    .dvec 1 (R.map rowW) :: .vec 7 [[.d (.int .i64 (ss.getD i default).thread), .d (.int .i64 (ss.getD i default).act.kind), .d (.int .i64 (ss.getD i default).act.loc), .d (.int .i64 (ss.getD i default).act.old), .d (.int .i64 (ss.getD i default).act.new), .d (.int .i64 (ss.getD i default).when.num), .d (.int .i64 (ss.getD i default).when.den)]] :: accO x.2⟩
theorem ordG_le {ss : List StepG} : (ordG ss).length ≤ 64 := by
  unfold ordG plusG
  rw [mkR_len]
  exact szR_le _
set_option maxHeartbeats 4000000 in
theorem body_race_Races {T : Tab} {n1 n2 n3 n4 : Nat} (k1 : Knows T n1 sp_Has) (k2 : Knows T n2 sp_played) (k3 : Knows T n3 sp_ordered) (k4 : Knows T n4 sp_rplain) : sp_Races.Body T V_race_Races (L_race_Races n1 n2 n3 n4) R_race_Races := by
  have F1 := k1.F; have G1 := k1.G; have F2 := k2.F; have G2 := k2.G; have F3 := k3.F; have G3 := k3.G; have F4 := k4.F; have G4 := k4.G
  rintro ⟨l, f, t, ss, g⟩ ⟨hl, hs⟩
  have hl : l.length ≤ maxLen := hl
  have hs : ss.length ≤ maxLen := hs
  refine ⟨rfl, ?_⟩
  unfold V_race_Races L_race_Races R_race_Races
  simp (maxSteps := 3000000) only [↓Z0k, ↓Z0x, ↓Z02, ↓Z0i, ↓Z0j, ↓Z0c, ↓Z1n, ↓Z06, ↓Z0h, ↓Z1m, ↓Z0g, ↓Z1a, ↓Z1j, ↓Z0a, Z1g, Z05, Z0s, Z0v, evN, Z11, Z0f, Z0u, Z0e, Z09, Z0d, Z0q, evT, Opd.ev, Z01, Z00, Z0t, Z17, Z0o, Z0r, Z0w, Z07, Z16, LOp.isNew, State.prune, Z2i, List.length_map, Z1s, binT, binQ, resQ, resV, resT, Z0z, Z1e, fnOf, Z1d, Z23, Z0n, RetD, AV.frz, AV.frzL, DV.less, Option.some.injEq, AV.tup.injEq, List.cons.injEq, DV.list.injEq, AV.d.injEq, ↓reduceIte, Nat.reduceAdd, Nat.reduceBEq, List.length_cons, List.length_nil, List.replicate_succ, List.replicate_zero, List.nil_append, List.append_nil, List.map_cons, List.map_nil, List.set_cons_zero, List.getD_cons_zero, List.getD_cons_succ, List.flatten_cons, List.flatten_nil, true_and, and_true, true_or, Option.map_some, Nat.reduceLT, Nat.zero_add, Nat.add_zero, Bool.false_eq_true, sp_Races, F2, G2, F3, G3, at_played, at_ordered]
  refine ⟨⟨hl, hs⟩, fun he => ⟨playErr_len he, ?_⟩, fun he => by unfold racesL; rw [if_neg he]; rfl⟩
  have hs := playErr_len he
  have hm : maxLen = 9223372036854775807 := rfl
  have hRl : (ordG ss).length ≤ maxLen := Nat.le_trans ordG_le (by decide)
  have hra : racesL l t ss = pAll (rcB (ordG ss) ss) ss.length ss.length := by unfold racesL; rw [if_pos he]
  rw [hra, he]
  generalize ordG ss = R at *
  refine Loop.fam [2, 29, 30, 31, 10, 11] (raSt1 ss g R) (fun x => x.1 ≤ ss.length ∧ x.2 = pAll (rcB R ss) ss.length x.1) (fun x => ss.length - x.1) (0, []) [0] (by simp) (by simp) (by simp only [State.can, AV.can, HO.can, idx, Z01, Z00, Heap.at, Nat.reduceBEq, ↓reduceIte, Option.getD_some, Option.map_some, List.map_cons, List.map_nil, List.getD_cons_zero, raSt1, accAV, accO]; rfl) ⟨Nat.zero_le _, rfl⟩ ?_
  rintro ⟨i, L⟩ ⟨hi, hL⟩
  have hi : i ≤ ss.length := hi
  have hL : L = pAll (rcB R ss) ss.length i := hL
  have hLl : L.length ≤ i * ss.length := by rw [hL]; exact pAll_len _ _ _
  have hLb : L.length ≤ 64 * 64 := Nat.le_trans hLl (Nat.mul_le_mul (by omega) hs)
  obtain _ | ⟨c0, e0⟩ := L
  case' nil =>
    simp (maxSteps := 3000000) only [↓Z0k, ↓Z0x, ↓Z1c, ↓Z02, ↓Z0i, ↓Z0j, ↓Z0c, ↓Z1n, ↓Z06, ↓Z0h, ↓Z1o, ↓Z1b, ↓Z0g, ↓Z1a, ↓Z26, ↓Z0a, Z1g, Z05, Z0s, Z0v, evN, Z0f, Z0u, Z0e, Z09, Z0d, Z0q, evT, Opd.ev, Z01, Z00, Z0t, Z1q, Z17, Z0o, Z0r, Z07, Z16, LOp.isNew, State.prune, Z19, Z13, AV.leaf, Heap.at, Z15, idx_Step, Z0b, Z03, StepG.row, Z1z, Int.toNat_natCast, List.take_of_length_le, Z1r, Z1s, binT, binQ, Bool.and_self, resQ, resV, resT, putRow, Z0n, RetD, AV.frz, AV.frzL, DV.less, Option.some.injEq, AV.tup.injEq, List.cons.injEq, DV.list.injEq, Nat.le_refl, AV.d.injEq, ↓reduceIte, Nat.reduceAdd, Nat.reduceBEq, List.length_cons, List.length_nil, List.replicate_succ, List.replicate_zero, List.nil_append, List.cons_append, List.append_nil, List.map_cons, List.map_nil, List.all_cons, List.all_nil, List.set_cons_zero, List.set_cons_succ, List.getD_cons_zero, List.getD_cons_succ, List.drop_zero, List.drop_succ_cons, List.take_zero, true_and, and_true, Option.map_some, and_self, Nat.reduceLT, Nat.zero_add, Nat.add_zero, Bool.false_eq_true, raSt1, accAV, accO, Z03]
  case' cons =>
    simp (maxSteps := 3000000) only [↓Z0k, ↓Z0x, ↓Z1c, ↓Z02, ↓Z0i, ↓Z0j, ↓Z0c, ↓Z1n, ↓Z06, ↓Z0h, ↓Z1o, ↓Z1b, ↓Z0g, ↓Z1a, ↓Z26, ↓Z0a, Z1g, Z05, Z0s, Z0v, evN, Z0f, Z0u, Z0e, Z09, Z0d, Z0q, evT, Opd.ev, Z01, Z00, Z0t, Z1q, Z17, Z0o, Z0r, Z07, Z16, LOp.isNew, State.prune, Z19, Z13, AV.leaf, Heap.at, Z15, idx_Step, Z0b, Z03, RatG.row, StepG.row, Z1z, Int.toNat_natCast, List.length_map, List.take_of_length_le, Z1r, Z1s, binT, binQ, Bool.and_self, resQ, resV, resT, putRow, Z0n, RetD, AV.frz, AV.frzL, DV.less, Option.some.injEq, AV.tup.injEq, List.cons.injEq, DV.list.injEq, Nat.le_refl, AV.d.injEq, ↓reduceIte, Nat.reduceAdd, Nat.reduceBEq, List.length_cons, List.length_nil, List.replicate_succ, List.replicate_zero, List.nil_append, List.cons_append, List.append_nil, List.map_cons, List.map_nil, List.all_cons, List.all_nil, List.set_cons_zero, List.set_cons_succ, List.getD_cons_zero, List.getD_cons_succ, List.drop_zero, List.drop_succ_cons, List.take_zero, true_and, and_true, Option.map_some, and_self, Nat.reduceLT, Nat.zero_add, Nat.add_zero, Bool.false_eq_true, raSt1, accAV, accO, Z03]
  case' nil =>
    refine ⟨fun c => ⟨⟨by omega, by omega⟩, ?_⟩, fun c => ?_⟩
  case' cons =>
    refine ⟨fun c => ⟨⟨by omega, by omega⟩, ?_⟩, fun c => ?_⟩
  case nil.refine_2 =>
    have hie : i = ss.length := by omega
    subst hie
    rw [← hL]; rfl
  case cons.refine_2 =>
    have hie : i = ss.length := by omega
    subst hie
    rw [← hL]; rfl
  case' nil.refine_1 =>
    refine Loop.fam [2, 29, 30, 31, 12, 13, 10, 14, 11] (raSt2 ss g R i) (fun x => i < x.1 ∧ x.1 ≤ ss.length ∧ x.2 = pAll (rcB R ss) ss.length i ++ pRow (rcB R ss) i x.1) (fun x => ss.length - x.1) (i + 1, []) [0, 1] (by simp) (by simp) (by simp only [State.can, AV.can, AV.canL, HO.can, Z14, idx, Z01, Z00, Heap.at, Nat.reduceBEq, ↓reduceIte, Nat.reduceEqDiff, Option.getD_some, Option.map_some, List.map_cons, List.map_nil, List.getD_cons_zero, List.getD_cons_succ, raSt2, accAV, accO, Z12 (show i < ss.length by omega) (by omega)]) ⟨Nat.lt_succ_self _, by show i + 1 ≤ _; omega, by show [] = _; rw [pRow_start, ← hL]; rfl⟩ ?_
  case' cons.refine_1 =>
    refine Loop.fam [2, 29, 30, 31, 12, 13, 10, 14, 11] (raSt2 ss g R i) (fun x => i < x.1 ∧ x.1 ≤ ss.length ∧ x.2 = pAll (rcB R ss) ss.length i ++ pRow (rcB R ss) i x.1) (fun x => ss.length - x.1) (i + 1, c0 :: e0) [0, 2, 1] (by simp) (by simp) (by simp only [State.can, AV.can, AV.canL, HO.can, Z14, idx, Z01, Z00, Heap.at, Nat.reduceBEq, ↓reduceIte, Nat.reduceEqDiff, Option.getD_some, Option.map_some, List.map_cons, List.map_nil, List.getD_cons_zero, List.getD_cons_succ, raSt2, accAV, accO, Z12 (show i < ss.length by omega) (by omega)]; rfl) ⟨Nat.lt_succ_self _, by show i + 1 ≤ _; omega, by show c0 :: e0 = _; rw [pRow_start, ← hL, List.append_nil]⟩ ?_
  all_goals
    have hi' : i < ss.length := by omega
    clear hL hLl hLb
    rintro ⟨k, M⟩ ⟨hik, hk, hM⟩
    have hik : i < k := hik
    have hk : k ≤ ss.length := hk
    have hM : M = pAll (rcB R ss) ss.length i ++ pRow (rcB R ss) i k := hM
    have hMl : M.length ≤ 4160 := by
      rw [hM, List.length_append]
      have h1 := pAll_len (rcB R ss) ss.length i
      have h2 := pRow_len (rcB R ss) i k
      have h3 : i * ss.length ≤ 64 * 64 := Nat.mul_le_mul (by omega) hs
      omega
    obtain _ | ⟨d, r⟩ := M
    case' nil =>
      simp (maxSteps := 3000000) only [↓Z0k, ↓Z1c, ↓Z02, ↓Z0i, ↓Z0j, ↓Z0c, ↓Z06, ↓Z0h, ↓Z1o, ↓Z1h, ↓Z1b, ↓Z0g, ↓famK_n, ↓Z26, ↓Z0p, ↓Z0m, ↓Z1j, ↓Z0a, Z1g, Z05, Z10, Z0s, Z18, Z0v, evN, Z11, Z0f, Z0u, Z1u, Z0e, Z09, Z0d, Z1v, Z1x, guardG_no, Z0q, evT, Opd.ev, Z01, Z00, Z0t, Z1q, Z17, Z1i, Z0o, Z0r, Z07, Z16, LOp.isNew, State.prune, Z19, Z13, AV.leaf, Heap.at, Z08, Z15, Z04, idx_Step, Z0b, Z03, loadDT_f, StepG.row, Z1z, Int.toNat_natCast, Z2i, evAppend, srcOf, Src.all, Src.len, Src.leaf, joinV, mkVec, drows, List.length_map, List.take_of_length_le, Z1r, Z20, Z1s, evUn, binT, binQ, chk, Z1y, List.contains_cons, List.contains_nil, Bool.or_false, Bool.and_self, pickV, Z0z, Z1e, fnOf, Z1d, isD, Z23, buildQ, buildT, buildRQ, buildRT, List.mem_cons, List.not_mem_nil, or_false, forall_eq, putRow, dcells, Z0n, Nat.le_refl, ↓reduceIte, Nat.reduceAdd, Nat.reduceBEq, List.length_cons, List.length_nil, List.replicate_succ, List.replicate_zero, List.nil_append, List.cons_append, List.append_nil, List.map_cons, List.map_nil, List.all_cons, List.all_nil, List.set_cons_zero, List.set_cons_succ, List.getD_cons_zero, List.getD_cons_succ, List.drop_zero, List.drop_succ_cons, List.take_succ_cons, List.take_zero, List.flatten_cons, List.flatten_nil, Bool.true_and, Bool.not_false, true_and, or_true, Option.bind_some, Option.map_some, false_implies, implies_true, and_self, Nat.reduceLT, Nat.reduceLeDiff, List.reverse_cons, List.reverse_nil, Nat.zero_add, Nat.add_zero, Bool.false_eq_true, raSt2, accAV, accO, F1, G1, F4, G4, at_rplain, at_Has, Z04, Z03]
    case' cons =>
      simp (maxSteps := 3000000) only [↓Z0k, ↓Z1c, ↓Z02, ↓Z0i, ↓Z0j, ↓Z0c, ↓Z06, ↓Z0h, ↓Z1o, ↓Z1h, ↓Z1b, ↓Z0g, ↓famK_n, ↓Z26, ↓Z0p, ↓Z0m, ↓Z1j, ↓Z0a, Z1g, Z05, Z10, Z0s, Z18, Z0v, evN, Z11, Z0f, Z0u, Z1u, Z0e, Z09, Z0d, Z1v, Z1x, guardG_no, Z0q, evT, Opd.ev, Z01, Z00, Z0t, Z1q, Z17, Z1i, Z0o, Z0r, Z07, Z16, LOp.isNew, State.prune, Z19, Z13, AV.leaf, Heap.at, Z08, Z15, Z04, idx_Step, Z0b, Z03, loadDT_f, RatG.row, StepG.row, Z1z, app_rowRat, Int.toNat_natCast, Z2i, evAppend, srcOf, Src.all, Src.len, Src.leaf, joinV, mkVec, drows, List.length_map, List.take_of_length_le, Z1r, Z20, Z1s, evUn, binT, binQ, chk, Z1y, List.contains_cons, List.contains_nil, Bool.or_false, Bool.and_self, pickV, Z0z, Z1e, fnOf, Z1d, isD, Z23, buildQ, buildT, buildRQ, buildRT, List.mem_cons, List.not_mem_nil, or_false, forall_eq, putRow, dcells, Z0n, Nat.le_refl, ↓reduceIte, Nat.reduceAdd, Nat.reduceBEq, List.length_cons, List.length_nil, List.replicate_succ, List.replicate_zero, List.nil_append, List.cons_append, List.append_nil, List.map_cons, List.map_nil, List.all_cons, List.all_nil, List.set_cons_zero, List.set_cons_succ, List.getD_cons_zero, List.getD_cons_succ, List.drop_zero, List.drop_succ_cons, List.take_succ_cons, List.take_zero, List.flatten_cons, List.flatten_nil, Bool.true_and, Bool.not_false, true_and, Option.bind_some, Option.map_some, and_self, Nat.reduceLT, Nat.reduceLeDiff, List.reverse_cons, List.reverse_nil, Nat.zero_add, Nat.add_zero, Bool.false_eq_true, raSt2, accAV, accO, F1, G1, F4, G4, at_rplain, at_Has, Z04, Z03]
    case' nil =>
      refine ⟨fun c => ⟨⟨by omega, by omega⟩, ?_⟩, fun c => ?_⟩
    case' cons =>
      refine ⟨fun c => ⟨⟨by omega, by omega⟩, ?_⟩, fun c => ?_⟩
    case nil.refine_2 =>
      have hke : k = ss.length := by omega
      subst hke
      exact Z0l.mk [0] (i + 1, []) (by simp) (by simp) (by simp only [State.can, AV.can, HO.can, idx, Z01, Z00, Heap.at, Nat.reduceBEq, ↓reduceIte, Option.getD_some, Option.map_some, List.map_cons, List.map_nil, List.getD_cons_zero, raSt1, accAV, accO, Z12 hi' (by omega)]) ⟨by show i + 1 ≤ _; omega, by show [] = _; rw [pAll_succ, ← hM]⟩ (by show _ - (i + 1) < _ - i; omega)
    case cons.refine_2 =>
      have hke : k = ss.length := by omega
      subst hke
      exact Z0l.mk [0, 2] (i + 1, d :: r) (by simp) (by simp) (by simp only [State.can, AV.can, HO.can, idx, Z01, Z00, Heap.at, Nat.reduceBEq, ↓reduceIte, Nat.reduceEqDiff, Option.getD_some, Option.map_some, List.map_cons, List.map_nil, List.getD_cons_zero, List.getD_cons_succ, raSt1, accAV, accO, Z12 hi' (by omega)]; rfl) ⟨by show i + 1 ≤ _; omega, by show d :: r = _; rw [pAll_succ, ← hM]⟩ (by show _ - (i + 1) < _ - i; omega)
    case nil.refine_1 =>
      have hkl : k < ss.length := by omega
      have yes : rcB R ss i k = true → [⟨(i : Int), (k : Int)⟩] = pAll (rcB R ss) ss.length i ++ pRow (rcB R ss) i (k + 1) := fun h => by
        rw [pRow_succ _ hik, if_pos h, ← List.append_assoc, ← hM]; rfl
      have no : rcB R ss i k = false → [] = pAll (rcB R ss) ss.length i ++ pRow (rcB R ss) i (k + 1) := fun h => by
        rw [pRow_succ _ hik, if_neg (by rw [h]; decide), List.append_nil, ← hM]
      have hroom : roomy 1 16 := Z1t (by decide) (by decide)
      clear hM
      have hb : (0 : Int) ≤ k ∧ (k : Int) < ss.length := ⟨by omega, by omega⟩
      refine ⟨fun c => ⟨fun c1 => ⟨fun c2 => ⟨hb, fun c3 => ?_, fun c3 => ⟨fun c4 => ⟨hRl, fun c5 => ?_, fun c5 => ⟨hroom, ?_⟩⟩, fun c4 => ⟨fun c6 => ⟨hRl, fun c5 => ?_, fun c5 => ⟨hroom, ?_⟩⟩, fun c6 => ?_⟩⟩⟩, fun c2 => ?_⟩, fun c1 => ?_⟩, fun c => ?_⟩
      all_goals first
        | exact Z0l.mk [0, 1, 5] (k + 1, [⟨(i : Int), (k : Int)⟩]) (by simp) (by simp) (by simp only [State.can, AV.can, AV.canL, HO.can, Z14, idx, Z01, Z00, Heap.at, Nat.reduceBEq, ↓reduceIte, Nat.reduceEqDiff, Option.getD_some, Option.map_some, List.map_cons, List.map_nil, List.getD_cons_zero, List.getD_cons_succ, raSt2, accAV, accO, Z12 hkl (by omega)]; rfl) ⟨by show i < k + 1; omega, by show k + 1 ≤ _; omega, yes (by unfold rcB; simp only [*, pl2, decide_true, decide_false, Bool.and_true, Bool.or_true, Bool.true_or, Bool.not_false])⟩ (by show _ - (k + 1) < _ - k; omega)
        | exact Z0l.mk [0, 1] (k + 1, []) (by simp) (by simp) (by simp only [State.can, AV.can, AV.canL, HO.can, Z14, idx, Z01, Z00, Heap.at, Nat.reduceBEq, ↓reduceIte, Nat.reduceEqDiff, Option.getD_some, Option.map_some, List.map_cons, List.map_nil, List.getD_cons_zero, List.getD_cons_succ, raSt2, accAV, accO, Z12 hkl (by omega)]) ⟨by show i < k + 1; omega, by show k + 1 ≤ _; omega, no (by unfold rcB; simp only [*, pl2, decide_true, decide_false, Bool.and_true, Bool.and_false, Bool.false_and, Bool.or_true, Bool.true_or, Bool.not_true, Bool.not_false, Bool.or_false])⟩ (by show _ - (k + 1) < _ - k; omega)
    case cons.refine_1 =>
      have hkl : k < ss.length := by omega
      have yes : rcB R ss i k = true → d :: (r ++ [⟨(i : Int), (k : Int)⟩]) = pAll (rcB R ss) ss.length i ++ pRow (rcB R ss) i (k + 1) := fun h => by
        rw [pRow_succ _ hik, if_pos h, ← List.append_assoc, ← hM]; rfl
      have no : rcB R ss i k = false → d :: r = pAll (rcB R ss) ss.length i ++ pRow (rcB R ss) i (k + 1) := fun h => by
        rw [pRow_succ _ hik, if_neg (by rw [h]; decide), List.append_nil, ← hM]
      have hroom : roomy (r.length + 1 + 1) 16 := Z1t (by have := hMl; simp only [List.length_cons] at this; omega) (by decide)
      clear hM
      have hb : (0 : Int) ≤ k ∧ (k : Int) < ss.length := ⟨by omega, by omega⟩
      refine ⟨fun c => ⟨fun c1 => ⟨fun c2 => ⟨hb, fun c3 => ?_, fun c3 => ⟨fun c4 => ⟨hRl, fun c5 => ?_, fun c5 => ⟨hroom, ?_⟩⟩, fun c4 => ⟨fun c6 => ⟨hRl, fun c5 => ?_, fun c5 => ⟨hroom, ?_⟩⟩, fun c6 => ?_⟩⟩⟩, fun c2 => ?_⟩, fun c1 => ?_⟩, fun c => ?_⟩
      all_goals first
        | exact Z0l.mk [0, 1, 6] (k + 1, d :: (r ++ [⟨(i : Int), (k : Int)⟩])) (by simp) (by simp) (by simp only [State.can, AV.can, AV.canL, HO.can, Z14, idx, Z01, Z00, Heap.at, Nat.reduceBEq, ↓reduceIte, Nat.reduceEqDiff, Option.getD_some, Option.map_some, List.map_cons, List.map_nil, List.getD_cons_zero, List.getD_cons_succ, raSt2, accAV, accO, List.length_append, List.length_singleton, Z12 hkl (by omega)]; rfl) ⟨by show i < k + 1; omega, by show k + 1 ≤ _; omega, yes (by unfold rcB; simp only [*, pl2, decide_true, decide_false, Bool.and_true, Bool.or_true, Bool.true_or, Bool.not_false])⟩ (by show _ - (k + 1) < _ - k; omega)
        | exact Z0l.mk [0, 1, 2] (k + 1, d :: r) (by simp) (by simp) (by simp only [State.can, AV.can, AV.canL, HO.can, Z14, idx, Z01, Z00, Heap.at, Nat.reduceBEq, ↓reduceIte, Nat.reduceEqDiff, Option.getD_some, Option.map_some, List.map_cons, List.map_nil, List.getD_cons_zero, List.getD_cons_succ, raSt2, accAV, accO, Z12 hkl (by omega)]; rfl) ⟨by show i < k + 1; omega, by show k + 1 ≤ _; omega, no (by unfold rcB; simp only [*, pl2, decide_true, decide_false, Bool.and_true, Bool.and_false, Bool.false_and, Bool.or_true, Bool.true_or, Bool.not_true, Bool.not_false, Bool.or_false])⟩ (by show _ - (k + 1) < _ - k; omega)
end Go.Ago

/- Package race: Weak. Conditions: none. -/
set_option maxRecDepth 100000
set_option linter.unusedSimpArgs false
set_option linter.unusedVariables false
namespace Go.Ago
instance : Inhabited MemG := ⟨⟨[], false, [], false, [], false, [], false, [], false⟩⟩
theorem idx_Mem {l : List MemG} {full : Bool} {kd : IntKind} {n : Int} {k : Delta → Prop} : stepK (evIdxAddr 5 (.d (.list (l.map rowMem) full)) (.d (.int kd n))) k ↔ (0 ≤ n ∧ n < l.length) ∧ k ⟨.dptr (rowMem (l.getD n.toNat default)) 0, [], []⟩ := stepK_idx_map (fun _ => rfl)
theorem set_rowB' {l : List Bool} {i : Nat} {b x : Bool} : (l.map rowB).set i (.bool b :: List.drop 1 (rowB x)) = (l.set i b).map rowB := set_rowB
theorem playErr_new {l : List LocG} {t : Int} {ss : List StepG} (h : Z25 l t ss = 0) : newErr l t = 0 ∧ firstBad (newM l t) ss = 0 := by
  unfold Z25 at h
  split at h
  · cases h
  · split at h
    · exact ⟨by assumption, h⟩
    · exact absurd h (by assumption)
def wkO (s : StepG) : Option StampG → Bool
  | none => false
  | some st => isPl s.act.kind && (decide (cmpQ' s.when st.when < 0) || (decide (s.act.kind = 1) && !decide (cmpQ' s.when st.when = 0)))
def wkB (m : MemG) (s : StepG) : Bool := wkO s (lastG m s.act.loc)
def weakL (l : List LocG) (t : Int) (ss : List StepG) : List Bool := if Z25 l t ss = 0 then (List.range ss.length).map fun i => wkB (goM (newM l t) ss i) (ss.getD i default) else []
def sp_Weak : Sp := ⟨List LocG × Bool × Int × List StepG × Bool, fun x => [.d (.list (x.1.map LocG.row) x.2.1), .d (.int .i64 x.2.2.1), .d (.list (x.2.2.2.1.map StepG.row) x.2.2.2.2)],
  fun x => .data (x.1.length ≤ maxLen ∧ x.2.2.2.1.length ≤ maxLen) (.tup [.d (.list ((weakL x.1 x.2.2.1 x.2.2.2.1).map rowB) false), .d (.int .i64 (Z25 x.1 x.2.2.1 x.2.2.2.1))]) false⟩
theorem at_Weak (l : List LocG) (f : Bool) (t : Int) (ss : List StepG) (g : Bool) : sp_Weak.at [.d (.list (l.map LocG.row) f), .d (.int .i64 t), .d (.list (ss.map StepG.row) g)] =
    .data (l.length ≤ maxLen ∧ ss.length ≤ maxLen) (.tup [.d (.list ((weakL l t ss).map rowB) false), .d (.int .i64 (Z25 l t ss))]) false :=
  Sp.at_enc (s := sp_Weak) (fun x y h => by
    obtain ⟨l, f, t, ss, g⟩ := x; obtain ⟨l', f', t', ss', g'⟩ := y
    simp only [sp_Weak, List.cons.injEq, AV.d.injEq, DV.list.injEq, DV.int.injEq, and_true, true_and] at h
    obtain ⟨⟨h1, h2⟩, h3, h4, h5⟩ := h
    rw [Z1k LocG.row_inj h1, h2, h3, Z1k StepG.row_inj h4, h5]) (l, f, t, ss, g)
def wkS (w : Nat → Bool) (n i : Nat) : List Bool := (List.range n).map fun j => decide (j < i) && w j
theorem wkS_len {w : Nat → Bool} {n i : Nat} : (wkS w n i).length = n := by simp [wkS]
theorem wkS_zero {w : Nat → Bool} {n : Nat} : List.replicate n false = wkS w n 0 := by
  unfold wkS
  apply List.ext_getElem
  · simp
  · intro i h1 h2; simp
theorem wkS_set {w : Nat → Bool} {n i : Nat} (h : i < n) : (wkS w n i).set i (w i) = wkS w n (i + 1) := by
  apply List.ext_getElem
  · simp [wkS]
  · intro j h1 h2
    simp only [wkS, List.getElem_set, List.getElem_map, List.getElem_range]
    split
    · rename_i e; subst e; simp
    · rename_i e
      have : j < i ↔ j < i + 1 := by omega
      simp [this]
theorem wkS_same {w : Nat → Bool} {n i : Nat} (h : w i = false) : wkS w n i = wkS w n (i + 1) := by
  unfold wkS
  apply List.map_congr_left
  intro j _
  by_cases e : j = i
  · subst e; simp [h]
  · have : j < i ↔ j < i + 1 := by omega
    simp [this]
theorem wkS_end {w : Nat → Bool} {n : Nat} : wkS w n n = (List.range n).map w := by
  unfold wkS
  apply List.map_congr_left
  intro j h
  simp [List.mem_range.1 h]
def wkSt (M : List MemG) (ss : List StepG) (g : Bool) (w : Nat → Bool) (i : Nat) : State :=
  ⟨[(29, .d (.list (ss.map StepG.row) g)), (30, .d (.int .i64 ss.length)), (31, .d (.int .i64 i)), (8, .d (.list (M.map rowMem) false)), (10, .ref 0 1 0 ss.length true)], [.dvec 1 ((wkS w ss.length i).map rowB)]⟩
set_option maxHeartbeats 4000000 in
theorem body_race_Weak {T : Tab} {n1 n2 n3 n4 : Nat} (k1 : Knows T n1 sp_played) (k2 : Knows T n2 sp_rplain) (k3 : Knows T n3 sp_Last) (k4 : Knows T n4 sp_rat_Cmp) : sp_Weak.Body T V_race_Weak (L_race_Weak n1 n2 n3 n4) R_race_Weak := by
  have F1 := k1.F; have G1 := k1.G; have F2 := k2.F; have G2 := k2.G; have F3 := k3.F; have G3 := k3.G; have F4 := k4.F; have G4 := k4.G
  rintro ⟨l, f, t, ss, g⟩ ⟨hl, hs⟩
  have hl : l.length ≤ maxLen := hl
  have hs : ss.length ≤ maxLen := hs
  refine ⟨rfl, ?_⟩
  unfold V_race_Weak L_race_Weak R_race_Weak
  simp (maxSteps := 3000000) only [↓Z0k, ↓Z0x, ↓Z02, ↓Z0i, ↓Z0j, ↓Z0c, ↓Z1n, ↓Z06, ↓Z0h, ↓Z1m, ↓Z0g, ↓Z1a, ↓Z1j, ↓Z0a, Z1g, Z05, Z0s, Z0v, evN, Z11, Z0f, Z0u, Z0e, Z09, Z0d, Z0q, evT, Opd.ev, Z01, Z00, Z0t, Z17, Z0o, Z0r, Z0w, Z07, Z16, LOp.isNew, State.prune, Int.toNat_natCast, Z2i, drows_rep1, mkVec, evMk, List.length_map, Z1s, binT, binQ, resQ, resV, resT, Z0z, Z1e, fnOf, Z1d, Z23, Z0n, RetD, AV.frz, AV.frzL, DV.less, Option.some.injEq, AV.tup.injEq, List.cons.injEq, DV.list.injEq, AV.d.injEq, ↓reduceIte, Nat.reduceAdd, Nat.reduceBEq, List.length_cons, List.length_nil, List.replicate_succ, List.replicate_zero, List.nil_append, List.append_nil, List.map_cons, List.map_nil, List.set_cons_zero, List.getD_cons_zero, List.getD_cons_succ, List.flatten_cons, List.flatten_nil, true_and, and_true, Option.map_some, Nat.reduceLT, Nat.zero_add, Nat.add_zero, Bool.false_eq_true, sp_Weak, F1, G1, at_played, rep_rowB]
  have hm : maxLen = 9223372036854775807 := rfl
  refine ⟨⟨hl, hs⟩, fun he => ⟨⟨by omega, by omega, Z1t (by have := playErr_len he; omega) (by decide)⟩, ?_⟩, fun he => by unfold weakL; rw [if_neg he]; rfl⟩
  have hw : weakL l t ss = (List.range ss.length).map fun i => wkB (goM (newM l t) ss i) (ss.getD i default) := by unfold weakL; rw [if_pos he]
  have hp : playL l t ss = mems (newM l t) ss ss.length := by unfold playL; rw [if_pos he]
  rw [hw, hp, he]
  have hml : ∀ i, i < ss.length → (mems (newM l t) ss ss.length).getD i default = goM (newM l t) ss i := fun i hi => by
    rw [Z28 (by rw [mems_len]; exact hi)]; unfold mems; simp
  have hll : (mems (newM l t) ss ss.length).length = ss.length := mems_len _ _ _
  generalize mems (newM l t) ss ss.length = M at *
  obtain ⟨hne, -⟩ := playErr_new he
  have hg0 := newM_good hne
  generalize newM l t = m0 at *
  obtain ⟨w, hwd⟩ : ∃ w : Nat → Bool, w = fun i => wkB (goM m0 ss i) (ss.getD i default) := ⟨_, rfl⟩
  rw [← hwd]
  refine Loop.fam [29, 30, 31, 8, 10] (wkSt M ss g w) (fun i => i ≤ ss.length) (fun i => ss.length - i) 0 [0] (by simp) (by simp) (by simp only [State.can, AV.can, HO.can, idx, Z01, Z00, Heap.at, Nat.reduceBEq, ↓reduceIte, Option.getD_some, Option.map_some, List.map_cons, List.map_nil, List.getD_cons_zero, wkSt]; rw [← wkS_zero]; rfl) (Nat.zero_le _) ?_
  intro i hi
  have hi : i ≤ ss.length := hi
  have hwi : i < ss.length → w i = wkO (ss.getD i default) (lastG (M.getD i default) (ss.getD i default).act.loc) := fun h => by rw [hml i h, hwd]; rfl
  have hpast : i < ss.length → ∀ r ∈ (M.getD i default).past, r.1.length ≤ maxLen := fun h r hr => by
    rw [hml i h] at hr
    have := (goM_good hg0 ss i).wf.pasts r.1 (List.mem_map.2 ⟨r, hr, rfl⟩)
    have := playErr_len he
    omega
  have hend : ¬ (i : Int) < ss.length → (wkS w ss.length i).map rowB = (List.map w (List.range ss.length)).map rowB := fun h => by
    have hie : i = ss.length := by omega
    subst hie
    rw [wkS_end]
  clear hml hwd
  rcases hla : lastG (M.getD i default) (ss.getD i default).act.loc with _ | st
  case' none =>
    simp (maxSteps := 3000000) only [↓Z0k, ↓Z0x, ↓Z1c, ↓Z02, ↓Z0i, ↓Z0j, ↓Z0c, ↓Z06, ↓Z0h, ↓Z1o, ↓Z1h, ↓Z1b, ↓Z0g, ↓Z1a, ↓famK_n, ↓Z26, ↓Z0m, ↓Z0a, Z1g, Z05, Z10, Z0s, Z18, Z0v, evN, Z11, Z0f, Z0u, Z1u, Z0e, Z09, Z0d, Z1v, Z0q, evT, Opd.ev, Z01, Z00, Z0t, Z1q, Z17, Z1i, Z0o, Z0r, Z07, Z16, LOp.isNew, State.prune, Z19, Z13, AV.leaf, Heap.at, Z08, Z15, Z04, idx_Step, Z0b, Z03, StepG.row, Z1z, Int.toNat_natCast, List.length_map, List.take_of_length_le, Z1r, Z20, Z1s, binT, binQ, chk, Z1y, List.contains_cons, List.contains_nil, Bool.or_false, Bool.and_self, resQ, resV, resT, pickV, Z0z, Z1e, fnOf, Z1d, isD, Z23, putRow, Z0n, RetD, AV.frz, AV.frzL, DV.less, Option.some.injEq, AV.tup.injEq, List.cons.injEq, DV.list.injEq, Nat.le_refl, AV.d.injEq, ↓reduceIte, Nat.reduceAdd, Nat.reduceBEq, List.length_cons, List.length_nil, List.replicate_succ, List.replicate_zero, List.nil_append, List.cons_append, List.append_nil, List.map_cons, List.map_nil, List.all_cons, List.all_nil, List.set_cons_zero, List.set_cons_succ, List.getD_cons_zero, List.getD_cons_succ, List.drop_zero, List.drop_succ_cons, List.take_zero, List.flatten_cons, List.flatten_nil, Bool.true_and, Bool.not_false, true_and, and_true, Option.map_some, and_self, Nat.reduceLT, List.reverse_cons, List.reverse_nil, Nat.zero_add, Nat.add_zero, Bool.false_eq_true, wkSt, F3, G3, at_LastM, idx_Mem, rowMem, hla, lastAV, Z04, Z03, wkS_len]
    refine ⟨fun c => ⟨⟨by omega, by omega⟩, ⟨by omega, by omega⟩, hpast (by omega), ?_⟩, fun c => ?_⟩
  case' some =>
    simp (maxSteps := 3000000) only [↓Z0k, ↓Z0x, ↓Z1c, ↓Z02, ↓Z0i, ↓Z0j, ↓Z0c, ↓Z06, ↓Z0h, ↓Z1o, ↓Z1h, ↓Z1b, ↓Z0g, ↓Z1a, ↓famK_n, ↓Z26, ↓Z0p, ↓Z0m, ↓Z0a, Z1g, Z05, Z10, Z0s, Z18, Z0v, evN, Z11, Z0f, Z0u, Z1u, Z0e, Z09, Z0d, Z1v, Z1x, guardG_no, Z0q, evT, Opd.ev, Z01, Z00, Z0t, Z1q, Z17, Z1i, Z0o, Z0r, Z07, Z16, LOp.isNew, State.prune, Z19, Z13, AV.leaf, Heap.at, Z08, Z15, Z04, idx_Step, Z0y, Z0b, Z03, stepK_store_map1, StepG.row, Z1z, Int.toNat_natCast, List.length_map, List.take_of_length_le, Z1r, Z20, Z1s, binT, binQ, chk, Z1y, List.contains_cons, List.contains_nil, Bool.or_false, Bool.and_self, resQ, resV, resT, pickV, Z0z, Z1e, fnOf, Z1d, isD, Z23, putRow, Z0n, RetD, AV.frz, AV.frzL, DV.less, Option.some.injEq, AV.tup.injEq, List.cons.injEq, DV.list.injEq, Nat.le_refl, AV.d.injEq, ↓reduceIte, Nat.reduceAdd, Nat.reduceBEq, List.length_cons, List.length_nil, List.replicate_succ, List.replicate_zero, List.nil_append, List.cons_append, List.append_nil, List.map_cons, List.map_nil, List.all_cons, List.all_nil, List.set_cons_zero, List.set_cons_succ, List.getD_cons_zero, List.getD_cons_succ, List.drop_zero, List.drop_succ_cons, List.take_succ_cons, List.take_zero, List.flatten_cons, List.flatten_nil, Bool.true_and, Bool.not_false, true_and, and_true, Option.map_some, and_self, Nat.reduceLT, Nat.reduceLeDiff, List.reverse_cons, List.reverse_nil, Nat.zero_add, Nat.add_zero, Bool.false_eq_true, wkSt, F2, G2, F3, G3, F4, G4, at_LastM, at_rplain, at_rat_Cmp, idx_Mem, rowMem, hla, lastAV, Z04, Z03, set_rowB', wkS_len]
    have hb : (0 : Int) ≤ i ∧ (i : Int) < ss.length ↔ i < ss.length := by omega
    refine ⟨fun c => ⟨⟨by omega, by omega⟩, ⟨by omega, by omega⟩, hpast (by omega), fun c1 => ⟨fun c2 => ⟨⟨by omega, by omega⟩, by omega, ?_⟩, fun c2 => ⟨fun c3 => ⟨⟨by omega, by omega⟩, by omega, ?_⟩, fun c3 => ⟨⟨by omega, by omega⟩, by omega, ?_⟩⟩⟩, fun c1 => ?_⟩, fun c => ?_⟩
  case none.refine_2 => exact hend c
  case some.refine_5 => exact hend c
  case none.refine_1 =>
    have hlt : i < ss.length := by omega
    have e : w i = false := by rw [hwi hlt, hla]; rfl
    exact Z0l.mk [0] (i + 1) (by simp) (by simp) (by simp only [State.can, AV.can, HO.can, idx, Z01, Z00, Heap.at, Nat.reduceBEq, ↓reduceIte, Option.getD_some, Option.map_some, List.map_cons, List.map_nil, List.getD_cons_zero, wkSt, Z12 hlt (by omega)]; rw [← wkS_same e]) (by show i + 1 ≤ _; omega) (by show _ - (i + 1) < _ - i; omega)
  case some.refine_4 =>
    have hlt : i < ss.length := by omega
    have e : w i = false := by rw [hwi hlt, hla]; unfold wkO; simp only [c1, Bool.false_and]
    exact Z0l.mk [0] (i + 1) (by simp) (by simp) (by simp only [State.can, AV.can, HO.can, idx, Z01, Z00, Heap.at, Nat.reduceBEq, ↓reduceIte, Option.getD_some, Option.map_some, List.map_cons, List.map_nil, List.getD_cons_zero, wkSt, Z12 hlt (by omega)]; rw [← wkS_same e]) (by show i + 1 ≤ _; omega) (by show _ - (i + 1) < _ - i; omega)
  all_goals
    have hlt : i < ss.length := by omega
    have e : w i = wkO (ss.getD i default) (some st) := by rw [hwi hlt, hla]
    unfold wkO cmpQ' at e
    simp only [c1, c2, decide_true, decide_false, Bool.true_and, Bool.true_or, Bool.false_or] at e
    try simp only [c3, decide_true, decide_false, Bool.true_and, Bool.false_and] at e
    exact Z0l.mk [0] (i + 1) (by simp) (by simp) (by simp only [State.can, AV.can, HO.can, idx, Z01, Z00, Heap.at, Nat.reduceBEq, ↓reduceIte, Option.getD_some, Option.map_some, List.map_cons, List.map_nil, List.getD_cons_zero, wkSt, Z12 hlt (by omega)]; rw [← e, wkS_set hlt]) (by show i + 1 ≤ _; omega) (by show _ - (i + 1) < _ - i; omega)
end Go.Ago

/- Contracts of the reference of layer 2: its small functions, Put, Of, Lay, Then, Back. Conditions: none. -/
set_option maxRecDepth 100000
set_option linter.unusedSimpArgs false
set_option linter.unusedVariables false
namespace Go.Ago

/-! ### Put -/
end Go.Ago

/- Contracts of the reference of layer 2: most, Copy, Same, Of, Lay, Then, Back. Conditions: none. -/
set_option maxRecDepth 100000
set_option linter.unusedSimpArgs false
set_option linter.unusedVariables false
namespace Go.Ago

theorem szR_mk' {n : Nat} {p : Nat → Nat → Bool} (h : n ≤ 64) : szR (mkR n p) = n := by rw [szR_mk]; omega
end Go.Ago

/- Contracts of the reference of layer 2: Lay, Then, Back. Conditions: none. -/
set_option maxRecDepth 100000
set_option linter.unusedSimpArgs false
set_option linter.unusedVariables false
namespace Go.Ago

/-! Row by row, place by place: what lies ahead of (i, k). -/
/-! ### Lay -/
/-! ### Back -/
/-! ### Then -/
end Go.Ago

/- Ways: what is reached from where. Conditions: none. -/
set_option linter.unusedSimpArgs false
set_option linter.unusedVariables false
namespace Go.Ago

section
variable {p : Nat → Nat → Bool}
theorem way_up {m i k : Nat} (h : way p m i k = true) : way p (m + 1) i k = true := by simp only [way, h, Bool.true_or]
theorem way_mono {m m' i k : Nat} (hm : m ≤ m') (h : way p m i k = true) : way p m' i k = true := by
  induction hm with
  | refl => exact h
  | step _ ih => exact way_up ih
theorem way_of {m i k : Nat} (h : p i k = true) : way p m i k = true := way_mono (Nat.zero_le m) (by simpa only [way] using h)
theorem way_trans {m i j k : Nat} (hj : j < m) (h1 : way p m i j = true) (h2 : way p m j k = true) : way p m i k = true := by
  induction m generalizing i j k with
  | zero => omega
  | succ m ih =>
    simp only [way, Bool.or_eq_true, Bool.and_eq_true] at h1 h2 ⊢
    by_cases e : j = m
    · subst e
      have g1 : way p j i j = true := by rcases h1 with h | h; exact h; exact h.1
      have g2 : way p j j k = true := by rcases h2 with h | h; exact h; exact h.2
      exact .inr ⟨g1, g2⟩
    · have hj' : j < m := by omega
      rcases h1 with h1 | ⟨h1, h1'⟩
      · rcases h2 with h2 | ⟨h2, h2'⟩
        · exact .inl (ih hj' h1 h2)
        · exact .inr ⟨ih hj' h1 h2, h2'⟩
      · rcases h2 with h2 | ⟨h2, h2'⟩
        · exact .inr ⟨h1, ih hj' h1' h2⟩
        · exact .inr ⟨h1, h2'⟩
/-- The least that is closed. -/
theorem way_min {V : Nat → Bool} (hc : ∀ b c, V b = true → p b c = true → V c = true) {m i : Nat} (hs : ∀ b, p i b = true → V b = true) : ∀ {k : Nat}, way p m i k = true → V k = true := by
  suffices h : ∀ m a k, (V a = true ∨ a = i) → way p m a k = true → V k = true from fun {k} hk => h m i k (.inr rfl) hk
  intro m
  induction m with
  | zero =>
    intro a k ha hk
    simp only [way] at hk
    rcases ha with ha | ha
    · exact hc a k ha hk
    · subst ha; exact hs k hk
  | succ m ih =>
    intro a k ha hk
    simp only [way, Bool.or_eq_true, Bool.and_eq_true] at hk
    rcases hk with hk | ⟨h1, h2⟩
    · exact ih a k ha hk
    · exact ih m k (.inl (ih a m ha h1)) h2
theorem way_lt {n : Nat} (hp : ∀ a b, p a b = true → a < n ∧ b < n) {m i k : Nat} (h : way p m i k = true) : i < n ∧ k < n := by
  induction m generalizing i k with
  | zero => exact hp i k (by simpa only [way] using h)
  | succ m ih =>
    simp only [way, Bool.or_eq_true, Bool.and_eq_true] at h
    rcases h with h | ⟨h1, h2⟩
    · exact ih h
    · exact ⟨(ih h1).1, (ih h2).2⟩
end

/-- What the search for all that is reached from i Z16: T is still to be looked at; of the one that is looked at, the first k are done. -/
structure Seek (A : List W) (n i : Nat) (V : Nat → Bool) (T : List Nat) (q : Nat → Nat → Prop) : Prop where
  sound : ∀ b, V b = true → b < n ∧ way (hasN A) n i b = true
  start : ∀ b, hasN A i b = true → V b = true
  todo : ∀ b ∈ T, V b = true
  done : ∀ b c, V b = true → hasN A b c = true → b ∈ T ∨ V c = true ∨ q b c

theorem Seek.end {A : List W} {n i : Nat} {V : Nat → Bool} (h : Seek A n i V [] fun _ _ => False) (b : Nat) : V b = way (hasN A) n i b := by
  apply beq_of_iff
  refine ⟨fun hv => (h.sound b hv).2, fun hw => way_min (V := V) (fun b c hb hc => ?_) h.start hw⟩
  rcases h.done b c hb hc with h1 | h1 | h1
  · simp at h1
  · exact h1
  · exact h1.elim

theorem Seek.skip {A : List W} {n i j k : Nat} {V : Nat → Bool} {T : List Nat} (h : Seek A n i V T fun b c => b = j ∧ k ≤ c) (hk : hasN A j k = false ∨ V k = true) : Seek A n i V T fun b c => b = j ∧ k + 1 ≤ c :=
  ⟨h.sound, h.start, h.todo, fun b c h1 h2 => by
    rcases h.done b c h1 h2 with h3 | h3 | ⟨h3, h4⟩
    · exact .inl h3
    · exact .inr (.inl h3)
    · by_cases e : c = k
      · subst e; subst h3
        rcases hk with hk | hk
        · rw [hk] at h2; cases h2
        · exact .inr (.inl hk)
      · exact .inr (.inr ⟨h3, by omega⟩)⟩
theorem Seek.rest {A : List W} {n i j : Nat} {V : Nat → Bool} {T : List Nat} (h : Seek A n i V T fun b c => b = j ∧ n ≤ c) (hn : szR A ≤ n) : Seek A n i V T fun _ _ => False :=
  ⟨h.sound, h.start, h.todo, fun b c h1 h2 => by
    rcases h.done b c h1 h2 with h3 | h3 | ⟨h3, h4⟩
    · exact .inl h3
    · exact .inr (.inl h3)
    · have := (hasN_lt h2).2; omega⟩
end Go.Ago

/- Law 22: awake, raced, and RaceOrder. Conditions: none. -/
set_option maxRecDepth 100000
set_option linter.unusedSimpArgs false
set_option linter.unusedVariables false
namespace Go.Ago
/-! ### The order -/
def dirN (ss : List StepG) (i k : Nat) : Bool := decide (k < ss.length) && (decide (i < k) && dirQ ss i k)
theorem ofP_all {q : Nat → Nat → Bool} {n i k : Nat} (hi : i < n) (hk : k < n) : ofP (pAll q n n) i k = (decide (i < k) && q i k) := by
  rw [Bool.eq_iff_iff]
  unfold ofP
  rw [List.any_eq_true]
  constructor
  · rintro ⟨x, hx, h⟩
    obtain ⟨a, b, h1, h2, h3, h4, rfl⟩ := pAll_mem.1 hx
    simp only [Bool.and_eq_true, decide_eq_true_eq] at h ⊢
    obtain ⟨e1, e2⟩ := h
    have e1 : a = i := by omega
    have e2 : b = k := by omega
    subst e1; subst e2
    exact ⟨h3, h4⟩
  · intro h
    simp only [Bool.and_eq_true, decide_eq_true_eq] at h
    exact ⟨⟨i, k⟩, pAll_mem.2 ⟨i, k, hi, hk, h.1, h.2, rfl⟩, by simp⟩
theorem ofErr_all {q : Nat → Nat → Bool} {n : Nat} (hn : n ≤ 64) : ofErr n (pAll q n n) = 0 := by
  unfold ofErr
  rw [if_neg (by omega)]
  have : (pAll q n n).any (ofBad n) = false := by
    rw [List.any_eq_false]
    intro x hx
    obtain ⟨a, b, h1, h2, h3, h4, rfl⟩ := pAll_mem.1 hx
    simp [ofBad]; omega
  rw [this]; rfl
theorem ofG_all {q : Nat → Nat → Bool} {n : Nat} (hn : n ≤ 64) : ofG n (pAll q n n) = mkR n (fun i k => decide (i < k) && q i k) := by
  unfold ofG
  rw [if_pos (ofErr_all hn), Int.toNat_natCast]
  exact mkR_congr fun a b ha hb => ofP_all ha hb
theorem ord_len {ss : List StepG} (hn : ss.length ≤ 64) : (ordG ss).length = ss.length := by
  unfold ordG plusG
  rw [ofG_all hn, mkR_len, szR_mk' hn]
theorem ord_has {ss : List StepG} (hn : ss.length ≤ 64) {i k : Nat} : hasI (ordG ss) i k = way (dirN ss) ss.length i k := by
  have hp : ∀ a b, hasN (mkR ss.length (fun i k => decide (i < k) && dirQ ss i k)) a b = dirN ss a b := fun a b => by
    rw [hasN_mk hn]
    unfold dirN
    by_cases h : b < ss.length
    · by_cases h2 : a < b
      · have : a < ss.length := by omega
        simp [h, h2, this]
      · simp [h, h2]
    · simp [h]
  unfold ordG plusG
  rw [ofG_all hn, szR_mk' hn, hasI_nat, hasN_mk hn]
  have hw : hasN (mkR ss.length (fun i k => decide (i < k) && dirQ ss i k)) = dirN ss := by funext a b; exact hp a b
  rw [hw]
  by_cases h : way (dirN ss) ss.length i k = true
  · have := way_lt (n := ss.length) (fun a b e => by
      unfold dirN at e
      simp only [Bool.and_eq_true, decide_eq_true_eq] at e
      omega) h
    simp [h, this]
  · rw [Bool.not_eq_true] at h
    rw [h, Bool.and_false]
theorem dirN_iff {ss : List StepG} {i k : Nat} : dirN ss i k = true ↔ k < ss.length ∧ i < k ∧ dirQ ss i k = true := by unfold dirN; simp
/-- A path of the order: what is reached from a step. -/
theorem ord_min {ss : List StepG} (hn : ss.length ≤ 64) {i : Nat} {P : Nat → Prop} (hs : ∀ k, k < ss.length → i < k → dirQ ss i k = true → P k) (hc : ∀ j k, P j → i < j → j < k → k < ss.length → dirQ ss j k = true → P k) {k : Nat} (h : hasI (ordG ss) i k = true) : i < k ∧ k < ss.length ∧ P k := by
  rw [ord_has hn] at h
  classical
  have := way_min (p := dirN ss) (V := fun k => decide (i < k ∧ k < ss.length ∧ P k)) (fun b c hb hbc => by
    simp only [decide_eq_true_eq] at hb ⊢
    obtain ⟨h1, h2, h3⟩ := dirN_iff.1 hbc
    exact ⟨by omega, h1, hc b c hb.2.2 hb.1 h2 h1 h3⟩) (i := i) (fun b hb => by
    simp only [decide_eq_true_eq]
    obtain ⟨h1, h2, h3⟩ := dirN_iff.1 hb
    exact ⟨h2, h1, hs b h1 h2 h3⟩) h
  simpa using this
theorem ord_lt {ss : List StepG} (hn : ss.length ≤ 64) {i k : Nat} (h : hasI (ordG ss) i k = true) : i < k ∧ k < ss.length := by
  have := ord_min hn (P := fun _ => True) (fun _ _ _ _ => trivial) (fun _ _ _ _ _ _ _ => trivial) h
  exact ⟨this.1, this.2.1⟩
theorem ord_of {ss : List StepG} (hn : ss.length ≤ 64) {i k : Nat} (hik : i < k) (hk : k < ss.length) (h : dirQ ss i k = true) : hasI (ordG ss) i k = true := by
  rw [ord_has hn]; exact way_of (dirN_iff.2 ⟨hk, hik, h⟩)
theorem ord_trans {ss : List StepG} (hn : ss.length ≤ 64) {i j k : Nat} (h1 : hasI (ordG ss) i j = true) (h2 : hasI (ordG ss) j k = true) : hasI (ordG ss) i k = true := by
  have hj := (ord_lt hn h1).2
  rw [ord_has hn] at h1 h2 ⊢
  exact way_trans hj h1 h2
/-! ### awake -/
def aw22 : List StepG := [⟨0, ⟨2, 0, 0, 1⟩, ⟨1, 1⟩⟩, ⟨1, ⟨1, 0, 1, 0⟩, ⟨1, 1⟩⟩]
theorem aw22_err : Z25 [⟨false, 0⟩] 2 aw22 = 0 := by decide +kernel
theorem aw22_races : (racesL [⟨false, 0⟩] 2 aw22).length = 1 ∧ (racesL [⟨false, 0⟩] 2 aw22).getD 0 default = ⟨0, 1⟩ := by decide +kernel
set_option maxHeartbeats 4000000 in
theorem body_law22_awake {T : Tab} {n1 : Nat} (k1 : Knows T n1 sp_Races) : sp_true.Body T V_law22_awake (L_law22_awake n1) R_law22_awake := by
  have F1 := k1.F; have G1 := k1.G
  rintro x -
  refine .inl ⟨rfl, ?_⟩
  unfold V_law22_awake L_law22_awake R_law22_awake
  obtain ⟨L, hL⟩ : ∃ L, L = racesL [⟨false, 0⟩] 2 aw22 := ⟨_, rfl⟩
  have hr : ∀ f g, sp_Races.at [.d (.list [[.bool false, .int .i64 0]] f), .d (.int .i64 2), .d (.list [[.int .i64 0, .int .i64 2, .int .i64 0, .int .i64 0, .int .i64 1, .int .i64 1, .int .i64 1], [.int .i64 1, .int .i64 1, .int .i64 0, .int .i64 1, .int .i64 0, .int .i64 1, .int .i64 1]] g)] =
      .data (1 ≤ maxLen ∧ 2 ≤ maxLen) (.tup [.d (.list (L.map RatG.row) false), .d (.int .i64 0)]) false := fun f g => by
    have := at_Races [⟨false, 0⟩] f 2 aw22 g
    rw [aw22_err, ← hL] at this
    exact this
  obtain ⟨h1, h2⟩ := aw22_races
  rw [← hL] at h1 h2
  have ht : ∀ n : Int, n.toNat = n.toNat := fun _ => rfl
  simp (maxSteps := 3000000) only [↓Z0x, ↓Z02, ↓Z0i, ↓Z06, ↓Z0h, ↓Z0g, ↓Z1a, ↓Z0p, ↓Z0m, ↓Z0a, Z1g, Z05, Z0s, Z18, Z0v, evN, Z11, Z0f, Z0u, Z0e, Z09, Z0d, Z1v, evT, Opd.ev, Z01, Z00, Z0t, Z1q, Z17, Z1i, Z0o, Z0w, Z07, Z16, LOp.isNew, State.prune, Z19, Z13, AV.leaf, Heap.at, Z08, Z15, Z04, idx_Rat, Z0b, Z03, RatG.row, Z1z, Int.reduceToNat, Z2i, mkVec, drows, evMk, List.length_map, List.take_of_length_le, Z1r, Z20, Z1s, binT, binQ, Bool.and_self, resQ, resV, resT, pickV, Z0z, Z1e, fnOf, Z1d, Z23, evEq, eqV, eqK, eqC1, buildQ, buildT, buildRQ, buildRT, putRow, dcells, Z0n, RetS, Nat.le_refl, AV.d.injEq, DV.bool.injEq, ↓reduceIte, Nat.reduceAdd, Nat.reduceBEq, List.length_cons, List.length_nil, List.replicate_succ, List.replicate_zero, List.nil_append, List.cons_append, List.append_nil, List.map_cons, List.map_nil, List.all_cons, List.all_nil, List.set_cons_zero, List.set_cons_succ, List.getD_cons_zero, List.getD_cons_succ, List.drop_zero, List.drop_succ_cons, List.take_succ_cons, List.take_zero, List.flatten_cons, List.flatten_nil, Bool.and_true, true_and, and_true, Option.bind_some, Option.map_some, decide_true, and_self, Nat.reduceLT, Nat.reduceLeDiff, Nat.zero_add, Nat.add_zero, Bool.false_eq_true, sp_true, F1, G1, hr, h1, h2, Z04, Z03]
  exact ⟨⟨by decide, by decide, Z1t (by decide) (by decide)⟩, ⟨by decide, by decide⟩, fun _ => ⟨by decide, by decide⟩, fun h => h rfl⟩
/-! ### RaceOrder -/
theorem ordL_ok {l : List LocG} {t : Int} {ss : List StepG} (h : Z25 l t ss = 0) : ordL l t ss = ordG ss := if_pos h
theorem ordL_no {l : List LocG} {t : Int} {ss : List StepG} (h : ¬ Z25 l t ss = 0) : ordL l t ss = [] := if_neg h
end Go.Ago

/- HistSwap: two plain acts of unlike threads on unlike locations change places. Conditions: none. -/
set_option maxRecDepth 100000
set_option linter.unusedSimpArgs false
set_option linter.unusedVariables false
namespace Go.Ago
end Go.Ago

/- HistOwn: a thread reads what it wrote itself, or what stands later. Conditions: none. -/
set_option maxRecDepth 100000
set_option linter.unusedSimpArgs false
set_option linter.unusedVariables false
namespace Go.Ago
end Go.Ago

/- HistOnward: fronts and marks never go back, and what was written stays. Conditions: none. -/
set_option maxRecDepth 100000
set_option linter.unusedSimpArgs false
set_option linter.unusedVariables false
namespace Go.Ago
end Go.Ago

/- HistSees: a thread may read just what it is told that it sees. Conditions: none. -/
set_option maxRecDepth 100000
set_option linter.unusedSimpArgs false
set_option linter.unusedVariables false
namespace Go.Ago
theorem right_plain {s : StepG} {l : List LocG} (hk : isPl s.act.kind = true) (h : s.act.right l = true) : (l.getD s.act.loc.toNat default).atom = false := by
  rw [isPl_iff] at hk
  unfold ActG.right at h
  rw [if_neg (by omega)] at h
  simp only [Bool.and_eq_true, beq_iff_eq] at h
  rw [h.1.1.2]
  unfold ActG.isA
  simp; omega
def StepG.cells (z : StepG) : List AV := [.d (.int .i64 z.thread), .d (.int .i64 z.act.kind), .d (.int .i64 z.act.loc), .d (.int .i64 z.act.old), .d (.int .i64 z.act.new), .d (.int .i64 z.when.num), .d (.int .i64 z.when.den)]
end Go.Ago

/- Runs of a memory: what is carried along the order. Conditions: none. -/
set_option maxRecDepth 100000
set_option linter.unusedSimpArgs false
set_option linter.unusedVariables false
namespace Go.Ago
/-- A run that is taken. -/
structure RunG (m : Nat → Mem) (s : Nat → StepG) (n : Nat) : Prop where
  ok : ∀ i, i < n → Z2a (m i) (s i) = 0
  next : ∀ i, i < n → m (i + 1) = doMem (m i) (s i)
  good : ∀ i, i ≤ n → (m i).Good (1 + i)
  locs : ∀ i, i ≤ n → (m i).locs = (m 0).locs
  fronts : ∀ i, i ≤ n → (m i).fronts.length = (m 0).fronts.length
def memAt (l : List LocG) (t : Int) (ss : List StepG) (i : Nat) : Mem := (goM (newM l t) ss i).plain
def stepAt (ss : List StepG) (i : Nat) : StepG := ss.getD i default
theorem doMem_fronts (m : Mem) (s : StepG) : (doMem m s).fronts.length = m.fronts.length := by
  unfold doMem
  split
  · simp
  · split
    · split <;> simp
    · rfl
theorem run_of {l : List LocG} {t : Int} {ss : List StepG} (h : Z25 l t ss = 0) : RunG (memAt l t ss) (stepAt ss) ss.length := by
  obtain ⟨h1, h2⟩ := playErr_new h
  have hok := firstBad_zero h2
  have hnext : ∀ i, i < ss.length → memAt l t ss (i + 1) = doMem (memAt l t ss i) (stepAt ss i) := fun i hi => by
    unfold memAt stepAt
    rw [goM_succ _ hi]
    unfold stepM
    rw [if_pos (hok i hi), plain_av]
  refine ⟨hok, hnext, fun i _ => goM_good (newM_good h1) ss i, fun i hi => ?_, fun i hi => ?_⟩
  · induction i with
    | zero => rfl
    | succ i ih => rw [hnext i (by omega), doMem_locs, ih (by omega)]
  · induction i with
    | zero => rfl
    | succ i ih => rw [hnext i (by omega), doMem_fronts, ih (by omega)]
def frAt (m : Mem) (u x : Nat) : RatG := (m.fronts.getD u []).getD x default
def mkAt (m : Mem) (y x : Nat) : RatG := (m.marks.getD y []).getD x default
def paAt (m : Mem) (x : Nat) : List StampG := m.past.getD x []
section
variable {m : Mem} {s : StepG} {b x : Nat}
theorem fr_len (h : m.Good b) {u : Nat} (hu : u < m.fronts.length) : (m.fronts.getD u []).length = m.locs.length := h.wf.frontsL _ (getD_mem hu)
theorem fr_right (h : m.Good b) {u : Nat} (hu : u < m.fronts.length) (hx : x < m.locs.length) : Z29 (frAt m u x) = true :=
  h.frontsR _ (getD_mem hu) _ (getD_mem (by rw [fr_len h hu]; exact hx))
theorem mk_right (h : m.Good b) {y : Nat} (hy : y < m.locs.length) (ha : (m.locs.getD y default).atom = true) (hx : x < m.locs.length) : Z29 (mkAt m y x) = true :=
  h.marksR _ (getD_mem (by rw [h.wf.marks]; exact hy)) _ (getD_mem (by rw [h.wf.marksA y hy ha]; exact hx))
theorem take_u (he : Z2a m s = 0) : s.thread.toNat < m.fronts.length := by have := taken he; have := this.t0; have := (taken he).t1; omega
theorem fr_write (h : m.Good b) (he : Z2a m s = 0) (hk : s.act.kind = 2) (hx : s.act.loc.toNat = x) : frAt (doMem m s) s.thread.toNat x = leastQ s.when := by
  have hu := take_u he
  have hl := (taken he).loc (.inl (by rw [hk]; rfl))
  unfold doMem frAt
  rw [if_pos hk]
  show ((m.fronts.set _ _).getD _ []).getD _ _ = _
  rw [getD_setQ, if_pos ⟨rfl, hu⟩, getD_setQ, if_pos ⟨hx, by show x < (m.fronts.getD _ []).length; rw [fr_len h hu]; omega⟩]
theorem fr_atom (h : m.Good b) (he : Z2a m s = 0) (hk : isAt s.act.kind = true) (hx : x < m.locs.length) : frAt (doMem m s) s.thread.toNat x = ratMaxG (frAt m s.thread.toNat x) (mkAt m s.act.loc.toNat x) := by
  have hu := take_u he
  have h2 : ¬ s.act.kind = 2 := by rw [isAt_iff] at hk; omega
  have e : (joinG (frontOf m s) (markOf m s)).getD x default = ratMaxG (frAt m s.thread.toNat x) (mkAt m s.act.loc.toNat x) := joinG_get (by show x < (m.fronts.getD _ []).length; rw [fr_len h hu]; exact hx)
  unfold doMem
  rw [if_neg h2, if_pos hk]
  split
  · show ((m.fronts.set _ _).getD _ []).getD _ _ = _
    rw [getD_setQ, if_pos ⟨rfl, hu⟩, e]
  · show ((m.fronts.set _ _).getD _ []).getD _ _ = _
    rw [getD_setQ, if_pos ⟨rfl, hu⟩, e]
theorem take_at (he : Z2a m s = 0) (hk : isAt s.act.kind = true) : s.act.loc.toNat < m.locs.length ∧ (m.locs.getD s.act.loc.toNat default).atom = true := by
  have ht := taken he
  have hl := ht.loc (.inr hk)
  refine ⟨by omega, ?_⟩
  have := ht.right
  obtain ⟨t, ⟨k, o, q, v⟩, w⟩ := s
  exact right_atom hk this
theorem isAt_set {k : Int} (h : isSet k = true) : isAt k = true := by
  unfold isSet at h; rw [isAt_iff]; simp at h; omega
theorem mk_set (h : m.Good b) (he : Z2a m s = 0) (hk : isSet s.act.kind = true) (hx : x < m.locs.length) : mkAt (doMem m s) s.act.loc.toNat x = ratMaxG (frAt m s.thread.toNat x) (mkAt m s.act.loc.toNat x) := by
  have ha := isAt_set hk
  have hu := take_u he
  obtain ⟨hy, -⟩ := take_at he ha
  have h2 : ¬ s.act.kind = 2 := by rw [isAt_iff] at ha; omega
  have h3 : ¬ s.act.kind = 3 := by unfold isSet at hk; simp at hk; omega
  have e : (joinG (frontOf m s) (markOf m s)).getD x default = ratMaxG (frAt m s.thread.toNat x) (mkAt m s.act.loc.toNat x) := joinG_get (by show x < (m.fronts.getD _ []).length; rw [fr_len h hu]; exact hx)
  unfold doMem
  rw [if_neg h2, if_pos ha]
  simp only [if_neg h3]
  show ((m.marks.set _ _).getD _ []).getD _ _ = _
  rw [getD_setQ, if_pos ⟨rfl, by rw [h.wf.marks]; exact hy⟩, e]
theorem pa_same (hn : ¬ (s.act.kind = 2 ∧ s.act.loc.toNat = x)) : paAt (doMem m s) x = paAt m x := by
  unfold doMem paAt
  split
  · rename_i hk
    show (m.past.set _ _).getD _ [] = _
    rw [getD_setQ, if_neg (fun e => hn ⟨hk, e.1⟩)]
  · split
    · split <;> rfl
    · rfl
theorem pa_write (h : m.Good b) (he : Z2a m s = 0) (hk : s.act.kind = 2) (hx : s.act.loc.toNat = x) : paAt (doMem m s) x = insG (paAt m x) (bsAt (paAt m x) s.when) ⟨leastQ s.when, s.act.new⟩ := by
  have hl := (taken he).loc (.inl (by rw [hk]; rfl))
  unfold doMem paAt
  rw [if_pos hk]
  show (m.past.set _ _).getD _ [] = _
  rw [getD_setQ, if_pos ⟨hx, by rw [h.wf.past]; omega⟩]
  unfold pastOf
  rw [hx]
end
/-! ### What is carried -/
section
variable {m : Nat → Mem} {s : Nat → StepG} {n x : Nat}
end
/-! ### What was written last -/
def isW (s : StepG) (x : Nat) : Bool := decide (s.act.kind = 2) && decide (s.act.loc.toNat = x)
theorem getD_last {P : List StampG} {e : StampG} : (P ++ [e]).getD P.length default = e := by simp
theorem pa_rising {m : Mem} {b x : Nat} (h : m.Good b) (hx : x < m.locs.length) : Rising (paAt m x) := h.rising _ (getD_mem (by rw [h.wf.past]; exact hx))
theorem lastG_plain (m : MemG) (loc : Int) : lastG m loc = if 0 ≤ loc ∧ loc < m.plain.past.length then (paAt m.plain loc.toNat).getLast? else none := by
  unfold lastG paAt
  have hl : m.plain.past.length = m.past.length := Z1p _
  rw [hl]
  split
  · rename_i h
    have : (inn m.past).getD loc.toNat [] = (m.past.getD loc.toNat default).1 := by
      unfold inn
      rw [List.getD_eq_getElem?_getD, List.getElem?_map, List.getElem?_eq_getElem (by omega), Z28 (by omega)]; rfl
    show _ = ((inn m.past).getD _ []).getLast?
    rw [this]; rfl
  · rfl
/-- At the beginning. -/
theorem new_past {l : List LocG} {t : Int} (h : newErr l t = 0) {x : Nat} (hx : x < l.length) (ha : (l.getD x default).atom = false) : paAt (newM l t).plain x = [⟨⟨0, 1⟩, (l.getD x default).init⟩] := by
  unfold newM
  rw [if_pos h]
  show (inn (l.map pastX)).getD x [] = _
  rw [inn_map, List.getD_eq_getElem?_getD, List.getElem?_map, List.getElem?_eq_getElem hx]
  rw [Z28 hx] at ha ⊢
  show (pastX l[x]).1 = _
  unfold pastX; rw [ha]; rfl
theorem new_front {l : List LocG} {t : Int} (h : newErr l t = 0) {u x : Nat} (hu : u < (newM l t).plain.fronts.length) (hx : x < l.length) : frAt (newM l t).plain u x = ⟨0, 1⟩ := by
  unfold newM at hu ⊢
  rw [if_pos h] at hu ⊢
  have hu : u < (inn (frontX l.length t.toNat)).length := hu
  show ((inn (frontX l.length t.toNat)).getD u []).getD x default = _
  rw [Z28 hu]
  unfold frontX inn startG
  simp [hx]
theorem new_locs {l : List LocG} {t : Int} (h : newErr l t = 0) : (newM l t).plain.locs = l := by unfold newM; rw [if_pos h]; rfl
end Go.Ago

/- RaceOne and RaceReads. Conditions: none. -/
set_option maxRecDepth 100000
set_option linter.unusedSimpArgs false
set_option linter.unusedVariables false
namespace Go.Ago
theorem wk_plain {m : MemG} {s : StepG} (h : isPl s.act.kind = false) : wkB m s = false := by
  unfold wkB wkO
  split
  · rfl
  · rw [h]; rfl
/-- The location of a plain step. -/
theorem plain_loc {m : Mem} {s : StepG} (he : Z2a m s = 0) (hp : isPl s.act.kind = true) : s.act.loc.toNat < m.locs.length ∧ (m.locs.getD s.act.loc.toNat default).atom = false := by
  have ht := taken he
  have := ht.loc (.inl hp)
  exact ⟨by omega, right_plain hp ht.right⟩
theorem run_locs {l : List LocG} {t : Int} {ss : List StepG} (he : Z25 l t ss = 0) {i : Nat} (hi : i ≤ ss.length) : (memAt l t ss i).locs = l := by
  rw [(run_of he).locs i hi]; exact new_locs (playErr_new he).1
theorem idx_B {l : List Bool} {full : Bool} {kd : IntKind} {n : Int} {k : Delta → Prop} : stepK (evIdxAddr 1 (.d (.list (l.map rowB) full)) (.d (.int kd n))) k ↔ (0 ≤ n ∧ n < l.length) ∧ k ⟨.dptr (rowB (l.getD n.toNat default)) 0, [], []⟩ := stepK_idx_map (fun _ => rfl)
/-! ### RaceOne -/
theorem weakL_len {l : List LocG} {t : Int} {ss : List StepG} (he : Z25 l t ss = 0) : (weakL l t ss).length = ss.length := by unfold weakL; rw [if_pos he]; simp
/-! ### raced -/
/-! ### RaceReads -/
end Go.Ago
