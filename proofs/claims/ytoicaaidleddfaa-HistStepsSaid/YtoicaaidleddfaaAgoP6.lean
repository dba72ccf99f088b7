/- hist.Do: acts on atomic locations, and what is no act on a location. Conditions: none. -/
import Derived.Test.YtoicaaidleddfaaAgoP5
import Derived.Test.YtoicaaidleddfaaAgoP4
import Derived.Test.YtoicaaidleddfaaAgoP3
import Derived.Laws.Bits64b
set_option maxRecDepth 100000
set_option linter.unusedSimpArgs false
set_option linter.unusedVariables false
namespace Go.Ago
theorem mk_rowsL_set {α : Type} {f : α → List DV} (L : List (List α × Bool)) (i : Nat) (x : List α) : Z4f 1 ((Z46 f (cpL L L.length)).set i [.d (.list (x.map f) false)]) = .dvec 1 (((inn L).set i x).map fun l => [.list (l.map f) false]) := by
  have e : (Z46 f (cpL L L.length)).set i [.d (.list (x.map f) false)] = Z46 f (((inn L).set i x).map (·, false)) := by
    rw [cpL_all]
    unfold Z46
    rw [List.map_map, List.map_map, List.map_set]; rfl
  rw [e]
  unfold Z4f
  rw [drows_rowsL, List.map_map]; rfl
theorem right_atom {k o q v : Int} {l : List LocG} (hk : isAt k = true) (h : ActG.right ⟨k, o, q, v⟩ l = true) : (l.getD o.toNat default).atom = true := by
  have hk' : k = 3 ∨ k = 4 ∨ k = 5 := by simpa [isAt, or_assoc] using hk
  unfold ActG.right at h
  rw [if_neg (by show ¬ k = 6; omega)] at h
  simp only [Bool.and_eq_true, beq_iff_eq] at h
  have e : ActG.isA ⟨k, o, q, v⟩ = true := by rcases hk' with rfl | rfl | rfl <;> rfl
  rw [h.1.1.2]; exact e
theorem doErr_at {m : Mem} {s : StepG} (h : isAt s.act.kind = true) : doErr m s = if goodQ m s = false then 1 else if s.act.kind ≠ 4 ∧ m.vals.getD s.act.loc.toNat 0 ≠ s.act.old then 3 else 0 := by
  have hk : s.act.kind = 3 ∨ s.act.kind = 4 ∨ s.act.kind = 5 := by simpa [isAt, or_assoc] using h
  unfold doErr
  by_cases g : goodQ m s = false
  · rw [if_pos g, if_pos g]
  · rw [if_neg g, if_neg g, if_neg (by omega), if_neg (by omega)]
    by_cases c : s.act.kind ≠ 4 ∧ m.vals.getD s.act.loc.toNat 0 ≠ s.act.old
    · rw [if_pos c, if_pos ⟨h, c⟩]
    · rw [if_neg c, if_neg (fun h => c h.2)]
theorem joinG_len (a b : List RatG) : (joinG a b).length = a.length := by simp [joinG]
set_option maxHeartbeats 8000000 in
theorem do_get {T : Tab} {n1 n2 n3 n4 n5 n6 n7 n8 n9 n10 : Nat} (k1 : Knows T n1 sp_act_Right) (k2 : Knows T n2 sp_plain) (k3 : Knows T n3 sp_rat_Right) (k4 : KnowsG T n4 ef_copied0.at) (k5 : Knows T n5 sp_hist_at) (k6 : Knows T n6 sp_rat_Cmp) (k7 : Knows T n7 sp_rat_Least) (k8 : KnowsG T n8 ef_Insert.at) (k9 : Knows T n9 sp_join) (k10 : Knows T n10 (cloneS 2 16))
    (m : MemG) (th o q v : Int) (w : RatG) (hm : m.plain.Wf 1000000) :
    vck T 0 V_hist_Do (L_hist_Do n1 n2 n3 n4 n5 n6 n7 n8 n9 n10) ⟨Z0y 0 [m.av, StepG.av7 ⟨th, ⟨3, o, q, v⟩, w⟩], []⟩ (retK R_hist_Do (SaysK (RetD (.tup [(resM m.plain ⟨th, ⟨3, o, q, v⟩, w⟩).av, .d (.int .i64 (doErr m.plain ⟨th, ⟨3, o, q, v⟩, w⟩))])))) := by
  have F1 := k1.F; have G1 := k1.G; have F2 := k2.F; have G2 := k2.G; have F3 := k3.F; have G3 := k3.G; have G4 := k4.G; have F5 := k5.F; have G5 := k5.G; have F6 := k6.F; have G6 := k6.G; have F7 := k7.F; have G7 := k7.G; have G8 := k8.G; have F9 := k9.F; have G9 := k9.G; have F10 := k10.F; have G10 := k10.G
  generalize hX : SaysK _ = X
  obtain ⟨a1, a2, a3, a4, a5, a6, a7, a8, a9, a10⟩ := m
  obtain ⟨wn, wd⟩ := w
  have hl : a1.length ≤ 16 := hm.locs
  have h1 : a3.length = a1.length := by have := hm.past; simpa [MemG.plain, Z31] using this
  have h2 : a5.length = a1.length := hm.vals
  have h3 : a7.length = a1.length := by have := hm.marks; simpa [MemG.plain, Z31] using this
  have h4 : a9.length ≤ 3 := by have := hm.fronts; simpa [MemG.plain, Z31] using this
  have hcp := cp_ok hm (Nat.le_refl _)
  by_cases hb : (0 ≤ th ∧ th < a9.length) ∧ ActG.right ⟨3, o, q, v⟩ a1 = true
  · obtain ⟨⟨b1, b2⟩, b3⟩ := hb
    obtain ⟨b4, b5⟩ := right_bounds (by decide) b3
    have b6 := right_atom (by decide) b3
    have r7 := rowsL_all (f := RatG.row) (L := a7) (i := o.toNat) (by omega)
    have r8 := rowsL_all (f := RatG.row) (L := a9) (i := th.toNat) (by omega)
    have c1 : (th < 0) = False := by simp; omega
    have c2 : ((a9.length : Int) ≤ th) = False := by simp; omega
    have hfl : ((inn a9).getD th.toNat []).length = a1.length := hm.frontsL _ (inn_get (L := a9) (i := th.toNat) (by omega))
    have hml : ((inn a7).getD o.toNat []).length = a1.length := hm.marksA o.toNat (by show o.toNat < a1.length; omega) b6
    have hjl := joinG_len ((inn a9).getD th.toNat []) ((inn a7).getD o.toNat [])
    have hgood : goodQ (MemG.plain ⟨a1, a2, a3, a4, a5, a6, a7, a8, a9, a10⟩) ⟨th, ⟨3, o, q, v⟩, ⟨wn, wd⟩⟩ = decide (wn = 0 ∧ wd = 0) := by
      have e1 : decide (th < 0) = false := decide_eq_false (by omega)
      have e2 : decide ((a9.length : Int) ≤ th) = false := decide_eq_false (by omega)
      simp [goodQ, MemG.plain, Z31, isPl, b3, e1, e2]
    have hD : doErr (MemG.plain ⟨a1, a2, a3, a4, a5, a6, a7, a8, a9, a10⟩) ⟨th, ⟨3, o, q, v⟩, ⟨wn, wd⟩⟩ = if decide (wn = 0 ∧ wd = 0) = false then 1 else if a5.getD o.toNat 0 ≠ q then 3 else 0 := by
      rw [doErr_at (by show isAt 3 = true; decide), hgood]
      have e : ((3 : Int) ≠ 4 ∧ a5.getD o.toNat 0 ≠ q) = (a5.getD o.toNat 0 ≠ q) := by apply propext; exact ⟨fun h => h.2, fun h => ⟨by decide, h⟩⟩
      show (if _ then (1 : Int) else if ((3 : Int) ≠ 4 ∧ a5.getD o.toNat 0 ≠ q) then 3 else 0) = _
      simp only [e]
    have hM : doMem (MemG.plain ⟨a1, a2, a3, a4, a5, a6, a7, a8, a9, a10⟩) ⟨th, ⟨3, o, q, v⟩, ⟨wn, wd⟩⟩ = ⟨a1, inn a3, a5, inn a7, (inn a9).set th.toNat (joinG ((inn a9).getD th.toNat []) ((inn a7).getD o.toNat []))⟩ := by
      unfold doMem
      rw [if_neg (by show ¬ (3 : Int) = 2; decide), if_pos (by show isAt 3 = true; decide)]
      show (if (3 : Int) = 3 then _ else _) = _
      rw [if_pos rfl]; rfl
    unfold V_hist_Do L_hist_Do R_hist_Do
    simp (maxSteps := 3000000) only [↓Z0g, ↓Z10, ↓Z04, ↓Z0p, ↓Z0f, ↓Z09, ↓Z0a, ↓Z0o, ↓Z1i, ↓Z14, ↓Z23, ↓Z0n, ↓Z1p, ↓Z0i, ↓Z0c, ↓Z0z, ↓Z0b, ↓Z1r, Z2m, Z05, Z0q, Z17, Z12, Z1b, evN, Z19, Z0m, Z1a, Z24, Z0l, Z0e, Z0k, Z1s, Z1q, Z0w, evT, Opd.ev, Z03, Z00, Z18, Z2l, Z1k, Z1h, Z0u, Z0x, Z0y, Z0d, Z1t, LOp.isNew, State.prune, Z1j, Z1d, AV.leaf, Heap.at, Z06, Z02, Z0j, Z08, Z07, Z01, Z2i, rowI, Z3x, List.length_map, List.take_of_length_le, Z2p, Z3a, Z32, evUn, binT, binQ, chk, Z2h, Bool.and_self, resQ, resV, resT, Z4n, Z13, Z1y, fnOf, Z1v, isD, Z3u, evEq, eqV, eqK, eqC1, Z3t, Z3i, putRow, Z0t, Nat.le_refl, ↓reduceIte, Nat.reduceAdd, Nat.reduceBEq, List.length_cons, List.length_nil, List.replicate_succ, List.replicate_zero, List.nil_append, List.cons_append, List.append_nil, List.map_cons, List.map_nil, List.all_cons, List.all_nil, List.set_cons_zero, List.set_cons_succ, List.getD_cons_zero, List.getD_cons_succ, List.drop_zero, List.drop_succ_cons, List.take_succ_cons, List.take_zero, List.flatten_cons, List.flatten_nil, Bool.and_true, Bool.not_true, Bool.not_false, true_and, and_true, Option.bind_some, Option.map_some, decide_true, decide_false, and_self, Nat.reduceLT, Nat.reduceLeDiff, List.reverse_cons, List.reverse_nil, Nat.zero_add, Nat.add_zero, Bool.false_eq_true, MemG.av, StepG.av7, F1, G1, F2, G2, G4, F9, G9, Z4q, at_plain, cp0_eff, at_join, Z02, Z01, Z4j, cpL_len, Int.reduceEq, decide_true, decide_false, Bool.or_self, c1, c2, b3, r7, r8]
    subst hX
    have endg : ∀ {P : Prop}, (decide (wn = 0) = true ∧ decide (wd = 0) = true) → ¬ decide (wn = 0 ∧ wd = 0) = false := fun h => by
      simp only [decide_eq_true_eq] at h
      simp [h]
    have endb : (decide (wn = 0) = false ∨ decide (wd = 0) = false) → decide (wn = 0 ∧ wd = 0) = false := fun h => by
      simp only [decide_eq_false_iff_not] at h ⊢
      intro h2; rcases h with h | h
      · exact h h2.1
      · exact h h2.2
    refine ⟨fun g1 => ⟨hcp, ⟨by omega, by omega⟩, by omega, ⟨by omega, by omega⟩, by omega, fun g4 => ⟨⟨by omega, by omega⟩, by omega, ⟨by omega, by omega⟩, ⟨by omega, by omega⟩, by omega, ?_⟩, fun g4 => ?_⟩, fun g1 => ?_⟩
    · exact end_ok (ids := [3]) (by rw [hD, if_neg (endg (P := True) g1), if_neg (by simpa using g4)]) (by simp only [State.ices, State.ice, HO.data, iceEnv, Z42, HO.ice, AV.ice, AV.iceL, Z33, Z3h, iceRows_set, iceRows_rowsL, iceL_data, Heap.at, List.getD_cons_zero, List.getD_cons_succ, ↓reduceIte, Nat.reduceEqDiff, Option.map_some, Nat.zero_add, Nat.reduceAdd, Nat.reduceBEq, List.drop_zero, Z11, List.take_length, List.length_map, Nat.le_refl, and_self, Bool.not_true]; rfl) (by rw [hM]; exact ⟨rfl, mk_rowsL _, rfl, mk_rowsL _, mk_rowsL_set _ _ _⟩) (by rw [hM]) (by rw [hM]; simp [Z31]) (by rw [hM] <;> simp) (by rw [hM]; simp [Z31]) (by rw [hM]; simp [Z31])
    · exact end_err (by rw [hD, if_neg (endg (P := True) g1), if_pos (by simpa using g4)]) (by decide)
    · exact end_err (by rw [hD, if_pos (endb g1)]) (by decide)
  · have hD : doErr (MemG.plain ⟨a1, a2, a3, a4, a5, a6, a7, a8, a9, a10⟩) ⟨th, ⟨3, o, q, v⟩, ⟨wn, wd⟩⟩ = 1 := by
      unfold doErr
      rw [if_pos]
      unfold goodQ
      have e : ((inn a9).length : Int) = a9.length := by rw [Z31]
      show (!decide (th < 0) && !decide (((inn a9).length : Int) ≤ th) && ActG.right ⟨3, o, q, v⟩ a1 && _ && _) = false
      rw [e]
      by_cases c1 : th < 0
      · simp [c1]
      · by_cases c2 : (a9.length : Int) ≤ th
        · simp [c2]
        · have : ActG.right ⟨3, o, q, v⟩ a1 = false := by
            cases h : ActG.right ⟨3, o, q, v⟩ a1 with
            | false => rfl
            | true => exact absurd ⟨⟨by omega, by omega⟩, h⟩ hb
          simp [this]
    unfold V_hist_Do L_hist_Do R_hist_Do
    simp (maxSteps := 3000000) only [↓Z0g, ↓Z10, ↓Z04, ↓Z0p, ↓Z0f, ↓Z09, ↓Z0a, ↓Z0o, ↓Z1i, ↓Z23, ↓Z0n, ↓Z1p, ↓Z0i, ↓Z0c, ↓Z0z, ↓Z0b, ↓Z1r, Z2m, Z05, Z0q, Z17, Z12, Z1b, evN, Z19, Z0m, Z1a, Z24, Z0l, Z0e, Z0k, Z1s, Z1q, Z1o, Z0w, evT, Opd.ev, Z03, Z00, Z18, Z2l, Z1k, Z1h, Z0u, Z0x, Z0y, Z0d, Z1t, LOp.isNew, State.prune, Z1j, Z1d, AV.leaf, Heap.at, Z06, Z02, Z0j, Z08, Z07, Z01, Z2i, rowI, Z3x, List.length_map, List.take_of_length_le, Z2p, Z3a, Z32, evUn, binT, binQ, chk, Z2h, Bool.and_self, resQ, resV, resT, Z4n, Z13, Z1y, fnOf, Z1v, isD, Z3u, evEq, eqV, eqK, eqC1, Z3t, Z3i, putRow, Z0t, Nat.le_refl, ↓reduceIte, Nat.reduceAdd, Nat.reduceBEq, List.length_cons, List.length_nil, List.replicate_succ, List.replicate_zero, List.nil_append, List.cons_append, List.append_nil, List.map_cons, List.map_nil, List.all_cons, List.all_nil, List.set_cons_zero, List.set_cons_succ, List.getD_cons_zero, List.getD_cons_succ, List.drop_zero, List.drop_succ_cons, List.take_succ_cons, List.take_zero, List.flatten_cons, List.flatten_nil, Bool.and_true, Bool.not_false, true_and, and_true, Option.bind_some, Option.map_some, decide_true, decide_false, and_self, Nat.reduceLT, Nat.reduceLeDiff, List.reverse_cons, List.reverse_nil, Nat.zero_add, Nat.add_zero, Bool.false_eq_true, MemG.av, StepG.av7, F1, G1, F2, G2, G4, F9, G9, Z4q, at_plain, cp0_eff, Z02, Z01, Z4j, cpL_len, Int.reduceEq, decide_true, decide_false, Bool.or_self]
    subst hX
    exact ⟨fun _ => end_err hD (by decide), fun g1 => ⟨fun _ => end_err hD (by decide), fun g2 => ⟨fun g3 => absurd ⟨⟨by omega, by omega⟩, g3⟩ hb, fun _ => end_err hD (by decide)⟩⟩⟩
set_option maxHeartbeats 8000000 in
theorem do_set {T : Tab} {n1 n2 n3 n4 n5 n6 n7 n8 n9 n10 : Nat} (k1 : Knows T n1 sp_act_Right) (k2 : Knows T n2 sp_plain) (k3 : Knows T n3 sp_rat_Right) (k4 : KnowsG T n4 ef_copied0.at) (k5 : Knows T n5 sp_hist_at) (k6 : Knows T n6 sp_rat_Cmp) (k7 : Knows T n7 sp_rat_Least) (k8 : KnowsG T n8 ef_Insert.at) (k9 : Knows T n9 sp_join) (k10 : Knows T n10 (cloneS 2 16))
    (m : MemG) (th o q v : Int) (w : RatG) (hm : m.plain.Wf 1000000) :
    vck T 0 V_hist_Do (L_hist_Do n1 n2 n3 n4 n5 n6 n7 n8 n9 n10) ⟨Z0y 0 [m.av, StepG.av7 ⟨th, ⟨4, o, q, v⟩, w⟩], []⟩ (retK R_hist_Do (SaysK (RetD (.tup [(resM m.plain ⟨th, ⟨4, o, q, v⟩, w⟩).av, .d (.int .i64 (doErr m.plain ⟨th, ⟨4, o, q, v⟩, w⟩))])))) := by
  have F1 := k1.F; have G1 := k1.G; have F2 := k2.F; have G2 := k2.G; have F3 := k3.F; have G3 := k3.G; have G4 := k4.G; have F5 := k5.F; have G5 := k5.G; have F6 := k6.F; have G6 := k6.G; have F7 := k7.F; have G7 := k7.G; have G8 := k8.G; have F9 := k9.F; have G9 := k9.G; have F10 := k10.F; have G10 := k10.G
  generalize hX : SaysK _ = X
  obtain ⟨a1, a2, a3, a4, a5, a6, a7, a8, a9, a10⟩ := m
  obtain ⟨wn, wd⟩ := w
  have hl : a1.length ≤ 16 := hm.locs
  have h1 : a3.length = a1.length := by have := hm.past; simpa [MemG.plain, Z31] using this
  have h2 : a5.length = a1.length := hm.vals
  have h3 : a7.length = a1.length := by have := hm.marks; simpa [MemG.plain, Z31] using this
  have h4 : a9.length ≤ 3 := by have := hm.fronts; simpa [MemG.plain, Z31] using this
  have hcp := cp_ok hm (Nat.le_refl _)
  by_cases hb : (0 ≤ th ∧ th < a9.length) ∧ ActG.right ⟨4, o, q, v⟩ a1 = true
  · obtain ⟨⟨b1, b2⟩, b3⟩ := hb
    obtain ⟨b4, b5⟩ := right_bounds (by decide) b3
    have b6 := right_atom (by decide) b3
    have r7 := rowsL_all (f := RatG.row) (L := a7) (i := o.toNat) (by omega)
    have r8 := rowsL_all (f := RatG.row) (L := a9) (i := th.toNat) (by omega)
    have c1 : (th < 0) = False := by simp; omega
    have c2 : ((a9.length : Int) ≤ th) = False := by simp; omega
    have hfl : ((inn a9).getD th.toNat []).length = a1.length := hm.frontsL _ (inn_get (L := a9) (i := th.toNat) (by omega))
    have hml : ((inn a7).getD o.toNat []).length = a1.length := hm.marksA o.toNat (by show o.toNat < a1.length; omega) b6
    have hjl := joinG_len ((inn a9).getD th.toNat []) ((inn a7).getD o.toNat [])
    have hgood : goodQ (MemG.plain ⟨a1, a2, a3, a4, a5, a6, a7, a8, a9, a10⟩) ⟨th, ⟨4, o, q, v⟩, ⟨wn, wd⟩⟩ = decide (wn = 0 ∧ wd = 0) := by
      have e1 : decide (th < 0) = false := decide_eq_false (by omega)
      have e2 : decide ((a9.length : Int) ≤ th) = false := decide_eq_false (by omega)
      simp [goodQ, MemG.plain, Z31, isPl, b3, e1, e2]
    have hD : doErr (MemG.plain ⟨a1, a2, a3, a4, a5, a6, a7, a8, a9, a10⟩) ⟨th, ⟨4, o, q, v⟩, ⟨wn, wd⟩⟩ = if decide (wn = 0 ∧ wd = 0) = false then 1 else 0 := by
      rw [doErr_at (by show isAt 4 = true; decide), hgood]
      congr 1
    have hM : doMem (MemG.plain ⟨a1, a2, a3, a4, a5, a6, a7, a8, a9, a10⟩) ⟨th, ⟨4, o, q, v⟩, ⟨wn, wd⟩⟩ = ⟨a1, inn a3, a5.set o.toNat v, (inn a7).set o.toNat (joinG ((inn a9).getD th.toNat []) ((inn a7).getD o.toNat [])), (inn a9).set th.toNat (joinG ((inn a9).getD th.toNat []) ((inn a7).getD o.toNat []))⟩ := by
      unfold doMem
      rw [if_neg (by show ¬ (4 : Int) = 2; decide), if_pos (by show isAt 4 = true; decide)]
      show (if (4 : Int) = 3 then _ else _) = _
      rw [if_neg (by decide)]; rfl
    unfold V_hist_Do L_hist_Do R_hist_Do
    simp (maxSteps := 3000000) only [↓Z0g, ↓Z10, ↓Z04, ↓Z0p, ↓Z0f, ↓Z09, ↓Z0a, ↓Z0o, ↓Z1i, ↓Z14, ↓Z0n, ↓Z1p, ↓Z0i, ↓Z0c, ↓Z0z, ↓Z1r, Z2m, Z05, Z0q, Z17, Z12, Z1b, evN, Z19, Z0m, Z1a, Z24, Z0l, Z0e, Z0k, Z1s, Z1q, Z0w, evT, Opd.ev, Z03, Z00, Z18, Z2l, Z1k, Z1h, Z0u, Z0x, Z0y, Z0d, Z1t, LOp.isNew, State.prune, Z1j, Z1d, AV.leaf, Heap.at, Z06, Z02, Z08, Z07, Z01, Z0h, rowI, Z3f, Z3x, List.length_map, List.take_of_length_le, Z2p, Z3a, Z32, evUn, binT, binQ, chk, Z2h, List.contains_cons, List.contains_nil, Bool.or_false, Bool.and_self, resQ, resV, resT, Z4n, Z13, Z1y, fnOf, Z1v, isD, Z3u, evEq, eqV, eqK, eqC1, Z3t, Z3i, Z2z, putRow, Z0t, Z1c, Nat.le_refl, ↓reduceIte, Nat.reduceAdd, Nat.reduceBEq, List.length_cons, List.length_nil, List.replicate_succ, List.replicate_zero, List.nil_append, List.cons_append, List.append_nil, List.map_cons, List.map_nil, List.all_cons, List.all_nil, List.set_cons_zero, List.set_cons_succ, List.getD_cons_zero, List.getD_cons_succ, List.drop_zero, List.drop_succ_cons, List.take_succ_cons, List.take_zero, List.flatten_cons, List.flatten_nil, Bool.true_and, Bool.and_true, Bool.not_true, Bool.not_false, true_and, and_true, or_true, Option.bind_some, Option.map_some, decide_true, decide_false, and_self, Nat.reduceLT, Nat.reduceLeDiff, List.reverse_cons, List.reverse_nil, Nat.zero_add, Nat.add_zero, Bool.false_eq_true, MemG.av, StepG.av7, F1, G1, F2, G2, G4, F9, G9, F10, G10, Z4q, at_plain, cp0_eff, at_join, at_clone, Z02, Z01, Z4j, cpL_len, Int.reduceEq, decide_true, decide_false, Bool.or_false, Bool.or_self, c1, c2, b3, r7, r8]
    subst hX
    have endg : ∀ {P : Prop}, (decide (wn = 0) = true ∧ decide (wd = 0) = true) → ¬ decide (wn = 0 ∧ wd = 0) = false := fun h => by
      simp only [decide_eq_true_eq] at h
      simp [h]
    have endb : (decide (wn = 0) = false ∨ decide (wd = 0) = false) → decide (wn = 0 ∧ wd = 0) = false := fun h => by
      simp only [decide_eq_false_iff_not] at h ⊢
      intro h2; rcases h with h | h
      · exact h h2.1
      · exact h h2.2
    refine ⟨fun g1 => ⟨hcp, ⟨by omega, by omega⟩, by omega, ⟨by omega, by omega⟩, by omega, ⟨by omega, by omega⟩, ⟨by omega, by omega⟩, by omega, Z1e (by omega) (by omega), ⟨by omega, by omega⟩, by omega, ⟨by omega, by omega⟩, by omega, ?_⟩, fun g1 => ?_⟩
    · exact end_ok (ids := [10]) (by rw [hD, if_neg (endg (P := True) g1)]) (by simp only [State.ices, State.ice, HO.data, iceEnv, Z42, HO.ice, AV.ice, AV.iceL, Z33, Z3h, iceRows_set, iceRows_rowsL, iceL_data, Heap.at, List.getD_cons_zero, List.getD_cons_succ, ↓reduceIte, Nat.reduceEqDiff, Option.map_some, Nat.zero_add, Nat.reduceAdd, Nat.reduceBEq, List.drop_zero, Z11, List.take_length, List.length_map, Nat.le_refl, and_self, Bool.not_true]; rfl) (by rw [hM]; exact ⟨rfl, mk_rowsL _, rfl, mk_rowsL_set _ _ _, mk_rowsL_set _ _ _⟩) (by rw [hM]) (by rw [hM]; simp [Z31]) (by rw [hM] <;> simp) (by rw [hM]; simp [Z31]) (by rw [hM]; simp [Z31])
    · exact end_err (by rw [hD, if_pos (endb g1)]) (by decide)
  · have hD : doErr (MemG.plain ⟨a1, a2, a3, a4, a5, a6, a7, a8, a9, a10⟩) ⟨th, ⟨4, o, q, v⟩, ⟨wn, wd⟩⟩ = 1 := by
      unfold doErr
      rw [if_pos]
      unfold goodQ
      have e : ((inn a9).length : Int) = a9.length := by rw [Z31]
      show (!decide (th < 0) && !decide (((inn a9).length : Int) ≤ th) && ActG.right ⟨4, o, q, v⟩ a1 && _ && _) = false
      rw [e]
      by_cases c1 : th < 0
      · simp [c1]
      · by_cases c2 : (a9.length : Int) ≤ th
        · simp [c2]
        · have : ActG.right ⟨4, o, q, v⟩ a1 = false := by
            cases h : ActG.right ⟨4, o, q, v⟩ a1 with
            | false => rfl
            | true => exact absurd ⟨⟨by omega, by omega⟩, h⟩ hb
          simp [this]
    unfold V_hist_Do L_hist_Do R_hist_Do
    simp (maxSteps := 3000000) only [↓Z0g, ↓Z10, ↓Z04, ↓Z0p, ↓Z0f, ↓Z09, ↓Z0a, ↓Z0o, ↓Z1i, ↓Z0n, ↓Z1p, ↓Z0i, ↓Z0c, ↓Z0z, ↓Z0b, ↓Z1r, Z2m, Z05, Z0q, Z17, Z12, Z1b, evN, Z19, Z0m, Z1a, Z24, Z0l, Z0e, Z0k, Z1s, Z1q, Z1o, Z0w, evT, Opd.ev, Z03, Z00, Z18, Z2l, Z1k, Z1h, Z0u, Z0x, Z0y, Z0d, Z1t, LOp.isNew, State.prune, Z1j, Z1d, AV.leaf, Heap.at, Z06, Z02, Z08, Z07, Z01, Z3x, List.length_map, List.take_of_length_le, Z2p, Z3a, Z32, evUn, binT, binQ, chk, Z2h, Bool.and_self, resQ, resV, resT, Z4n, Z13, Z1y, fnOf, Z1v, isD, Z3u, evEq, eqV, eqK, eqC1, Z3t, Z3i, putRow, Z0t, Nat.le_refl, ↓reduceIte, Nat.reduceAdd, Nat.reduceBEq, List.length_cons, List.length_nil, List.replicate_succ, List.replicate_zero, List.nil_append, List.cons_append, List.append_nil, List.map_cons, List.map_nil, List.all_cons, List.all_nil, List.set_cons_zero, List.set_cons_succ, List.getD_cons_zero, List.getD_cons_succ, List.drop_zero, List.drop_succ_cons, List.take_succ_cons, List.take_zero, List.flatten_cons, List.flatten_nil, Bool.and_true, Bool.not_true, Bool.not_false, true_and, Option.bind_some, Option.map_some, decide_true, decide_false, and_self, Nat.reduceLT, Nat.reduceLeDiff, List.reverse_cons, List.reverse_nil, Nat.zero_add, Nat.add_zero, Bool.false_eq_true, MemG.av, StepG.av7, F1, G1, F2, G2, G4, F9, G9, Z4q, at_plain, cp0_eff, Z02, Z01, Z4j, cpL_len, Int.reduceEq, decide_true, decide_false, Bool.or_self]
    subst hX
    exact ⟨fun _ => end_err hD (by decide), fun g1 => ⟨fun _ => end_err hD (by decide), fun g2 => ⟨fun g3 => absurd ⟨⟨by omega, by omega⟩, g3⟩ hb, fun _ => end_err hD (by decide)⟩⟩⟩
set_option maxHeartbeats 8000000 in
theorem do_turn {T : Tab} {n1 n2 n3 n4 n5 n6 n7 n8 n9 n10 : Nat} (k1 : Knows T n1 sp_act_Right) (k2 : Knows T n2 sp_plain) (k3 : Knows T n3 sp_rat_Right) (k4 : KnowsG T n4 ef_copied0.at) (k5 : Knows T n5 sp_hist_at) (k6 : Knows T n6 sp_rat_Cmp) (k7 : Knows T n7 sp_rat_Least) (k8 : KnowsG T n8 ef_Insert.at) (k9 : Knows T n9 sp_join) (k10 : Knows T n10 (cloneS 2 16))
    (m : MemG) (th o q v : Int) (w : RatG) (hm : m.plain.Wf 1000000) :
    vck T 0 V_hist_Do (L_hist_Do n1 n2 n3 n4 n5 n6 n7 n8 n9 n10) ⟨Z0y 0 [m.av, StepG.av7 ⟨th, ⟨5, o, q, v⟩, w⟩], []⟩ (retK R_hist_Do (SaysK (RetD (.tup [(resM m.plain ⟨th, ⟨5, o, q, v⟩, w⟩).av, .d (.int .i64 (doErr m.plain ⟨th, ⟨5, o, q, v⟩, w⟩))])))) := by
  have F1 := k1.F; have G1 := k1.G; have F2 := k2.F; have G2 := k2.G; have F3 := k3.F; have G3 := k3.G; have G4 := k4.G; have F5 := k5.F; have G5 := k5.G; have F6 := k6.F; have G6 := k6.G; have F7 := k7.F; have G7 := k7.G; have G8 := k8.G; have F9 := k9.F; have G9 := k9.G; have F10 := k10.F; have G10 := k10.G
  generalize hX : SaysK _ = X
  obtain ⟨a1, a2, a3, a4, a5, a6, a7, a8, a9, a10⟩ := m
  obtain ⟨wn, wd⟩ := w
  have hl : a1.length ≤ 16 := hm.locs
  have h1 : a3.length = a1.length := by have := hm.past; simpa [MemG.plain, Z31] using this
  have h2 : a5.length = a1.length := hm.vals
  have h3 : a7.length = a1.length := by have := hm.marks; simpa [MemG.plain, Z31] using this
  have h4 : a9.length ≤ 3 := by have := hm.fronts; simpa [MemG.plain, Z31] using this
  have hcp := cp_ok hm (Nat.le_refl _)
  by_cases hb : (0 ≤ th ∧ th < a9.length) ∧ ActG.right ⟨5, o, q, v⟩ a1 = true
  · obtain ⟨⟨b1, b2⟩, b3⟩ := hb
    obtain ⟨b4, b5⟩ := right_bounds (by decide) b3
    have b6 := right_atom (by decide) b3
    have r7 := rowsL_all (f := RatG.row) (L := a7) (i := o.toNat) (by omega)
    have r8 := rowsL_all (f := RatG.row) (L := a9) (i := th.toNat) (by omega)
    have c1 : (th < 0) = False := by simp; omega
    have c2 : ((a9.length : Int) ≤ th) = False := by simp; omega
    have hfl : ((inn a9).getD th.toNat []).length = a1.length := hm.frontsL _ (inn_get (L := a9) (i := th.toNat) (by omega))
    have hml : ((inn a7).getD o.toNat []).length = a1.length := hm.marksA o.toNat (by show o.toNat < a1.length; omega) b6
    have hjl := joinG_len ((inn a9).getD th.toNat []) ((inn a7).getD o.toNat [])
    have hgood : goodQ (MemG.plain ⟨a1, a2, a3, a4, a5, a6, a7, a8, a9, a10⟩) ⟨th, ⟨5, o, q, v⟩, ⟨wn, wd⟩⟩ = decide (wn = 0 ∧ wd = 0) := by
      have e1 : decide (th < 0) = false := decide_eq_false (by omega)
      have e2 : decide ((a9.length : Int) ≤ th) = false := decide_eq_false (by omega)
      simp [goodQ, MemG.plain, Z31, isPl, b3, e1, e2]
    have hD : doErr (MemG.plain ⟨a1, a2, a3, a4, a5, a6, a7, a8, a9, a10⟩) ⟨th, ⟨5, o, q, v⟩, ⟨wn, wd⟩⟩ = if decide (wn = 0 ∧ wd = 0) = false then 1 else if a5.getD o.toNat 0 ≠ q then 3 else 0 := by
      rw [doErr_at (by show isAt 5 = true; decide), hgood]
      have e : ((5 : Int) ≠ 4 ∧ a5.getD o.toNat 0 ≠ q) = (a5.getD o.toNat 0 ≠ q) := by apply propext; exact ⟨fun h => h.2, fun h => ⟨by decide, h⟩⟩
      show (if _ then (1 : Int) else if ((5 : Int) ≠ 4 ∧ a5.getD o.toNat 0 ≠ q) then 3 else 0) = _
      simp only [e]
    have hM : doMem (MemG.plain ⟨a1, a2, a3, a4, a5, a6, a7, a8, a9, a10⟩) ⟨th, ⟨5, o, q, v⟩, ⟨wn, wd⟩⟩ = ⟨a1, inn a3, a5.set o.toNat v, (inn a7).set o.toNat (joinG ((inn a9).getD th.toNat []) ((inn a7).getD o.toNat [])), (inn a9).set th.toNat (joinG ((inn a9).getD th.toNat []) ((inn a7).getD o.toNat []))⟩ := by
      unfold doMem
      rw [if_neg (by show ¬ (5 : Int) = 2; decide), if_pos (by show isAt 5 = true; decide)]
      show (if (5 : Int) = 3 then _ else _) = _
      rw [if_neg (by decide)]; rfl
    unfold V_hist_Do L_hist_Do R_hist_Do
    simp (maxSteps := 3000000) only [↓Z0g, ↓Z10, ↓Z04, ↓Z0p, ↓Z0f, ↓Z09, ↓Z0a, ↓Z0o, ↓Z1i, ↓Z14, ↓Z23, ↓Z0n, ↓Z1p, ↓Z0i, ↓Z0c, ↓Z0z, ↓Z0b, ↓Z1r, Z2m, Z05, Z0q, Z17, Z12, Z1b, evN, Z19, Z0m, Z1a, Z24, Z0l, Z0e, Z0k, Z1s, Z1q, Z0w, evT, Opd.ev, Z03, Z00, Z18, Z2l, Z1k, Z1h, Z0u, Z0x, Z0y, Z0d, Z1t, LOp.isNew, State.prune, Z1j, Z1d, AV.leaf, Heap.at, Z06, Z02, Z0j, Z08, Z07, Z01, Z0h, Z2i, rowI, Z3f, Z3x, List.length_map, List.take_of_length_le, Z2p, Z3a, Z32, evUn, binT, binQ, chk, Z2h, List.contains_cons, List.contains_nil, Bool.or_false, Bool.and_self, resQ, resV, resT, Z4n, Z13, Z1y, fnOf, Z1v, isD, Z3u, evEq, eqV, eqK, eqC1, Z3t, Z3i, Z2z, putRow, Z0t, Z1c, Nat.le_refl, ↓reduceIte, Nat.reduceAdd, Nat.reduceBEq, List.length_cons, List.length_nil, List.replicate_succ, List.replicate_zero, List.nil_append, List.cons_append, List.append_nil, List.map_cons, List.map_nil, List.all_cons, List.all_nil, List.set_cons_zero, List.set_cons_succ, List.getD_cons_zero, List.getD_cons_succ, List.drop_zero, List.drop_succ_cons, List.take_succ_cons, List.take_zero, List.flatten_cons, List.flatten_nil, Bool.true_and, Bool.and_true, Bool.not_true, Bool.not_false, true_and, and_true, or_true, Option.bind_some, Option.map_some, decide_true, decide_false, and_self, Nat.reduceLT, Nat.reduceLeDiff, List.reverse_cons, List.reverse_nil, Nat.zero_add, Nat.add_zero, Bool.false_eq_true, MemG.av, StepG.av7, F1, G1, F2, G2, G4, F9, G9, F10, G10, Z4q, at_plain, cp0_eff, at_join, at_clone, Z02, Z01, Z4j, cpL_len, Int.reduceEq, decide_true, decide_false, Bool.or_false, Bool.or_self, c1, c2, b3, r7, r8]
    subst hX
    have endg : ∀ {P : Prop}, (decide (wn = 0) = true ∧ decide (wd = 0) = true) → ¬ decide (wn = 0 ∧ wd = 0) = false := fun h => by
      simp only [decide_eq_true_eq] at h
      simp [h]
    have endb : (decide (wn = 0) = false ∨ decide (wd = 0) = false) → decide (wn = 0 ∧ wd = 0) = false := fun h => by
      simp only [decide_eq_false_iff_not] at h ⊢
      intro h2; rcases h with h | h
      · exact h h2.1
      · exact h h2.2
    refine ⟨fun g1 => ⟨hcp, ⟨by omega, by omega⟩, by omega, ⟨by omega, by omega⟩, by omega, fun g4 => ⟨⟨by omega, by omega⟩, by omega, ⟨by omega, by omega⟩, ⟨by omega, by omega⟩, by omega, Z1e (by omega) (by omega), ⟨by omega, by omega⟩, by omega, ⟨by omega, by omega⟩, by omega, ?_⟩, fun g4 => ?_⟩, fun g1 => ?_⟩
    · exact end_ok (ids := [10]) (by rw [hD, if_neg (endg (P := True) g1), if_neg (by simpa using g4)]) (by simp only [State.ices, State.ice, HO.data, iceEnv, Z42, HO.ice, AV.ice, AV.iceL, Z33, Z3h, iceRows_set, iceRows_rowsL, iceL_data, Heap.at, List.getD_cons_zero, List.getD_cons_succ, ↓reduceIte, Nat.reduceEqDiff, Option.map_some, Nat.zero_add, Nat.reduceAdd, Nat.reduceBEq, List.drop_zero, Z11, List.take_length, List.length_map, Nat.le_refl, and_self, Bool.not_true]; rfl) (by rw [hM]; exact ⟨rfl, mk_rowsL _, rfl, mk_rowsL_set _ _ _, mk_rowsL_set _ _ _⟩) (by rw [hM]) (by rw [hM]; simp [Z31]) (by rw [hM] <;> simp) (by rw [hM]; simp [Z31]) (by rw [hM]; simp [Z31])
    · exact end_err (by rw [hD, if_neg (endg (P := True) g1), if_pos (by simpa using g4)]) (by decide)
    · exact end_err (by rw [hD, if_pos (endb g1)]) (by decide)
  · have hD : doErr (MemG.plain ⟨a1, a2, a3, a4, a5, a6, a7, a8, a9, a10⟩) ⟨th, ⟨5, o, q, v⟩, ⟨wn, wd⟩⟩ = 1 := by
      unfold doErr
      rw [if_pos]
      unfold goodQ
      have e : ((inn a9).length : Int) = a9.length := by rw [Z31]
      show (!decide (th < 0) && !decide (((inn a9).length : Int) ≤ th) && ActG.right ⟨5, o, q, v⟩ a1 && _ && _) = false
      rw [e]
      by_cases c1 : th < 0
      · simp [c1]
      · by_cases c2 : (a9.length : Int) ≤ th
        · simp [c2]
        · have : ActG.right ⟨5, o, q, v⟩ a1 = false := by
            cases h : ActG.right ⟨5, o, q, v⟩ a1 with
            | false => rfl
            | true => exact absurd ⟨⟨by omega, by omega⟩, h⟩ hb
          simp [this]
    unfold V_hist_Do L_hist_Do R_hist_Do
    simp (maxSteps := 3000000) only [↓Z0g, ↓Z10, ↓Z04, ↓Z0p, ↓Z0f, ↓Z09, ↓Z0a, ↓Z0o, ↓Z1i, ↓Z23, ↓Z0n, ↓Z1p, ↓Z0i, ↓Z0c, ↓Z0z, ↓Z0b, ↓Z1r, Z2m, Z05, Z0q, Z17, Z12, Z1b, evN, Z19, Z0m, Z1a, Z24, Z0l, Z0e, Z0k, Z1s, Z1q, Z1o, Z0w, evT, Opd.ev, Z03, Z00, Z18, Z2l, Z1k, Z1h, Z0u, Z0x, Z0y, Z0d, Z1t, LOp.isNew, State.prune, Z1j, Z1d, AV.leaf, Heap.at, Z06, Z02, Z0j, Z08, Z07, Z01, Z2i, rowI, Z3x, List.length_map, List.take_of_length_le, Z2p, Z3a, Z32, evUn, binT, binQ, chk, Z2h, Bool.and_self, resQ, resV, resT, Z4n, Z13, Z1y, fnOf, Z1v, isD, Z3u, evEq, eqV, eqK, eqC1, Z3t, Z3i, putRow, Z0t, Nat.le_refl, ↓reduceIte, Nat.reduceAdd, Nat.reduceBEq, List.length_cons, List.length_nil, List.replicate_succ, List.replicate_zero, List.nil_append, List.cons_append, List.append_nil, List.map_cons, List.map_nil, List.all_cons, List.all_nil, List.set_cons_zero, List.set_cons_succ, List.getD_cons_zero, List.getD_cons_succ, List.drop_zero, List.drop_succ_cons, List.take_succ_cons, List.take_zero, List.flatten_cons, List.flatten_nil, Bool.and_true, Bool.not_false, true_and, and_true, Option.bind_some, Option.map_some, decide_true, decide_false, and_self, Nat.reduceLT, Nat.reduceLeDiff, List.reverse_cons, List.reverse_nil, Nat.zero_add, Nat.add_zero, Bool.false_eq_true, MemG.av, StepG.av7, F1, G1, F2, G2, G4, F9, G9, Z4q, at_plain, cp0_eff, Z02, Z01, Z4j, cpL_len, Int.reduceEq, decide_true, decide_false, Bool.or_self]
    subst hX
    exact ⟨fun _ => end_err hD (by decide), fun g1 => ⟨fun _ => end_err hD (by decide), fun g2 => ⟨fun g3 => absurd ⟨⟨by omega, by omega⟩, g3⟩ hb, fun _ => end_err hD (by decide)⟩⟩⟩
set_option maxHeartbeats 8000000 in
theorem do_other {T : Tab} {n1 n2 n3 n4 n5 n6 n7 n8 n9 n10 : Nat} (k1 : Knows T n1 sp_act_Right) (k2 : Knows T n2 sp_plain) (k3 : Knows T n3 sp_rat_Right) (k4 : KnowsG T n4 ef_copied0.at) (k5 : Knows T n5 sp_hist_at) (k6 : Knows T n6 sp_rat_Cmp) (k7 : Knows T n7 sp_rat_Least) (k8 : KnowsG T n8 ef_Insert.at) (k9 : Knows T n9 sp_join) (k10 : Knows T n10 (cloneS 2 16))
    (m : MemG) (th o q v : Int) (w : RatG) (hm : m.plain.Wf 1000000) {k : Int} (hk : k ≠ 1 ∧ k ≠ 2 ∧ k ≠ 3 ∧ k ≠ 4 ∧ k ≠ 5) :
    vck T 0 V_hist_Do (L_hist_Do n1 n2 n3 n4 n5 n6 n7 n8 n9 n10) ⟨Z0y 0 [m.av, StepG.av7 ⟨th, ⟨k, o, q, v⟩, w⟩], []⟩ (retK R_hist_Do (SaysK (RetD (.tup [(resM m.plain ⟨th, ⟨k, o, q, v⟩, w⟩).av, .d (.int .i64 (doErr m.plain ⟨th, ⟨k, o, q, v⟩, w⟩))])))) := by
  have F1 := k1.F; have G1 := k1.G; have F2 := k2.F; have G2 := k2.G; have F3 := k3.F; have G3 := k3.G; have G4 := k4.G; have F5 := k5.F; have G5 := k5.G; have F6 := k6.F; have G6 := k6.G; have F7 := k7.F; have G7 := k7.G; have G8 := k8.G; have F9 := k9.F; have G9 := k9.G; have F10 := k10.F; have G10 := k10.G
  generalize hX : SaysK _ = X
  obtain ⟨a1, a2, a3, a4, a5, a6, a7, a8, a9, a10⟩ := m
  obtain ⟨wn, wd⟩ := w
  have hl : a1.length ≤ 16 := hm.locs
  have h1 : a3.length = a1.length := by have := hm.past; simpa [MemG.plain, Z31] using this
  have h2 : a5.length = a1.length := hm.vals
  have h3 : a7.length = a1.length := by have := hm.marks; simpa [MemG.plain, Z31] using this
  have h4 : a9.length ≤ 3 := by have := hm.fronts; simpa [MemG.plain, Z31] using this
  have hcp := cp_ok hm (Nat.le_refl _)
  obtain ⟨q1, q2, q3, q4, q5⟩ := hk
  have kk1 : (k = 1) = False := by simp [q1]
  have kk2 : (k = 2) = False := by simp [q2]
  have kk3 : (k = 3) = False := by simp [q3]
  have kk4 : (k = 4) = False := by simp [q4]
  have kk5 : (k = 5) = False := by simp [q5]
  have kpl : (decide (k = 1) || decide (k = 2)) = false := by simp [q1, q2]
  by_cases hb : (0 ≤ th ∧ th < a9.length) ∧ ActG.right ⟨k, o, q, v⟩ a1 = true
  · obtain ⟨⟨b1, b2⟩, b3⟩ := hb
    have r8 := rowsL_all (f := RatG.row) (L := a9) (i := th.toNat) (by omega)
    have c1 : (th < 0) = False := by simp; omega
    have c2 : ((a9.length : Int) ≤ th) = False := by simp; omega
    have hgood : goodQ (MemG.plain ⟨a1, a2, a3, a4, a5, a6, a7, a8, a9, a10⟩) ⟨th, ⟨k, o, q, v⟩, ⟨wn, wd⟩⟩ = decide (wn = 0 ∧ wd = 0) := by
      have e1 : decide (th < 0) = false := decide_eq_false (by omega)
      have e2 : decide ((a9.length : Int) ≤ th) = false := decide_eq_false (by omega)
      simp [goodQ, MemG.plain, Z31, isPl, b3, e1, e2, q1, q2]
    have hD : doErr (MemG.plain ⟨a1, a2, a3, a4, a5, a6, a7, a8, a9, a10⟩) ⟨th, ⟨k, o, q, v⟩, ⟨wn, wd⟩⟩ = if decide (wn = 0 ∧ wd = 0) = false then 1 else 0 := by
      unfold doErr
      rw [hgood]
      simp [isAt, q1, q2, q3, q4, q5]
    have hM : doMem (MemG.plain ⟨a1, a2, a3, a4, a5, a6, a7, a8, a9, a10⟩) ⟨th, ⟨k, o, q, v⟩, ⟨wn, wd⟩⟩ = (MemG.plain ⟨a1, a2, a3, a4, a5, a6, a7, a8, a9, a10⟩) := by
      simp [doMem, isAt, q2, q3, q4, q5]
    unfold V_hist_Do L_hist_Do R_hist_Do
    simp (maxSteps := 3000000) only [↓Z0g, ↓Z10, ↓Z04, ↓Z0p, ↓Z0f, ↓Z09, ↓Z0a, ↓Z0o, ↓Z1i, ↓Z14, ↓Z0n, ↓Z1p, ↓Z0i, ↓Z0c, ↓Z0z, ↓Z1r, Z2m, Z05, Z17, Z12, Z1b, evN, Z19, Z0m, Z1a, Z0l, Z0e, Z0k, Z1s, Z1q, Z0w, evT, Opd.ev, Z03, Z00, Z18, Z2l, Z1k, Z1h, Z0u, Z0x, Z0y, Z0d, Z1t, LOp.isNew, State.prune, Z1j, Z1d, AV.leaf, Heap.at, Z06, Z02, Z08, Z07, Z01, Z3x, List.length_map, List.take_of_length_le, Z2p, Z3a, Z32, evUn, binT, binQ, Bool.and_self, resQ, resV, resT, Z4n, Z13, Z1y, fnOf, Z1v, isD, Z3u, evEq, eqV, eqK, eqC1, Z3t, Z3i, putRow, Z0t, Nat.le_refl, ↓reduceIte, Nat.reduceAdd, Nat.reduceBEq, List.length_cons, List.length_nil, List.replicate_succ, List.replicate_zero, List.nil_append, List.cons_append, List.append_nil, List.map_cons, List.map_nil, List.all_cons, List.all_nil, List.set_cons_zero, List.set_cons_succ, List.getD_cons_zero, List.getD_cons_succ, List.drop_zero, List.drop_succ_cons, List.take_succ_cons, List.take_zero, List.flatten_cons, List.flatten_nil, Bool.and_true, Bool.not_true, Bool.not_false, true_and, and_true, Option.bind_some, Option.map_some, decide_false, and_self, Nat.reduceLT, Nat.reduceLeDiff, Nat.zero_add, Nat.add_zero, Bool.false_eq_true, MemG.av, StepG.av7, F1, G1, F2, G2, G4, Z4q, at_plain, cp0_eff, Z02, Z01, Z4j, cpL_len, decide_false, Bool.or_self, c1, c2, b3, r8, kk1, kk2, kk3, kk4, kk5]
    subst hX
    have endg : ∀ {P : Prop}, (decide (wn = 0) = true ∧ decide (wd = 0) = true) → ¬ decide (wn = 0 ∧ wd = 0) = false := fun h => by
      simp only [decide_eq_true_eq] at h
      simp [h]
    have endb : (decide (wn = 0) = false ∨ decide (wd = 0) = false) → decide (wn = 0 ∧ wd = 0) = false := fun h => by
      simp only [decide_eq_false_iff_not] at h ⊢
      intro h2; rcases h with h | h
      · exact h h2.1
      · exact h h2.2
    refine ⟨fun g1 => ⟨hcp, ⟨by omega, by omega⟩, by omega, ?_⟩, fun g1 => ?_⟩
    · exact end_ok (ids := [3]) (by rw [hD, if_neg (endg (P := True) g1)]) (by simp only [State.ices, State.ice, HO.data, iceEnv, Z42, HO.ice, AV.ice, AV.iceL, Z33, Z3h, iceRows_set, iceRows_rowsL, iceL_data, Heap.at, List.getD_cons_zero, List.getD_cons_succ, ↓reduceIte, Nat.reduceEqDiff, Option.map_some, Nat.zero_add, Nat.reduceAdd, Nat.reduceBEq, List.drop_zero, Z11, List.take_length, List.length_map, Nat.le_refl, and_self, Bool.not_true]; rfl) (by rw [hM]; exact ⟨rfl, mk_rowsL _, rfl, mk_rowsL _, mk_rowsL _⟩) (by rw [hM]; rfl) (by rw [hM]; simp [MemG.plain, Z31]) (by rw [hM]; rfl) (by rw [hM]; simp [MemG.plain, Z31]) (by rw [hM]; simp [MemG.plain, Z31])
    · exact end_err (by rw [hD, if_pos (endb g1)]) (by decide)
  · have hD : doErr (MemG.plain ⟨a1, a2, a3, a4, a5, a6, a7, a8, a9, a10⟩) ⟨th, ⟨k, o, q, v⟩, ⟨wn, wd⟩⟩ = 1 := by
      unfold doErr
      rw [if_pos]
      unfold goodQ
      have e : ((inn a9).length : Int) = a9.length := by rw [Z31]
      show (!decide (th < 0) && !decide (((inn a9).length : Int) ≤ th) && ActG.right ⟨k, o, q, v⟩ a1 && _ && _) = false
      rw [e]
      by_cases c1 : th < 0
      · simp [c1]
      · by_cases c2 : (a9.length : Int) ≤ th
        · simp [c2]
        · have : ActG.right ⟨k, o, q, v⟩ a1 = false := by
            cases h : ActG.right ⟨k, o, q, v⟩ a1 with
            | false => rfl
            | true => exact absurd ⟨⟨by omega, by omega⟩, h⟩ hb
          simp [this]
    unfold V_hist_Do L_hist_Do R_hist_Do
    simp (maxSteps := 3000000) only [↓Z0g, ↓Z10, ↓Z04, ↓Z0p, ↓Z0f, ↓Z09, ↓Z0a, ↓Z0o, ↓Z1i, ↓Z14, ↓Z0n, ↓Z1p, ↓Z0i, ↓Z0c, ↓Z0z, ↓Z0b, ↓Z1r, Z2m, Z05, Z17, Z12, Z1b, evN, Z19, Z0m, Z1a, Z0l, Z0e, Z0k, Z1s, Z1q, Z1o, Z0w, evT, Opd.ev, Z03, Z00, Z18, Z2l, Z1k, Z1h, Z0u, Z0x, Z0y, Z0d, Z1t, LOp.isNew, State.prune, Z1j, Z1d, AV.leaf, Heap.at, Z06, Z02, Z08, Z07, Z01, Z3x, List.length_map, List.take_of_length_le, Z2p, Z3a, Z32, evUn, binT, binQ, Bool.and_self, resQ, resV, resT, Z4n, Z13, Z1y, fnOf, Z1v, isD, Z3u, evEq, eqV, eqK, eqC1, Z3t, Z3i, putRow, Z0t, Nat.le_refl, ↓reduceIte, Nat.reduceAdd, Nat.reduceBEq, List.length_cons, List.length_nil, List.replicate_succ, List.replicate_zero, List.nil_append, List.cons_append, List.append_nil, List.map_cons, List.map_nil, List.all_cons, List.all_nil, List.set_cons_zero, List.set_cons_succ, List.getD_cons_zero, List.getD_cons_succ, List.drop_zero, List.drop_succ_cons, List.take_succ_cons, List.take_zero, List.flatten_cons, List.flatten_nil, Bool.and_true, Bool.not_false, true_and, Option.bind_some, Option.map_some, decide_false, and_self, Nat.reduceLT, Nat.reduceLeDiff, Nat.zero_add, Nat.add_zero, Bool.false_eq_true, MemG.av, StepG.av7, F1, G1, F2, G2, G4, Z4q, at_plain, cp0_eff, Z02, Z01, Z4j, cpL_len, decide_false, Bool.or_self, kk1, kk2, kk3, kk4, kk5]
    subst hX
    exact ⟨fun _ => end_err hD (by decide), fun g1 => ⟨fun _ => end_err hD (by decide), fun g2 => ⟨fun g3 => absurd ⟨⟨by omega, by omega⟩, g3⟩ hb, fun _ => end_err hD (by decide)⟩⟩⟩
end Go.Ago

/- hist.Do: writes. Conditions: none. -/
set_option maxRecDepth 100000
set_option linter.unusedSimpArgs false
set_option linter.unusedVariables false
namespace Go.Ago
theorem ice_vec {id sz0 sz : Nat} {rows : List (List DV)} {l : List (List AV)} : (HO.vec sz l).ice id sz0 rows = Z4f sz (iceRows id sz0 rows l) := rfl
theorem ice_dvec {id sz0 sz : Nat} {rows l : List (List DV)} : (HO.dvec sz l).ice id sz0 rows = .dvec sz l := rfl
theorem ice_dead {id sz0 : Nat} {rows : List (List DV)} : HO.dead.ice id sz0 rows = .dead := rfl
theorem ice_mkVec {id sz0 sz : Nat} {rows : List (List DV)} {l : List (List AV)} : (Z4f sz l).ice id sz0 rows = Z4f sz (iceRows id sz0 rows l) := by
  cases h : drows l with
  | none =>
    have : Z4f sz l = .vec sz l := by unfold Z4f; rw [h]
    rw [this]; rfl
  | some ds =>
    have e := drows_map _ _ h
    rw [mkVec_some h, e, iceRows_d, mkVec_some (drows_d ds)]; rfl
theorem bsGo_le (p : Nat → Bool) : ∀ (f i j : Nat), i ≤ j → bsGo p f i j ≤ j := by
  intro f
  induction f with
  | zero => intro i j h; exact h
  | succ f ih =>
    intro i j h
    simp only [bsGo]
    split
    · split
      · exact ih _ _ (by omega)
      · exact Nat.le_trans (ih _ _ (by omega)) (by omega)
    · exact h
theorem bsAt_le (l : List StampG) (w : RatG) : bsAt l w ≤ l.length := bsGo_le _ _ _ _ (Nat.zero_le _)
theorem cp_okH {m : MemG} {h : Hole} (hc : CpOk0 m) (hp : h.p < m.past.length) (hf : h.f < m.fronts.length) : CpOk h m := ⟨hc.locs, hc.vals, hc.past, hc.marks, hc.fronts, hc.pasts, hc.markss, hc.frontss, hp, hf⟩
set_option maxHeartbeats 8000000 in
theorem do_write {T : Tab} {n1 n2 n3 n4 n5 n6 n7 n8 n9 n10 : Nat} {hole : Hole} (k1 : Knows T n1 sp_act_Right) (k2 : Knows T n2 sp_plain) (k3 : Knows T n3 sp_rat_Right) (k4 : KnowsG T n4 (ef_copied hole).at) (k5 : Knows T n5 sp_hist_at) (k6 : Knows T n6 sp_rat_Cmp) (k7 : Knows T n7 sp_rat_Least) (k8 : KnowsG T n8 ef_Insert.at) (k9 : Knows T n9 sp_join) (k10 : Knows T n10 (cloneS 2 16))
    (m : MemG) (th o q v : Int) (w : RatG) (hm : m.plain.Wf 1000000) (hhole : hole = ⟨o.toNat, th.toNat⟩) :
    vck T 0 V_hist_Do (L_hist_Do n1 n2 n3 n4 n5 n6 n7 n8 n9 n10) ⟨Z0y 0 [m.av, StepG.av7 ⟨th, ⟨2, o, q, v⟩, w⟩], []⟩ (retK R_hist_Do (SaysK (RetD (.tup [(resM m.plain ⟨th, ⟨2, o, q, v⟩, w⟩).av, .d (.int .i64 (doErr m.plain ⟨th, ⟨2, o, q, v⟩, w⟩))])))) := by
  have F1 := k1.F; have G1 := k1.G; have F2 := k2.F; have G2 := k2.G; have F3 := k3.F; have G3 := k3.G; have G4 := k4.G; have F5 := k5.F; have G5 := k5.G; have F6 := k6.F; have G6 := k6.G; have F7 := k7.F; have G7 := k7.G; have G8 := k8.G; have F9 := k9.F; have G9 := k9.G; have F10 := k10.F; have G10 := k10.G
  subst hhole
  generalize hX : SaysK _ = X
  obtain ⟨a1, a2, a3, a4, a5, a6, a7, a8, a9, a10⟩ := m
  obtain ⟨wn, wd⟩ := w
  have hl : a1.length ≤ 16 := hm.locs
  have h1 : a3.length = a1.length := by have := hm.past; simpa [MemG.plain, Z31] using this
  have h2 : a5.length = a1.length := hm.vals
  have h3 : a7.length = a1.length := by have := hm.marks; simpa [MemG.plain, Z31] using this
  have h4 : a9.length ≤ 3 := by have := hm.fronts; simpa [MemG.plain, Z31] using this
  have hcp := cp_ok hm (Nat.le_refl _)
  by_cases hb : (0 ≤ th ∧ th < a9.length) ∧ ActG.right ⟨2, o, q, v⟩ a1 = true
  · obtain ⟨⟨b1, b2⟩, b3⟩ := hb
    obtain ⟨b4, b5⟩ := right_bounds (by decide) b3
    have r6 : ∀ x, ((Z46 StampG.row (cpL a3 a3.length)).set o.toNat x).getD o.toNat [] = x := fun x => by
      rw [List.getD_eq_getElem?_getD, List.getElem?_set_self (by rw [Z4j, cpL_len]; omega)]; rfl
    have r8 : ∀ x, ((Z46 RatG.row (cpL a9 a9.length)).set th.toNat x).getD th.toNat [] = x := fun x => by
      rw [List.getD_eq_getElem?_getD, List.getElem?_set_self (by rw [Z4j, cpL_len]; omega)]; rfl
    have c1 : (th < 0) = False := by simp; omega
    have c2 : ((a9.length : Int) ≤ th) = False := by simp; omega
    unfold V_hist_Do L_hist_Do R_hist_Do
    simp (maxSteps := 3000000) only [↓Z0g, ↓Z10, ↓Z04, ↓Z0p, ↓Z0f, ↓Z09, ↓Z0a, ↓Z0o, ↓Z1i, ↓Z14, ↓Z23, ↓Z0n, ↓Z1p, ↓Z0i, ↓Z0c, ↓Z0z, ↓Z0b, Z2m, Z05, Z0q, Z17, Z12, Z1b, evN, Z19, Z0m, Z1a, Z24, Z0l, Z0e, Z0k, Z1s, Z1q, Z1o, Z0w, evT, Opd.ev, Z03, Z00, Z18, Z2l, Z1k, Z1h, Z0u, Z0x, Z0y, Z0d, Z1t, LOp.isNew, State.prune, Z1j, Z1d, AV.leaf, Heap.at, Z06, Z02, Z0j, Z08, Z07, Z01, RatG.row, Z1z, List.length_set, Z3x, Z4f, drows, List.length_map, List.take_of_length_le, Z2p, Z3a, Z32, evUn, binT, binQ, chk, Z2h, List.contains_cons, List.contains_nil, Bool.or_false, Bool.false_or, Bool.and_self, resQ, resV, resT, Z4n, Z13, evTake, Z1y, fnOf, Z1v, isD, Z3u, Z3t, Z3i, Z37, Z34, putRow, Z39, Z0t, Nat.le_refl, ↓reduceIte, Nat.reduceAdd, Nat.reduceBEq, List.length_cons, List.length_nil, List.replicate_succ, List.replicate_zero, List.nil_append, List.cons_append, List.append_nil, List.map_cons, List.map_nil, List.all_cons, List.all_nil, List.set_cons_zero, List.set_cons_succ, List.getD_cons_zero, List.getD_cons_succ, List.drop_zero, List.drop_succ_cons, List.take_succ_cons, List.take_zero, List.flatten_cons, List.flatten_nil, Bool.true_and, Bool.not_true, Bool.not_false, true_and, and_true, Option.bind_some, Option.map_some, decide_true, decide_false, and_self, Nat.reduceLT, Nat.reduceLeDiff, List.reverse_cons, List.reverse_nil, Nat.zero_add, Nat.add_zero, Bool.false_eq_true, MemG.av, StepG.av7, F1, G1, F2, G2, F3, G3, G4, F5, G5, F6, G6, F7, G7, G8, Z4q, at_plain, at_rat_Right, cp_eff, at_InsertE, insE_d, store_rowRat, inn_at, List.set_set, at_hist_at, at_rat_Cmp, at_rat_Least, Z02, Z01, Z4j, cpL_len, List.length_set, Int.reduceEq, decide_true, decide_false, Bool.or_false, c1, c2, b3, r6, r8]
    have hpl : ((inn a3).getD o.toNat []).length ≤ 1000000 := hm.pasts _ (inn_get (L := a3) (i := o.toNat) (by omega))
    have hfl : ((inn a9).getD th.toNat []).length = a1.length := hm.frontsL _ (inn_get (L := a9) (i := th.toNat) (by omega))
    have hgood : goodQ (MemG.plain ⟨a1, a2, a3, a4, a5, a6, a7, a8, a9, a10⟩) ⟨th, ⟨2, o, q, v⟩, ⟨wn, wd⟩⟩ = Z47 wn wd := by
      have e1 : decide (th < 0) = false := decide_eq_false (by omega)
      have e2 : decide ((a9.length : Int) ≤ th) = false := decide_eq_false (by omega)
      simp [goodQ, MemG.plain, Z31, isPl, Z4l, b3, e1, e2]
    have hD : doErr (MemG.plain ⟨a1, a2, a3, a4, a5, a6, a7, a8, a9, a10⟩) ⟨th, ⟨2, o, q, v⟩, ⟨wn, wd⟩⟩ = if Z47 wn wd = false then 1 else (if bsHas ((inn a3).getD o.toNat []) ⟨wn, wd⟩ = true then 5 else if rat_cmp wn wd (((inn a9).getD th.toNat []).getD o.toNat default).num (((inn a9).getD th.toNat []).getD o.toNat default).den ≤ 0 then 6 else 0) := by
      unfold doErr
      rw [hgood]
      by_cases g : Z47 wn wd = false
      · rw [if_pos g, if_pos g]
      · rw [if_neg g, if_neg g, if_neg (by show ¬ (2 : Int) = 1; decide), if_pos (by show (2 : Int) = 2; rfl)]; rfl
    have hM : doMem (MemG.plain ⟨a1, a2, a3, a4, a5, a6, a7, a8, a9, a10⟩) ⟨th, ⟨2, o, q, v⟩, ⟨wn, wd⟩⟩ = ⟨a1, (inn a3).set o.toNat (insG ((inn a3).getD o.toNat []) (bsAt ((inn a3).getD o.toNat []) ⟨wn, wd⟩) ⟨⟨(Z41 wn wd).1, (Z41 wn wd).2⟩, v⟩), a5, inn a7, (inn a9).set th.toNat (((inn a9).getD th.toNat []).set o.toNat ⟨(Z41 wn wd).1, (Z41 wn wd).2⟩)⟩ := by
      unfold doMem
      rw [if_pos (by show (2 : Int) = 2; rfl)]; rfl
    have hft : List.take ((inn a9).getD th.toNat []).length (((inn a9).getD th.toNat []).set o.toNat ⟨(Z41 wn wd).1, (Z41 wn wd).2⟩) = ((inn a9).getD th.toNat []).set o.toNat ⟨(Z41 wn wd).1, (Z41 wn wd).2⟩ := List.take_of_length_le (by simp)
    have hcp' : CpOk ⟨o.toNat, th.toNat⟩ ⟨a1, a2, a3, a4, a5, a6, a7, a8, a9, a10⟩ := cp_okH hcp (by show o.toNat < a3.length; omega) (by show th.toNat < a9.length; omega)
    have hbl := bsAt_le ((inn a3).getD o.toNat []) ⟨wn, wd⟩
    subst hX
    refine ⟨fun g1 => ⟨hcp', ⟨by omega, by omega⟩, by omega, ⟨by omega, by omega⟩, by omega, by omega, fun g2 => ?_, fun g2 => ⟨⟨by omega, by omega⟩, by omega, fun g3 => ?_, fun g3 => ⟨⟨by omega, by omega⟩, by omega, ⟨hbl, Z1e (by omega) (by omega)⟩, ⟨by omega, by omega⟩, by omega, ⟨by omega, by omega⟩, by omega, ?_⟩⟩⟩, fun g1 => ?_⟩
    · exact end_err (by rw [hD, g1, if_neg (by simp), if_pos g2]) (by decide)
    · exact end_err (by rw [hD, g1, if_neg (by simp), g2, if_neg (by simp), if_pos g3]) (by decide)
    · exact end_ok (ids := [10, 13]) (by rw [hD, g1, if_neg (by simp), g2, if_neg (by simp), if_neg g3]) (by simp only [State.ices, State.ice, HO.data, iceEnv, Z42, ice_vec, ice_dvec, ice_dead, ice_mkVec, AV.ice, AV.iceL, Z33, Z3h, iceRows_set, iceRows_rowsL, iceL_data, Heap.at, List.getD_cons_zero, List.getD_cons_succ, ↓reduceIte, Nat.reduceEqDiff, Option.map_some, Nat.zero_add, Nat.reduceAdd, Nat.reduceBEq, List.drop_zero, Z11, List.take_length, List.length_map, List.length_set, Nat.le_refl, and_self, Bool.not_true, hft]; rfl) (by rw [hM]; exact ⟨rfl, mk_rowsL_set _ _ _, rfl, mk_rowsL _, mk_rowsL_set _ _ _⟩) (by rw [hM]) (by rw [hM]; simp [Z31]) (by rw [hM]) (by rw [hM]; simp [Z31]) (by rw [hM]; simp [Z31])
    · exact end_err (by rw [hD, g1, if_pos rfl]) (by decide)
  · have hD : doErr (MemG.plain ⟨a1, a2, a3, a4, a5, a6, a7, a8, a9, a10⟩) ⟨th, ⟨2, o, q, v⟩, ⟨wn, wd⟩⟩ = 1 := by
      unfold doErr
      rw [if_pos]
      unfold goodQ
      have e : ((inn a9).length : Int) = a9.length := by rw [Z31]
      show (!decide (th < 0) && !decide (((inn a9).length : Int) ≤ th) && ActG.right ⟨2, o, q, v⟩ a1 && _ && _) = false
      rw [e]
      by_cases c1 : th < 0
      · simp [c1]
      · by_cases c2 : (a9.length : Int) ≤ th
        · simp [c2]
        · have : ActG.right ⟨2, o, q, v⟩ a1 = false := by
            cases h : ActG.right ⟨2, o, q, v⟩ a1 with
            | false => rfl
            | true => exact absurd ⟨⟨by omega, by omega⟩, h⟩ hb
          simp [this]
    unfold V_hist_Do L_hist_Do R_hist_Do
    simp (maxSteps := 3000000) only [↓Z0g, ↓Z10, ↓Z04, ↓Z0p, ↓Z0f, ↓Z09, ↓Z0a, ↓Z0o, ↓Z1i, ↓Z0n, ↓Z1p, ↓Z0i, ↓Z0c, ↓Z0z, ↓Z0b, Z2m, Z05, Z17, Z12, Z1b, evN, Z19, Z0m, Z1a, Z24, Z0l, Z0e, Z0k, Z1s, Z1q, Z1o, Z0w, evT, Opd.ev, Z03, Z00, Z18, Z2l, Z1k, Z1h, Z0u, Z0x, Z0y, Z0d, Z1t, LOp.isNew, State.prune, Z1j, Z1d, AV.leaf, Heap.at, Z06, Z02, Z08, Z07, Z01, List.length_set, Z3x, List.length_map, List.take_of_length_le, Z2p, Z3a, Z32, evUn, binT, binQ, Bool.false_or, Bool.and_self, resQ, resV, resT, Z4n, Z13, Z1y, fnOf, Z1v, isD, Z3u, Z3t, Z3i, putRow, Z0t, Nat.le_refl, ↓reduceIte, Nat.reduceAdd, Nat.reduceBEq, List.length_cons, List.length_nil, List.replicate_succ, List.replicate_zero, List.nil_append, List.cons_append, List.append_nil, List.map_cons, List.map_nil, List.all_cons, List.all_nil, List.set_cons_zero, List.set_cons_succ, List.getD_cons_zero, List.getD_cons_succ, List.drop_zero, List.drop_succ_cons, List.take_succ_cons, List.take_zero, List.flatten_cons, List.flatten_nil, Bool.not_true, true_and, decide_true, decide_false, and_self, Nat.reduceLT, Nat.reduceLeDiff, Nat.zero_add, Nat.add_zero, Bool.false_eq_true, MemG.av, StepG.av7, F1, G1, F2, G2, F3, G3, G4, F5, G5, Z4q, at_plain, at_rat_Right, cp_eff, inn_at, Z02, Z01, Z4j, cpL_len, List.length_set, Int.reduceEq, decide_true, decide_false]
    subst hX
    exact ⟨fun _ => end_err hD (by decide), fun g1 => ⟨fun _ => end_err hD (by decide), fun g2 => ⟨fun g3 => absurd ⟨⟨by omega, by omega⟩, g3⟩ hb, fun _ => end_err hD (by decide)⟩⟩⟩
end Go.Ago

/- hist.Do: its contract. Conditions: none. -/
set_option maxRecDepth 100000
set_option linter.unusedSimpArgs false
set_option linter.unusedVariables false
namespace Go.Ago
def NeN (a b : Nat) : Prop := (a == b) = false
theorem KnowsG.nextG {T : Tab} {g g' : FuncId} {e e' : List AV → Heap → Option Eff} (hn : (g == g') = false) (h : KnowsG T g e) : KnowsG (T.addG g' e') g e :=
  ⟨by have : ¬ g = g' := by simpa using hn
      simp [Tab.addG, this, h.G]⟩
theorem KnowsG.hit {T : Tab} {g : FuncId} {e : List AV → Heap → Option Eff} : KnowsG (T.addG g e) g e := ⟨by simp [Tab.addG]⟩
theorem at_Do (a1 : List LocG) (a2 : Bool) (a3 : List StampsF) (a4 : Bool) (a5 : List Int) (a6 : Bool) (a7 : List RatsF) (a8 : Bool) (a9 : List RatsF) (a10 : Bool) (t k o q v n d : Int) :
    sp_Do.at [.agg [.d (.list (a1.map LocG.row) a2), .d (.list (a3.map rowStamps) a4), .d (.list (a5.map rowI) a6), .d (.list (a7.map rowRats) a8), .d (.list (a9.map rowRats) a10)], .agg [.d (.int .i64 t), .d (.int .i64 k), .d (.int .i64 o), .d (.int .i64 q), .d (.int .i64 v), .d (.int .i64 n), .d (.int .i64 d)]] =
      .data ((MemG.plain ⟨a1, a2, a3, a4, a5, a6, a7, a8, a9, a10⟩).Wf 1000000) (.tup [(resM (MemG.plain ⟨a1, a2, a3, a4, a5, a6, a7, a8, a9, a10⟩) ⟨t, ⟨k, o, q, v⟩, ⟨n, d⟩⟩).av, .d (.int .i64 (doErr (MemG.plain ⟨a1, a2, a3, a4, a5, a6, a7, a8, a9, a10⟩) ⟨t, ⟨k, o, q, v⟩, ⟨n, d⟩⟩))]) false :=
  Sp.at_enc (s := sp_Do) (fun x y h => by
    obtain ⟨m, ⟨t, ⟨k, o, q, v⟩, n, d⟩⟩ := x; obtain ⟨m', ⟨t', ⟨k', o', q', v'⟩, n', d'⟩⟩ := y
    simp only [sp_Do, StepG.av7, List.cons.injEq, AV.agg.injEq, AV.d.injEq, DV.int.injEq, and_true, true_and] at h
    obtain ⟨h1, h2, h3, h4, h5, h6, h7, h8⟩ := h
    rw [MemG.av_inj _ _ h1, h2, h3, h4, h5, h6, h7, h8]) (⟨a1, a2, a3, a4, a5, a6, a7, a8, a9, a10⟩, ⟨t, ⟨k, o, q, v⟩, ⟨n, d⟩⟩)
theorem Do_ok {P : Program} {T : Tab} {n1 n2 n3 n4 n5 n6 n7 n8 n9 n10 : Nat} (hH : ∀ h, TabOK P (T.addG n4 (ef_copied h).at)) (h0 : TabOK P (T.addG n4 ef_copied0.at)) (k1 : Knows T n1 sp_act_Right) (k2 : Knows T n2 sp_plain) (k3 : Knows T n3 sp_rat_Right) (k5 : Knows T n5 sp_hist_at) (k6 : Knows T n6 sp_rat_Cmp) (k7 : Knows T n7 sp_rat_Least) (k8 : KnowsG T n8 ef_Insert.at) (k9 : Knows T n9 sp_join) (k10 : Knows T n10 (cloneS 2 16))
    (e1 : NeN n1 n4) (e2 : NeN n2 n4) (e3 : NeN n3 n4) (e5 : NeN n5 n4) (e6 : NeN n6 n4) (e7 : NeN n7 n4) (e8 : NeN n8 n4) (e9 : NeN n9 n4) (e10 : NeN n10 n4)
    {f : FuncId} {fn : Func} {c : Code} (hf : P.funcs[f]? = some fn) (hname : (fn.name == "runtime.NumGoroutine") = false) (hb : fn.body = some c) (hl : lowCode P fn.ntmps c = some (L_hist_Do n1 n2 n3 n4 n5 n6 n7 n8 n9 n10)) (hr : lowRess P fn.results.toList = some R_hist_Do)
    (ha : 2 ≤ fn.ntmps) : sp_Do.Ok P f := by
  rintro ⟨m, ⟨th, ⟨k, o, q, v⟩, w⟩⟩ hok
  have hok : m.plain.Wf 1000000 := hok
  have fin : ∀ {e : List AV → Heap → Option Eff}, TabOK P (T.addG n4 e) →
      (Knows (T.addG n4 e) n1 sp_act_Right → Knows (T.addG n4 e) n2 sp_plain → Knows (T.addG n4 e) n3 sp_rat_Right → KnowsG (T.addG n4 e) n4 e → Knows (T.addG n4 e) n5 sp_hist_at → Knows (T.addG n4 e) n6 sp_rat_Cmp → Knows (T.addG n4 e) n7 sp_rat_Least → KnowsG (T.addG n4 e) n8 ef_Insert.at → Knows (T.addG n4 e) n9 sp_join → Knows (T.addG n4 e) n10 (cloneS 2 16) →
        vck (T.addG n4 e) 0 V_hist_Do (L_hist_Do n1 n2 n3 n4 n5 n6 n7 n8 n9 n10) ⟨Z0y 0 [m.av, StepG.av7 ⟨th, ⟨k, o, q, v⟩, w⟩], []⟩ (retK R_hist_Do (SaysK (RetD (.tup [(resM m.plain ⟨th, ⟨k, o, q, v⟩, w⟩).av, .d (.int .i64 (doErr m.plain ⟨th, ⟨k, o, q, v⟩, w⟩))]))))) →
      ACalls P f [m.av, StepG.av7 ⟨th, ⟨k, o, q, v⟩, w⟩] [] (RetD (.tup [(resM m.plain ⟨th, ⟨k, o, q, v⟩, w⟩).av, .d (.int .i64 (doErr m.plain ⟨th, ⟨k, o, q, v⟩, w⟩))])) := fun hT hv =>
    ACalls.saysK (ACalls.of_vck hT V_hist_Do hf hname hb hl hr ha (hv (k1.nextG e1) (k2.nextG e2) (k3.nextG e3) .hit (k5.nextG e5) (k6.nextG e6) (k7.nextG e7) (k8.nextG e8) (k9.nextG e9) (k10.nextG e10)))
  have hA : ACalls P f [m.av, StepG.av7 ⟨th, ⟨k, o, q, v⟩, w⟩] [] (RetD (.tup [(resM m.plain ⟨th, ⟨k, o, q, v⟩, w⟩).av, .d (.int .i64 (doErr m.plain ⟨th, ⟨k, o, q, v⟩, w⟩))])) := by
    by_cases c2 : k = 2
    · subst c2
      exact fin (hH ⟨o.toNat, th.toNat⟩) fun k1 k2 k3 k4 k5 k6 k7 k8 k9 k10 => do_write k1 k2 k3 k4 k5 k6 k7 k8 k9 k10 m th o q v w hok rfl
    · refine fin h0 fun k1 k2 k3 k4 k5 k6 k7 k8 k9 k10 => ?_
      by_cases c1 : k = 1
      · subst c1; exact do_read k1 k2 k3 k4 k5 k6 k7 k8 k9 k10 m th o q v w hok
      · by_cases c3 : k = 3
        · subst c3; exact do_get k1 k2 k3 k4 k5 k6 k7 k8 k9 k10 m th o q v w hok
        · by_cases c4 : k = 4
          · subst c4; exact do_set k1 k2 k3 k4 k5 k6 k7 k8 k9 k10 m th o q v w hok
          · by_cases c5 : k = 5
            · subst c5; exact do_turn k1 k2 k3 k4 k5 k6 k7 k8 k9 k10 m th o q v w hok
            · exact do_other k1 k2 k3 k4 k5 k6 k7 k8 k9 k10 m th o q v w hok ⟨c1, c2, c3, c4, c5⟩
  exact ⟨AV.plain_spec _ rfl, hA.mono fun r H' e => ⟨(AV.frz_spec _ _ e).1, fun h => by cases h⟩⟩
end Go.Ago

/- hist.Sees and hist.New. Conditions: none. -/
set_option maxRecDepth 100000
set_option linter.unusedSimpArgs false
set_option linter.unusedVariables false
namespace Go.Ago
/-! ### Sees -/
def seesG (m : Mem) (t l : Int) : List StampG :=
  if t < 0 ∨ (m.fronts.length : Int) ≤ t ∨ l < 0 ∨ (m.past.length : Int) ≤ l then []
  else (m.past.getD l.toNat []).filter fun s => decide (0 ≤ cmpQ' s.when ((m.fronts.getD t.toNat []).getD l.toNat default))
def sp_Sees : Sp := ⟨MemG × Int × Int, fun x => [x.1.av, .d (.int .i64 x.2.1), .d (.int .i64 x.2.2)], fun x => .data (x.1.plain.Wf 1000000) (.d (.list ((seesG x.1.plain x.2.1 x.2.2).map StampG.row) false)) false⟩
theorem at_Sees (a1 : List LocG) (a2 : Bool) (a3 : List StampsF) (a4 : Bool) (a5 : List Int) (a6 : Bool) (a7 : List RatsF) (a8 : Bool) (a9 : List RatsF) (a10 : Bool) (t l : Int) :
    sp_Sees.at [.agg [.d (.list (a1.map LocG.row) a2), .d (.list (a3.map rowStamps) a4), .d (.list (a5.map rowI) a6), .d (.list (a7.map rowRats) a8), .d (.list (a9.map rowRats) a10)], .d (.int .i64 t), .d (.int .i64 l)] =
      .data ((MemG.plain ⟨a1, a2, a3, a4, a5, a6, a7, a8, a9, a10⟩).Wf 1000000) (.d (.list ((seesG (MemG.plain ⟨a1, a2, a3, a4, a5, a6, a7, a8, a9, a10⟩) t l).map StampG.row) false)) false :=
  Sp.at_enc (s := sp_Sees) (fun x y h => by
    obtain ⟨m, t, l⟩ := x; obtain ⟨m', t', l'⟩ := y
    simp only [sp_Sees, List.cons.injEq, AV.d.injEq, DV.int.injEq, and_true, true_and] at h
    obtain ⟨h1, h2, h3⟩ := h
    rw [MemG.av_inj _ _ h1, h2, h3]) (⟨a1, a2, a3, a4, a5, a6, a7, a8, a9, a10⟩, t, l)
def seeSt (m : MemG) (t l : Int) (P : List StampG) (pf : Bool) : Nat × List StampG → State
  | (i, []) => ⟨[(3, .ptr 0 5 0 0), (1, .d (.int .i64 t)), (2, .d (.int .i64 l)), (7, .d (.list [] true)), (34, .d (.list (P.map StampG.row) pf)), (35, .d (.int .i64 P.length)), (36, .d (.int .i64 i))],
      [.vec 5 [[.d (.list (m.locs.map LocG.row) m.lf), .d (.list (m.past.map rowStamps) m.pf), .d (.list (m.vals.map rowI) m.vf), .d (.list (m.marks.map rowRats) m.mf), .d (.list (m.fronts.map rowRats) m.ff)]]]⟩
  | (i, a :: r) => ⟨[(3, .ptr 0 5 0 0), (1, .d (.int .i64 t)), (2, .d (.int .i64 l)), (7, .ref 1 3 0 (r.length + 1) true), (34, .d (.list (P.map StampG.row) pf)), (35, .d (.int .i64 P.length)), (36, .d (.int .i64 i))],
      [.vec 5 [[.d (.list (m.locs.map LocG.row) m.lf), .d (.list (m.past.map rowStamps) m.pf), .d (.list (m.vals.map rowI) m.vf), .d (.list (m.marks.map rowRats) m.mf), .d (.list (m.fronts.map rowRats) m.ff)]], .dvec 3 ((a :: r).map StampG.row)]⟩
set_option maxHeartbeats 4000000 in
theorem body_hist_Sees {T : Tab} {n1 : Nat} (k1 : Knows T n1 sp_rat_Cmp) : sp_Sees.Body T V_hist_Sees (L_hist_Sees n1) R_hist_Sees := by
  have F1 := k1.F; have G1 := k1.G
  rintro ⟨m, t, l⟩ (hm : m.plain.Wf 1000000)
  refine ⟨rfl, ?_⟩
  obtain ⟨a1, a2, a3, a4, a5, a6, a7, a8, a9, a10⟩ := m
  have hl : a1.length ≤ 16 := hm.locs
  have h1 : a3.length = a1.length := by have := hm.past; simpa [MemG.plain, Z31] using this
  have h4 : a9.length ≤ 3 := by have := hm.fronts; simpa [MemG.plain, Z31] using this
  unfold V_hist_Sees L_hist_Sees R_hist_Sees
  simp (maxSteps := 3000000) only [↓Z0g, ↓Z10, ↓Z04, ↓Z0p, ↓Z0f, ↓Z09, ↓Z1g, ↓Z0a, ↓Z0o, ↓Z1i, ↓Z0n, ↓Z1p, ↓Z0i, ↓Z0c, ↓Z0b, Z2m, Z05, Z17, Z12, Z1b, evN, Z0m, Z1a, Z0l, Z0e, Z0k, Z1q, Z0w, evT, Opd.ev, Z03, Z00, Z18, Z1k, Z1h, Z0u, Z0x, Z0y, Z0d, Z1t, LOp.isNew, State.prune, Z1j, Z1d, AV.leaf, Heap.at, Z06, Z0s, Z02, Z2i, Z3x, List.length_map, Z2p, Z3a, Z32, binT, binQ, Bool.and_self, resQ, resV, resT, Z4n, Z0t, RetD, AV.frz, DV.less, Option.some.injEq, DV.list.injEq, AV.d.injEq, ↓reduceIte, Nat.reduceAdd, Nat.reduceBEq, List.length_cons, List.length_nil, List.replicate_succ, List.replicate_zero, List.nil_append, List.append_nil, List.map_cons, List.map_nil, List.all_cons, List.all_nil, List.set_cons_zero, List.getD_cons_zero, List.getD_cons_succ, true_and, and_true, and_self, Nat.reduceLT, Nat.zero_add, Nat.add_zero, Bool.false_eq_true, sp_Sees, MemG.av, getStamps, rowStamps_len, idx_Stamps]
  have nil : (t < 0 ∨ (a9.length : Int) ≤ t ∨ l < 0 ∨ (a3.length : Int) ≤ l) → [] = List.map StampG.row (seesG (MemG.plain ⟨a1, a2, a3, a4, a5, a6, a7, a8, a9, a10⟩) t l) := fun h => by
    unfold seesG
    rw [if_pos (by
      show t < 0 ∨ ((inn a9).length : Int) ≤ t ∨ l < 0 ∨ ((inn a3).length : Int) ≤ l
      rw [Z31, Z31]; exact h)]; rfl
  refine ⟨fun b1 => nil (.inl b1), fun b1 => ⟨fun b2 => nil (.inr (.inl b2)), fun b2 => ⟨fun b3 => nil (.inr (.inr (.inl b3))), fun b3 => ⟨fun b4 => nil (.inr (.inr (.inr b4))), fun b4 => ⟨⟨by omega, by omega⟩, ?_⟩⟩⟩⟩⟩
  have hP : seesG (MemG.plain ⟨a1, a2, a3, a4, a5, a6, a7, a8, a9, a10⟩) t l = (a3.getD l.toNat default).1.filter fun s => decide (0 ≤ rat_cmp s.when.num s.when.den ((a9.getD t.toNat default).1.getD l.toNat default).num ((a9.getD t.toNat default).1.getD l.toNat default).den) := by
    unfold seesG
    rw [if_neg (by
      show ¬ (t < 0 ∨ ((inn a9).length : Int) ≤ t ∨ l < 0 ∨ ((inn a3).length : Int) ≤ l)
      rw [Z31, Z31]; omega), inn_at, inn_at]; rfl
  have hpl : (a3.getD l.toNat default).1.length ≤ 1000000 := by rw [inn_at]; exact hm.pasts _ (inn_get (L := a3) (i := l.toNat) (by omega))
  have hfl : (a9.getD t.toNat default).1.length = a1.length := by rw [inn_at]; exact hm.frontsL _ (inn_get (L := a9) (i := t.toNat) (by omega))
  rw [hP]
  generalize (a3.getD l.toNat default).1 = P at *
  generalize (a3.getD l.toNat default).2 = pf at *
  generalize hq : (fun s : StampG => decide (0 ≤ rat_cmp s.when.num s.when.den ((a9.getD t.toNat default).1.getD l.toNat default).num ((a9.getD t.toNat default).1.getD l.toNat default).den)) = qq
  have hqs : ∀ s : StampG, qq s = decide (0 ≤ rat_cmp s.when.num s.when.den ((a9.getD t.toNat default).1.getD l.toNat default).num ((a9.getD t.toNat default).1.getD l.toNat default).den) := fun s => by rw [← hq]
  have tk : ∀ i, i < P.length → (P.take (i + 1)).filter qq = (P.take i).filter qq ++ (if qq (P.getD i default) = true then [P.getD i default] else []) := fun i hi => by
    rw [List.take_add_one, List.getElem?_eq_getElem hi, List.filter_append, Z3z hi]
    by_cases h : qq P[i] = true <;> simp [h]
  refine Loop.fam [3, 1, 2, 7, 34, 35, 36] (seeSt ⟨a1, a2, a3, a4, a5, a6, a7, a8, a9, a10⟩ t l P pf) (fun x => x.1 ≤ P.length ∧ x.2 = (P.take x.1).filter qq) (fun x => P.length - x.1) (0, []) [0] (by simp) (by simp) (by simp only [State.can, AV.can, AV.canL, HO.can, Z0v, idx, Z03, Z00, Heap.at, Nat.reduceBEq, ↓reduceIte, Option.getD_some, Option.map_some, List.map_cons, List.map_nil, List.getD_cons_zero, seeSt]; rfl) ⟨Nat.zero_le _, by simp⟩ ?_
  rintro ⟨i, acc⟩ ⟨hi, ha⟩
  have hi : i ≤ P.length := hi
  have ha : acc = (P.take i).filter qq := ha
  have hal : acc.length ≤ i := by rw [ha]; exact Nat.le_trans (List.length_filter_le _ _) (by rw [List.length_take]; omega)
  cases acc with
  | nil =>
    simp (maxSteps := 3000000) only [↓Z0g, ↓Z10, ↓Z16, ↓Z04, ↓Z0p, ↓Z0f, ↓Z09, ↓Z0a, ↓Z0o, ↓Z1u, ↓Z14, ↓Z15, ↓Z0n, ↓Z1p, ↓Z3g, ↓Z30, ↓Z0b, Z2m, Z05, Z0q, Z17, Z1b, evN, Z19, Z0m, Z1a, Z24, Z0l, Z0e, Z0k, Z0w, evT, Opd.ev, Z03, Z00, Z18, Z2l, Z1k, Z0u, Z0x, Z0d, Z1t, LOp.isNew, State.prune, Z1j, Z1d, AV.leaf, Heap.at, Z06, Z0s, Z02, Z44, Z2j, Z07, Z01, Z2i, RatG.row, StampG.row, Z1z, Int.toNat_natCast, Z1x, Z43, Src.all, Src.len, Src.leaf, Z4i, Z4f, drows, List.take_of_length_le, Z2p, Z3a, Z32, binT, binQ, chk, Z2h, Bool.and_self, resQ, resV, resT, Z13, Z1y, fnOf, Z1v, isD, Z3u, Z37, Z34, List.mem_cons, List.not_mem_nil, or_false, forall_eq, putRow, Z39, Z0t, RetD, AV.frz, DV.less, Option.some.injEq, DV.list.injEq, Nat.le_refl, AV.d.injEq, ↓reduceIte, Nat.reduceAdd, Nat.reduceBEq, List.length_cons, List.length_nil, List.replicate_succ, List.replicate_zero, List.nil_append, List.cons_append, List.append_nil, List.map_cons, List.map_nil, List.all_cons, List.all_nil, List.set_cons_zero, List.set_cons_succ, List.getD_cons_zero, List.getD_cons_succ, List.drop_zero, List.drop_succ_cons, List.take_succ_cons, List.take_zero, List.flatten_cons, List.flatten_nil, true_and, and_true, or_true, Option.bind_some, Option.map_some, false_implies, implies_true, and_self, Nat.reduceLT, Nat.reduceLeDiff, List.reverse_cons, List.reverse_nil, Nat.zero_add, Nat.add_zero, Bool.false_eq_true, seeSt, F1, G1, at_rat_Cmp, idx_Rats, getRats, rowRats_len]
    refine ⟨fun c => ⟨⟨by omega, by omega⟩, ⟨by omega, by omega⟩, ⟨by omega, by omega⟩, fun g => ?_, fun g => ?_⟩, fun c => ?_⟩
    · have c' : i < P.length := by omega
      rw [Z2n c' (by unfold maxLen; omega)]
      refine ⟨Z1e (by omega) (by omega), Z0r.mk [0, 3] (i + 1, [P.getD i default]) (by simp) (by simp) (by simp only [State.can, AV.can, AV.canL, HO.can, Z0v, idx, Z03, Z00, Heap.at, Nat.reduceBEq, ↓reduceIte, Nat.reduceEqDiff, Option.getD_some, Option.map_some, List.map_cons, List.map_nil, List.getD_cons_zero, List.getD_cons_succ, seeSt]; rfl) ⟨by show i + 1 ≤ P.length; omega, ?_⟩ (by show P.length - (i + 1) < P.length - i; omega)⟩
      show [P.getD i default] = (P.take (i + 1)).filter qq
      rw [tk i c', ← ha, if_pos (by rw [hqs]; exact decide_eq_true g)]; rfl
    · have c' : i < P.length := by omega
      rw [Z2n c' (by unfold maxLen; omega)]
      refine Z0r.mk [0] (i + 1, []) (by simp) (by simp) (by simp only [State.can, AV.can, AV.canL, HO.can, Z0v, idx, Z03, Z00, Heap.at, Nat.reduceBEq, ↓reduceIte, Option.getD_some, Option.map_some, List.map_cons, List.map_nil, List.getD_cons_zero, seeSt]) ⟨by show i + 1 ≤ P.length; omega, ?_⟩ (by show P.length - (i + 1) < P.length - i; omega)
      show [] = (P.take (i + 1)).filter qq
      rw [tk i c', ← ha, if_neg (by rw [hqs]; simpa using g)]; rfl
    · have : i = P.length := by omega
      subst this
      rw [List.take_length] at ha
      rw [← ha]; rfl
  | cons a r =>
    simp (maxSteps := 3000000) only [↓Z0g, ↓Z10, ↓Z16, ↓Z04, ↓Z0p, ↓Z0f, ↓Z09, ↓Z0a, ↓Z0o, ↓Z1u, ↓Z14, ↓Z15, ↓Z0n, ↓Z1p, ↓Z3g, ↓Z30, ↓Z0b, Z2m, Z05, Z0q, Z17, Z1b, evN, Z19, Z0m, Z1a, Z24, Z0l, Z0e, Z0k, Z0w, evT, Opd.ev, Z03, Z00, Z18, Z2l, Z1k, Z0u, Z0x, Z0d, Z1t, LOp.isNew, State.prune, Z1j, Z1d, AV.leaf, Heap.at, Z06, Z0s, Z02, Z44, Z2j, Z07, Z01, Z2i, RatG.row, StampG.row, Z1z, Int.toNat_natCast, Z1x, Z43, Src.all, Src.len, Src.leaf, Z4i, Z4f, drows, List.length_map, List.take_of_length_le, Z2p, Z3a, Z32, binT, binQ, chk, Z2h, Bool.and_self, resQ, resV, resT, Z13, Z1y, fnOf, Z1v, isD, Z3u, Z37, Z34, List.mem_cons, List.not_mem_nil, or_false, forall_eq, putRow, Z39, Z0t, RetD, AV.frz, Option.some.injEq, DV.list.injEq, Nat.le_refl, AV.d.injEq, ↓reduceIte, Nat.reduceAdd, Nat.reduceBEq, List.length_cons, List.length_nil, List.replicate_succ, List.replicate_zero, List.nil_append, List.cons_append, List.append_nil, List.map_cons, List.map_nil, List.all_cons, List.all_nil, List.set_cons_zero, List.set_cons_succ, List.getD_cons_zero, List.getD_cons_succ, List.drop_zero, List.drop_succ_cons, List.take_succ_cons, List.take_zero, List.flatten_cons, List.flatten_nil, true_and, and_true, Option.bind_some, Option.map_some, and_self, Nat.reduceLT, Nat.reduceLeDiff, List.reverse_cons, List.reverse_nil, Nat.zero_add, Nat.add_zero, Bool.false_eq_true, seeSt, F1, G1, at_rat_Cmp, idx_Rats, getRats, rowRats_len]
    simp only [List.length_cons] at hal
    refine ⟨fun c => ⟨⟨by omega, by omega⟩, ⟨by omega, by omega⟩, ⟨by omega, by omega⟩, fun g => ?_, fun g => ?_⟩, fun c => ?_⟩
    · have c' : i < P.length := by omega
      rw [Z2n c' (by unfold maxLen; omega)]
      refine ⟨Z1e (by omega) (by omega), Z0r.mk [0, 4] (i + 1, a :: (r ++ [P.getD i default])) (by simp) (by simp) (by simp only [State.can, AV.can, AV.canL, HO.can, Z0v, idx, Z03, Z00, Heap.at, Nat.reduceBEq, ↓reduceIte, Nat.reduceEqDiff, Option.getD_some, Option.map_some, List.map_cons, List.map_nil, List.getD_cons_zero, List.getD_cons_succ, seeSt]; simp [StampG.row]) ⟨by show i + 1 ≤ P.length; omega, ?_⟩ (by show P.length - (i + 1) < P.length - i; omega)⟩
      show a :: (r ++ [P.getD i default]) = (P.take (i + 1)).filter qq
      rw [tk i c', ← ha, if_pos (by rw [hqs]; exact decide_eq_true g)]; rfl
    · have c' : i < P.length := by omega
      rw [Z2n c' (by unfold maxLen; omega)]
      refine Z0r.mk [0, 1] (i + 1, a :: r) (by simp) (by simp) (by simp only [State.can, AV.can, AV.canL, HO.can, Z0v, idx, Z03, Z00, Heap.at, Nat.reduceBEq, ↓reduceIte, Nat.reduceEqDiff, Option.getD_some, Option.map_some, List.map_cons, List.map_nil, List.getD_cons_zero, List.getD_cons_succ, seeSt]; rfl) ⟨by show i + 1 ≤ P.length; omega, ?_⟩ (by show P.length - (i + 1) < P.length - i; omega)
      show a :: r = (P.take (i + 1)).filter qq
      rw [tk i c', ← ha, if_neg (by rw [hqs]; simpa using g)]; simp
    · have : i = P.length := by omega
      subst this
      rw [List.take_length] at ha
      rw [← ha]; rfl
end Go.Ago

/- hist.New. Conditions: none. -/
set_option maxRecDepth 100000
set_option linter.unusedSimpArgs false
set_option linter.unusedVariables false
namespace Go.Ago
def newErr (l : List LocG) (t : Int) : Int := if 16 < l.length ∨ t < 1 ∨ 3 < t then 1 else 0
def pastX (x : LocG) : StampsF := if x.atom then ([], true) else ([⟨⟨0, 1⟩, x.init⟩], false)
def valX (x : LocG) : Int := if x.atom then x.init else 0
def markX (n : Nat) (x : LocG) : RatsF := if x.atom then (startG n, false) else ([], true)
def frontX (n t : Nat) : List RatsF := List.replicate t (startG n, false)
def newM (l : List LocG) (t : Int) : MemG := if newErr l t = 0 then ⟨l, false, l.map pastX, false, l.map valX, false, l.map (markX l.length), false, frontX l.length t.toNat, false⟩ else .nil
def sp_New : Sp := ⟨List LocG × Bool × Int, fun x => [.d (.list (x.1.map LocG.row) x.2.1), .d (.int .i64 x.2.2)], fun x => .data (x.1.length ≤ maxLen) (.tup [(newM x.1 x.2.2).av, .d (.int .i64 (newErr x.1 x.2.2))]) false⟩
theorem at_New (l : List LocG) (f : Bool) (t : Int) : sp_New.at [.d (.list (l.map LocG.row) f), .d (.int .i64 t)] = .data (l.length ≤ maxLen) (.tup [(newM l t).av, .d (.int .i64 (newErr l t))]) false :=
  Sp.at_enc (s := sp_New) (fun x y h => by
    obtain ⟨l, f, t⟩ := x; obtain ⟨l', f', t'⟩ := y
    simp only [sp_New, List.cons.injEq, AV.d.injEq, DV.list.injEq, DV.int.injEq, and_true, true_and] at h
    rw [Z4h LocG.row_inj h.1.1, h.1.2, h.2]) (l, f, t)
theorem mkVec_appd {sz : Nat} {L : List (List DV)} {x : DV} : Z4f sz (L.map (fun x => x.map AV.d) ++ [[.d x]]) = .dvec sz (L ++ [[x]]) := by
  have : L.map (fun x => x.map AV.d) ++ [[AV.d x]] = (L ++ [[x]]).map (·.map AV.d) := by simp
  rw [this]; exact mkVec_some (drows_d _)
theorem frontX_len (n k : Nat) : (frontX n k).length = k := List.length_replicate
theorem frontX_take (n k : Nat) : List.take k (frontX n k) = frontX n k := List.take_of_length_le (by rw [frontX_len]; exact Nat.le_refl _)
theorem frontX_succ (n k : Nat) : ((frontX n (k + 1)).map rowRats) = (frontX n k).map rowRats ++ [[.list ((startG n).map RatG.row) false]] := by
  unfold frontX; rw [List.replicate_succ', List.map_append]; rfl
def nobj : HO := .vec 5 [[.d (.list [] true), .d (.list [] true), .d (.list [] true), .d (.list [] true), .d (.list [] true)]]
def frSt0 (f : Bool) (t : Int) : Nat → State
  | 0 => ⟨[(0, .d (.list [] f)), (4, .ptr 0 5 0 0), (6, .ptr 2 5 0 0), (73, .d (.int .i64 t)), (74, .d (.int .i64 0))],
      [nobj, .dvec 2 [], .vec 5 [[.ref 1 2 0 0 true, .d (.list [] true), .d (.list [] true), .d (.list [] true), .d (.list [] true)]]]⟩
  | j + 1 => ⟨[(0, .d (.list [] f)), (4, .ptr 0 5 0 0), (6, .ptr 2 5 0 0), (73, .d (.int .i64 t)), (74, .d (.int .i64 ((j + 1 : Nat) : Int)))],
      [nobj, .dvec 2 [], .vec 5 [[.ref 1 2 0 0 true, .d (.list [] true), .d (.list [] true), .d (.list [] true), .ref 3 1 0 (j + 1) true]], .dvec 1 ((frontX 0 (j + 1)).map rowRats)]⟩
def frSt (l : List LocG) (f : Bool) (t : Int) : Nat → State
  | 0 => ⟨[(0, .d (.list (l.map LocG.row) f)), (4, .ptr 0 5 0 0), (6, .ptr 2 5 0 0), (73, .d (.int .i64 t)), (74, .d (.int .i64 0))],
      [nobj, .dvec 2 (l.map LocG.row), .vec 5 [[.ref 1 2 0 l.length true, .ref 3 1 0 l.length true, .ref 4 1 0 l.length true, .ref 5 1 0 l.length true, .d (.list [] true)]],
       .dvec 1 ((l.map pastX).map rowStamps), .dvec 1 ((l.map valX).map rowI), .dvec 1 ((l.map (markX l.length)).map rowRats)]⟩
  | j + 1 => ⟨[(0, .d (.list (l.map LocG.row) f)), (4, .ptr 0 5 0 0), (6, .ptr 2 5 0 0), (73, .d (.int .i64 t)), (74, .d (.int .i64 ((j + 1 : Nat) : Int)))],
      [nobj, .dvec 2 (l.map LocG.row), .vec 5 [[.ref 1 2 0 l.length true, .ref 3 1 0 l.length true, .ref 4 1 0 l.length true, .ref 5 1 0 l.length true, .ref 6 1 0 (j + 1) true]],
       .dvec 1 ((l.map pastX).map rowStamps), .dvec 1 ((l.map valX).map rowI), .dvec 1 ((l.map (markX l.length)).map rowRats), .dvec 1 ((frontX l.length (j + 1)).map rowRats)]⟩
def newSt (l : List LocG) (f : Bool) (t : Int) : Nat → State
  | 0 => ⟨[(0, .d (.list (l.map LocG.row) f)), (1, .d (.int .i64 t)), (4, .ptr 0 5 0 0), (24, .d (.list (l.map LocG.row) f)), (25, .d (.int .i64 l.length)), (26, .d (.int .i64 0)), (6, .ptr 2 5 0 0)],
      [.vec 5 [[.d (.list [] true), .d (.list [] true), .d (.list [] true), .d (.list [] true), .d (.list [] true)]], .dvec 2 (l.map LocG.row), .vec 5 [[.ref 1 2 0 l.length true, .d (.list [] true), .d (.list [] true), .d (.list [] true), .d (.list [] true)]]]⟩
  | i + 1 => ⟨[(0, .d (.list (l.map LocG.row) f)), (1, .d (.int .i64 t)), (4, .ptr 0 5 0 0), (24, .d (.list (l.map LocG.row) f)), (25, .d (.int .i64 l.length)), (26, .d (.int .i64 ((i + 1 : Nat) : Int))), (6, .ptr 2 5 0 0)],
      [.vec 5 [[.d (.list [] true), .d (.list [] true), .d (.list [] true), .d (.list [] true), .d (.list [] true)]], .dvec 2 (l.map LocG.row), .vec 5 [[.ref 1 2 0 l.length true, .ref 3 1 0 (i + 1) true, .ref 4 1 0 (i + 1) true, .ref 5 1 0 (i + 1) true, .d (.list [] true)]],
       .dvec 1 (((l.take (i + 1)).map pastX).map rowStamps), .dvec 1 (((l.take (i + 1)).map valX).map rowI), .dvec 1 (((l.take (i + 1)).map (markX l.length)).map rowRats)]⟩
set_option maxHeartbeats 4000000 in
theorem body_hist_New {T : Tab} {n1 n2 : Nat} (k1 : Knows T n1 (cloneS 2 16)) (k2 : Knows T n2 sp_begin) : sp_New.Body T V_hist_New (L_hist_New n1 n2) R_hist_New := by
  have F1 := k1.F; have G1 := k1.G; have F2 := k2.F; have G2 := k2.G
  rintro ⟨l, f, t⟩ hl
  refine ⟨rfl, ?_⟩
  have hl : l.length ≤ maxLen := hl
  show vck T 0 V_hist_New (L_hist_New n1 n2) ⟨Z0y 0 [.d (.list (l.map LocG.row) f), .d (.int .i64 t)], []⟩ (retK R_hist_New (RetD (.tup [(newM l t).av, .d (.int .i64 (newErr l t))])))
  generalize hX : RetD _ = X
  unfold V_hist_New L_hist_New R_hist_New
  simp (maxSteps := 3000000) only [↓Z0g, ↓Z10, ↓Z04, ↓Z0p, ↓Z0f, ↓Z09, ↓Z1g, ↓Z0a, ↓Z0o, ↓Z1i, ↓Z0n, ↓Z1p, ↓Z0i, ↓Z0c, ↓Z0b, Z2m, Z05, Z17, Z12, Z1b, evN, Z19, Z0m, Z1a, Z0l, Z0e, Z0k, Z1q, Z0w, evT, Opd.ev, Z03, Z00, Z18, Z2l, Z1k, Z1h, Z0u, Z0x, Z0y, Z0d, Z1t, LOp.isNew, State.prune, Z1j, Z1d, AV.leaf, Heap.at, Z06, Z02, Z07, Z01, Z3x, List.length_map, List.take_of_length_le, Z2p, Z3a, Z32, binT, binQ, Bool.and_self, resQ, resV, resT, Z4n, Z13, Z1y, fnOf, Z1v, Z3u, Z3t, Z3i, Z3c, putRow, Z0t, Nat.le_refl, ↓reduceIte, Nat.reduceAdd, Nat.reduceBEq, List.length_cons, List.length_nil, List.replicate_succ, List.replicate_zero, List.nil_append, List.cons_append, List.append_nil, List.map_cons, List.map_nil, List.all_cons, List.all_nil, List.set_cons_zero, List.set_cons_succ, List.getD_cons_zero, List.getD_cons_succ, List.drop_zero, List.drop_succ_cons, List.take_zero, List.flatten_cons, List.flatten_nil, true_and, and_true, true_or, and_self, Nat.reduceLT, Nat.reduceLeDiff, Nat.zero_add, Nat.add_zero, Bool.false_eq_true, F1, G1, at_clone, Z02, Z01]
  have err : ∀ {H}, (16 < l.length ∨ t < 1 ∨ 3 < t) → X (.tup [.agg [.d (.list [] true), .d (.list [] true), .d (.list [] true), .d (.list [] true), .d (.list [] true)], .d (.int .i64 1)]) H := fun {H} h => by
    have e1 : newErr l t = 1 := if_pos h
    have e2 : newM l t = .nil := by unfold newM; rw [if_neg (by rw [e1]; decide)]
    rw [← hX, e1, e2]; rfl
  refine ⟨fun c => err (.inl (by omega)), fun c1 => ⟨fun c => err (.inr (.inl c)), fun c2 => ⟨fun c => err (.inr (.inr c)), fun c3 => ⟨Z1e (by omega) (by omega), ?_⟩⟩⟩⟩
  have hl16 : l.length ≤ 16 := by omega
  have ok1 : newErr l t = 0 := if_neg (by omega)
  have ok2 : newM l t = ⟨l, false, l.map pastX, false, l.map valX, false, l.map (markX l.length), false, frontX l.length t.toNat, false⟩ := if_pos ok1
  refine Loop.fam [0, 1, 4, 24, 25, 26, 6] (newSt l f t) (fun i => i ≤ l.length) (fun i => l.length - i) 0 [0, 1, 2] (by simp) (by simp) (by simp only [State.can, AV.can, AV.canL, HO.can, Z0v, idx, Z03, Z00, Heap.at, Nat.reduceBEq, ↓reduceIte, Nat.reduceEqDiff, Option.getD_some, Option.map_some, List.map_cons, List.map_nil, List.getD_cons_zero, List.getD_cons_succ, newSt]) (Nat.zero_le _) ?_
  intro i hi
  have hi : i ≤ l.length := hi
  by_cases hin : i < l.length
  · have e : l.getD i default = l[i] := Z3z hin
    have etk : l.take (i + 1) = l.take i ++ [l[i]] := by rw [List.take_add_one, List.getElem?_eq_getElem hin]; rfl
    by_cases hat : (l.getD i default).atom = true
    · have ep : rowStamps (pastX l[i]) = [.list [] true] := by rw [← e]; unfold pastX; rw [hat]; rfl
      have ev : rowI (valX l[i]) = [.int .i64 (l.getD i default).init] := by rw [← e]; unfold valX; rw [hat]; rfl
      have em : rowRats (markX l.length l[i]) = [.list ((startG l.length).map RatG.row) false] := by rw [← e]; unfold markX; rw [hat]; rfl
      cases i with
      | zero =>
        simp (maxSteps := 3000000) only [↓Z0g, ↓Z16, ↓Z04, ↓Z0p, ↓Z0f, ↓Z09, ↓Z1g, ↓Z0a, ↓Z0o, ↓Z1u, ↓Z14, ↓Z15, ↓Z0n, ↓Z3g, ↓Z30, ↓Z0i, ↓Z0b, Z2m, Z05, Z0q, Z17, Z1b, evN, Z19, Z0m, Z1a, Z24, Z0l, Z0e, Z0k, Z0w, evT, Opd.ev, Z03, Z00, Z18, Z2l, Z1k, Z0u, Z0x, Z0d, Z1t, LOp.isNew, State.prune, Z1j, Z1d, AV.leaf, Heap.at, Z06, Z0s, Z02, Z3w, Z07, Z01, LocG.row, Z1z, Int.toNat_natCast, Int.reduceToNat, Z3x, Z1x, Z43, Src.all, Src.len, Src.leaf, Z4i, Z4f, drows, List.length_map, List.take_of_length_le, Nat.sub_zero, Z2p, Z3a, Z32, binT, binQ, chk, Z2h, List.contains_cons, List.contains_nil, Bool.or_false, Bool.and_self, Z13, Z1y, fnOf, Z1v, Z3u, Z37, Z34, List.mem_cons, List.not_mem_nil, or_false, forall_eq, putRow, Z39, Z0t, Nat.le_refl, ↓reduceIte, Nat.reduceAdd, Nat.reduceBEq, List.length_cons, List.length_nil, List.replicate_succ, List.replicate_zero, List.nil_append, List.cons_append, List.append_nil, List.map_cons, List.map_nil, List.all_cons, List.all_nil, List.set_cons_zero, List.set_cons_succ, List.getD_cons_zero, List.getD_cons_succ, List.drop_zero, List.drop_succ_cons, List.take_succ_cons, List.take_zero, List.flatten_cons, List.flatten_nil, Bool.true_and, Bool.and_true, Bool.not_false, true_and, or_true, Option.bind_some, Option.map_some, false_implies, implies_true, and_self, Nat.reduceLT, Nat.reduceLeDiff, List.reverse_cons, List.reverse_nil, Nat.zero_add, Nat.add_zero, Bool.false_eq_true, newSt, F2, G2, at_begin, Z02, Z01, hat]
        refine ⟨fun c => ⟨⟨by omega, by omega⟩, Z1e (by omega) (by omega), Z1e (by omega) (by omega), ⟨by omega, by omega⟩, Z1e (by omega) (by omega), Z0r.mk [0, 1, 2, 5, 7, 10] 1 (by simp) (by simp) ?_ (by show 1 ≤ l.length; omega) (by show l.length - 1 < l.length; omega)⟩, fun c => absurd (by omega) c⟩
        simp only [State.can, AV.can, AV.canL, HO.can, Z0v, idx, Z03, Z00, Heap.at, Nat.reduceBEq, ↓reduceIte, Nat.reduceEqDiff, Option.getD_some, Option.map_some, List.map_cons, List.map_nil, List.getD_cons_zero, List.getD_cons_succ, newSt, etk, List.take_zero, List.nil_append, List.map_cons, List.map_nil, ep, ev, em]; rfl
      | succ i =>
        have hlt : (List.take (i + 1) l).length = i + 1 := by rw [List.length_take]; omega
        have ht : ∀ {β : Type} (g : LocG → β), List.take (i + 1) (List.map g (List.take (i + 1) l)) = List.map g (List.take (i + 1) l) := fun g => List.take_of_length_le (by rw [List.length_map, hlt]; omega)
        simp (maxSteps := 3000000) only [↓Z0g, ↓Z16, ↓Z04, ↓Z0p, ↓Z0f, ↓Z09, ↓Z1g, ↓Z0a, ↓Z0o, ↓Z1u, ↓Z14, ↓Z15, ↓Z0n, ↓Z3g, ↓Z30, ↓Z0i, ↓Z0b, Z2m, Z05, Z0q, Z17, Z1b, evN, Z19, Z0m, Z1a, Z24, Z0l, Z0e, Z0k, Z0w, evT, Opd.ev, Z03, Z00, Z18, Z2l, Z1k, Z0u, Z0x, Z0d, Z1t, LOp.isNew, State.prune, Z1j, Z1d, AV.leaf, Heap.at, Z06, Z0s, Z02, Z3w, Z07, Z01, LocG.row, Z1z, Z3d, Int.toNat_natCast, Z3x, Z1x, Z43, Src.all, Src.len, Src.leaf, Z4i, Z4f, drows, List.length_map, List.take_of_length_le, Z2p, Z3a, Z32, binT, binQ, chk, Z2h, List.contains_cons, List.contains_nil, Bool.or_false, Bool.and_self, Z13, Z1y, fnOf, Z1v, Z3u, Z37, Z34, List.mem_cons, List.not_mem_nil, or_false, forall_eq, putRow, Z39, Z0t, Nat.le_refl, ↓reduceIte, Nat.reduceAdd, Nat.reduceBEq, List.length_cons, List.length_nil, List.replicate_succ, List.replicate_zero, List.nil_append, List.cons_append, List.append_nil, List.map_cons, List.map_nil, List.all_cons, List.all_nil, List.set_cons_zero, List.set_cons_succ, List.getD_cons_zero, List.getD_cons_succ, List.drop_zero, List.drop_succ_cons, List.take_succ_cons, List.take_zero, List.flatten_cons, List.flatten_nil, Bool.true_and, Bool.and_true, Bool.not_false, true_and, Option.bind_some, Option.map_some, and_self, Nat.reduceLT, Nat.reduceLeDiff, List.reverse_cons, List.reverse_nil, Nat.zero_add, Nat.add_zero, Bool.false_eq_true, newSt, F2, G2, at_begin, Z02, Z01, hat, hlt]
        refine ⟨fun c => ⟨⟨by omega, by omega⟩, Z1e (by omega) (by omega), Z1e (by omega) (by omega), ⟨by omega, by omega⟩, Z1e (by omega) (by omega), ?_⟩, fun c => absurd (by omega) c⟩
        rw [Z2n hin (by unfold maxLen; omega)]
        refine Z0r.mk [0, 1, 2, 8, 10, 13] (i + 2) (by simp) (by simp) ?_ (by show i + 2 ≤ l.length; omega) (by show l.length - (i + 2) < l.length - (i + 1); omega)
        simp only [State.can, AV.can, AV.canL, HO.can, Z0v, idx, Z03, Z00, Heap.at, Nat.reduceBEq, ↓reduceIte, Nat.reduceEqDiff, Option.getD_some, Option.map_some, List.map_cons, List.map_nil, List.getD_cons_zero, List.getD_cons_succ, newSt, etk, List.map_append, List.map_cons, List.map_nil, ep, ev, em]; rfl
    · have hat : (l.getD i default).atom = false := by simpa using hat
      have ep : rowStamps (pastX l[i]) = [.list [[.int .i64 0, .int .i64 1, .int .i64 (l.getD i default).init]] false] := by rw [← e]; unfold pastX; rw [hat]; rfl
      have ev : rowI (valX l[i]) = [.int .i64 0] := by rw [← e]; unfold valX; rw [hat]; rfl
      have em : rowRats (markX l.length l[i]) = [.list [] true] := by rw [← e]; unfold markX; rw [hat]; rfl
      cases i with
      | zero =>
        simp (maxSteps := 3000000) only [↓Z0g, ↓Z16, ↓Z04, ↓Z0p, ↓Z0f, ↓Z09, ↓Z1g, ↓Z0a, ↓Z0o, ↓Z1u, ↓Z14, ↓Z15, ↓Z0n, ↓Z3g, ↓Z30, ↓Z0c, ↓Z0b, Z2m, Z05, Z0q, Z17, Z1b, evN, Z0m, Z1a, Z24, Z0l, Z0e, Z0k, Z0w, evT, Opd.ev, Z03, Z00, Z18, Z2l, Z1k, Z0u, Z0x, Z0d, Z1t, LOp.isNew, State.prune, Z1j, Z1d, AV.leaf, Heap.at, Z06, Z0s, Z02, Z3w, Z07, Z01, LocG.row, Z1z, Int.reduceToNat, Z1x, Z43, Src.all, Src.len, Src.leaf, Z4i, Z4f, drows, List.take_of_length_le, Nat.sub_zero, Z2p, Z3a, Z32, binT, binQ, chk, Z2h, List.contains_cons, List.contains_nil, Bool.or_false, Bool.and_self, Z3t, Z3i, Z37, Z34, List.mem_cons, List.not_mem_nil, or_false, forall_eq, putRow, Z39, Z0t, Nat.le_refl, ↓reduceIte, Nat.reduceAdd, Nat.reduceBEq, List.length_cons, List.length_nil, List.replicate_succ, List.replicate_zero, List.nil_append, List.cons_append, List.append_nil, List.map_cons, List.map_nil, List.all_cons, List.all_nil, List.set_cons_zero, List.set_cons_succ, List.getD_cons_zero, List.getD_cons_succ, List.drop_zero, List.drop_succ_cons, List.take_succ_cons, List.take_zero, Bool.true_and, Bool.and_true, Bool.not_false, true_and, or_true, Option.bind_some, Option.map_some, false_implies, implies_true, and_self, Nat.reduceLT, Nat.reduceLeDiff, List.reverse_cons, List.reverse_nil, Nat.zero_add, Nat.add_zero, Bool.false_eq_true, newSt, Z02, Z01, hat, Option.bind_none]
        refine ⟨fun c => ⟨⟨by omega, by omega⟩, Z1e (by omega) (by omega), Z1e (by omega) (by omega), Z1e (by omega) (by omega), Z0r.ices [4] (Z0r.thaw 0 (Z0r.thaw 2 (Z0r.mk [0, 1, 2, 6, 8, 10] 1 (by simp) (by simp [State.thaw, ices_len]) ?_ (by show 1 ≤ l.length; omega) (by show l.length - 1 < l.length; omega))))⟩, fun c => absurd (by omega) c⟩
        simp only [State.can, AV.can, AV.canL, HO.can, Z0v, idx, Z03, Z00, Heap.at, Nat.reduceBEq, ↓reduceIte, Nat.reduceEqDiff, Option.getD_some, Option.map_some, List.map_cons, List.map_nil, List.getD_cons_zero, List.getD_cons_succ, newSt, etk, List.take_zero, List.nil_append, List.map_cons, List.map_nil, ep, ev, em, State.ices, State.ice, HO.data, iceEnv, Z42, HO.ice, AV.ice, AV.iceL, State.thaw, thaw_mkVec, Z33, Z3h, List.set_cons_zero, List.set_cons_succ, List.drop_zero, List.take_succ_cons, List.take_zero, List.length_cons, List.length_nil, Bool.not_true, Nat.zero_add, Nat.le_refl, and_self]; rfl
      | succ i =>
        have hlt : (List.take (i + 1) l).length = i + 1 := by rw [List.length_take]; omega
        have ht : ∀ {β : Type} (g : LocG → β), List.take (i + 1) (List.map g (List.take (i + 1) l)) = List.map g (List.take (i + 1) l) := fun g => List.take_of_length_le (by rw [List.length_map, hlt]; omega)
        simp (maxSteps := 3000000) only [↓Z0g, ↓Z16, ↓Z04, ↓Z0p, ↓Z0f, ↓Z09, ↓Z1g, ↓Z0a, ↓Z0o, ↓Z1u, ↓Z14, ↓Z15, ↓Z0n, ↓Z3g, ↓Z30, ↓Z0c, ↓Z0b, Z2m, Z05, Z0q, Z17, Z1b, evN, Z0m, Z1a, Z24, Z0l, Z0e, Z0k, Z0w, evT, Opd.ev, Z03, Z00, Z18, Z2l, Z1k, Z0u, Z0x, Z0d, Z1t, LOp.isNew, State.prune, Z1j, Z1d, AV.leaf, Heap.at, Z06, Z0s, Z02, Z3w, Z07, Z01, LocG.row, Z1z, Z3d, Int.toNat_natCast, Z1x, Z43, Src.all, Src.len, Src.leaf, Z4i, Z4f, drows, List.length_map, List.take_of_length_le, Z2p, Z3a, Z32, binT, binQ, chk, Z2h, List.contains_cons, List.contains_nil, Bool.or_false, Bool.and_self, Z3t, Z3i, Z37, Z34, List.mem_cons, List.not_mem_nil, or_false, forall_eq, putRow, Z39, Z0t, Nat.le_refl, ↓reduceIte, Nat.reduceAdd, Nat.reduceBEq, List.length_cons, List.length_nil, List.replicate_succ, List.replicate_zero, List.nil_append, List.cons_append, List.append_nil, List.map_cons, List.map_nil, List.all_cons, List.all_nil, List.set_cons_zero, List.set_cons_succ, List.getD_cons_zero, List.getD_cons_succ, List.drop_zero, List.drop_succ_cons, List.take_succ_cons, List.take_zero, Bool.true_and, Bool.and_true, Bool.not_false, true_and, Option.bind_some, Option.map_some, and_self, Nat.reduceLT, Nat.reduceLeDiff, List.reverse_cons, List.reverse_nil, Nat.zero_add, Nat.add_zero, Bool.false_eq_true, newSt, Z02, Z01, hat, Option.bind_none, hlt]
        refine ⟨fun c => ⟨⟨by omega, by omega⟩, Z1e (by omega) (by omega), Z1e (by omega) (by omega), Z1e (by omega) (by omega), ?_⟩, fun c => absurd (by omega) c⟩
        rw [Z2n hin (by unfold maxLen; omega)]
        refine Z0r.ices [7] (Z0r.thaw 0 (Z0r.thaw 2 (Z0r.mk [0, 1, 2, 9, 11, 13] (i + 2) (by simp) (by simp [State.thaw, ices_len]) ?_ (by show i + 2 ≤ l.length; omega) (by show l.length - (i + 2) < l.length - (i + 1); omega))))
        simp only [State.can, AV.can, AV.canL, HO.can, Z0v, idx, Z03, Z00, Heap.at, Nat.reduceBEq, ↓reduceIte, Nat.reduceEqDiff, Option.getD_some, Option.map_some, List.map_cons, List.map_nil, List.getD_cons_zero, List.getD_cons_succ, newSt, etk, List.map_append, List.map_cons, List.map_nil, ep, ev, em, mkVec_appd, State.ices, State.ice, HO.data, iceEnv, Z42, HO.ice, AV.ice, AV.iceL, State.thaw, thaw_mkVec, Z33, Z3h, iceRows_app, iceRows_d, List.set_cons_zero, List.set_cons_succ, List.drop_zero, List.take_succ_cons, List.take_zero, List.length_cons, List.length_nil, Bool.not_true, Nat.zero_add, Nat.le_refl, and_self]; rfl
  · have hil : i = l.length := by omega
    cases i with
    | zero =>
      have hl0 : l = [] := List.length_eq_zero_iff.1 hil.symm
      subst hl0
      simp (maxSteps := 3000000) only [↓Z0g, ↓Z16, ↓Z04, ↓Z0p, ↓Z0f, ↓Z09, ↓Z1g, ↓Z0a, ↓Z0o, ↓Z1u, ↓Z15, ↓Z0n, ↓Z30, ↓Z0b, Z2m, Z05, Z17, Z1b, evN, Z0m, Z1a, Z0l, Z0k, Z0w, evT, Opd.ev, Z03, Z00, Z18, Z0u, Z0x, Z0d, Z1t, LOp.isNew, State.prune, Nat.sub_zero, Z32, binT, binQ, Z0t, ↓reduceIte, Nat.reduceAdd, Nat.reduceBEq, List.length_cons, List.length_nil, List.replicate_succ, List.replicate_zero, List.nil_append, List.cons_append, List.append_nil, List.map_cons, List.map_nil, true_and, Nat.zero_add, Nat.add_zero, Bool.false_eq_true, newSt]
      refine ⟨fun c => absurd c (by simp), fun _ => ?_⟩
      refine Loop.fam [0, 4, 6, 73, 74] (frSt0 f t) (fun j => (j : Int) ≤ t) (fun j => t.toNat - j) 0 [0, 1, 2] (by simp) (by simp) (by simp only [State.can, AV.can, AV.canL, HO.can, Z0v, idx, Z03, Z00, Heap.at, Nat.reduceBEq, ↓reduceIte, Nat.reduceEqDiff, Option.getD_some, Option.map_some, List.map_cons, List.map_nil, List.getD_cons_zero, List.getD_cons_succ, frSt0, nobj]) (by show (0 : Int) ≤ t; omega) ?_
      intro j hj
      have hj : (j : Int) ≤ t := hj
      cases j with
      | zero =>
        simp (maxSteps := 3000000) only [↓Z0g, ↓Z10, ↓Z16, ↓Z04, ↓Z0p, ↓Z0f, ↓Z09, ↓Z0a, ↓Z0o, ↓Z1u, ↓Z14, ↓Z15, ↓Z0n, ↓Z1p, ↓Z3g, ↓Z30, ↓Z0b, Z2m, Z05, Z0q, Z17, Z1b, evN, Z19, Z0m, Z1a, Z24, Z0l, Z0e, Z0k, Z0w, evT, Opd.ev, Z03, Z00, Z18, Z2l, Z1k, Z0u, Z0x, Z0d, Z1t, LOp.isNew, State.prune, Z1j, Z1d, AV.leaf, Heap.at, Z06, Z02, Z07, Z01, Int.toNat_natCast, Z3x, Z1x, Z43, Src.all, Src.len, Src.leaf, Z4i, Z4f, drows, List.take_of_length_le, Nat.sub_zero, Z2p, Z3a, Z32, binT, binQ, chk, Z2h, List.contains_cons, List.contains_nil, Bool.or_false, Bool.and_self, resQ, resV, resT, Z13, Z1y, fnOf, Z1v, Z3u, Z37, Z34, List.mem_cons, List.not_mem_nil, or_false, forall_eq, putRow, Z39, Z0t, Nat.le_refl, ↓reduceIte, Nat.reduceAdd, Nat.reduceBEq, List.length_cons, List.length_nil, List.replicate_succ, List.replicate_zero, List.nil_append, List.cons_append, List.append_nil, List.map_cons, List.map_nil, List.all_cons, List.all_nil, List.set_cons_zero, List.set_cons_succ, List.getD_cons_zero, List.getD_cons_succ, List.drop_zero, List.drop_succ_cons, List.take_succ_cons, List.take_zero, List.flatten_cons, List.flatten_nil, Bool.true_and, Bool.not_false, true_and, or_true, Option.bind_some, Option.map_some, false_implies, implies_true, and_self, Nat.reduceLT, List.reverse_cons, List.reverse_nil, Nat.zero_add, Nat.add_zero, Bool.false_eq_true, frSt0, nobj, F2, G2, at_begin, Z02, Z01]
        refine ⟨fun c => ⟨⟨by omega, by omega⟩, Z1e (by omega) (by omega), Z0r.mk [0, 1, 2, 5] 1 (by simp) (by simp) (by simp only [State.can, AV.can, AV.canL, HO.can, Z0v, idx, Z03, Z00, Heap.at, Nat.reduceBEq, ↓reduceIte, Nat.reduceEqDiff, Option.getD_some, Option.map_some, List.map_cons, List.map_nil, List.getD_cons_zero, List.getD_cons_succ, frSt0, nobj]; rfl) (by show ((1 : Nat) : Int) ≤ t; omega) (by show t.toNat - 1 < t.toNat; omega)⟩, fun c => absurd (by omega) c⟩
      | succ j =>
        simp (maxSteps := 3000000) only [↓Z0g, ↓Z10, ↓Z16, ↓Z04, ↓Z0p, ↓Z0f, ↓Z09, ↓Z0a, ↓Z0o, ↓Z1u, ↓Z14, ↓Z15, ↓Z0n, ↓Z1p, ↓Z3g, ↓Z30, ↓Z0b, Z2m, Z05, Z0q, Z17, Z1b, evN, Z19, Z0m, Z1a, Z24, Z0l, Z0e, Z0k, Z0w, evT, Opd.ev, Z03, Z00, Z18, Z2l, Z1k, Z0u, Z0x, Z0d, Z1t, LOp.isNew, State.prune, Z1j, Z1d, AV.leaf, Heap.at, Z06, Z02, Z07, Z01, Int.toNat_natCast, Z3x, Z1x, Z43, Src.all, Src.len, Src.leaf, Z4i, Z4f, drows, List.length_map, List.take_of_length_le, Z2p, Z3a, Z32, binT, binQ, chk, Z2h, List.contains_cons, List.contains_nil, Bool.or_false, Bool.and_self, resQ, resV, resT, Z13, Z1y, fnOf, Z1v, Z3u, Z37, Z34, List.mem_cons, List.not_mem_nil, or_false, forall_eq, putRow, Z39, Z0t, Nat.le_refl, ↓reduceIte, Nat.reduceAdd, Nat.reduceBEq, List.length_cons, List.length_nil, List.replicate_succ, List.replicate_zero, List.nil_append, List.cons_append, List.append_nil, List.map_cons, List.map_nil, List.all_cons, List.all_nil, List.set_cons_zero, List.set_cons_succ, List.getD_cons_zero, List.getD_cons_succ, List.drop_zero, List.drop_succ_cons, List.take_succ_cons, List.take_zero, List.flatten_cons, List.flatten_nil, Bool.true_and, Bool.not_false, true_and, Option.bind_some, Option.map_some, and_self, Nat.reduceLT, List.reverse_cons, List.reverse_nil, Nat.zero_add, Nat.add_zero, Bool.false_eq_true, frSt0, nobj, F2, G2, at_begin, Z02, Z01, frontX_len]
        have ew : IntKind.i64.wrap (((j + 1 : Nat) : Int) + 1) = ((j + 2 : Nat) : Int) := by
          have := @Z2n (j + 1) 4 (by omega) (by unfold maxLen; omega)
          exact this
        refine ⟨fun c => ⟨⟨by omega, by omega⟩, Z1e (by omega) (by omega), ?_⟩, fun c => ?_⟩
        · rw [ew]
          refine Z0r.mk [0, 1, 2, 6] (j + 2) (by simp) (by simp) ?_ (by show ((j + 2 : Nat) : Int) ≤ t; omega) (by show t.toNat - (j + 2) < t.toNat - (j + 1); omega)
          simp only [State.can, AV.can, AV.canL, HO.can, Z0v, idx, Z03, Z00, Heap.at, Nat.reduceBEq, ↓reduceIte, Nat.reduceEqDiff, Option.getD_some, Option.map_some, List.map_cons, List.map_nil, List.getD_cons_zero, List.getD_cons_succ, frSt0, nobj, frontX_succ 0 (j + 1)]
        · have et : t.toNat = j + 1 := by omega
          rw [← hX, ok1, ok2, et]
          simp only [RetD, AV.frz, AV.frzL, Heap.at, List.getD_cons_zero, List.getD_cons_succ, Nat.zero_add, Nat.le_refl, List.length_map, List.length_nil, frontX_len, and_self, if_true, List.drop_zero, Z11, List.take_length, Nat.le_zero_eq, frontX_take]
          rfl
    | succ i =>
      have hlt : List.take (i + 1) l = l := by rw [hil]; exact List.take_length
      have htk : ∀ {β : Type} (g : LocG → β), List.take l.length (List.map g l) = List.map g l := fun g => List.take_of_length_le (by rw [List.length_map]; omega)
      simp (maxSteps := 3000000) only [↓Z0g, ↓Z16, ↓Z04, ↓Z0p, ↓Z0f, ↓Z09, ↓Z1g, ↓Z0a, ↓Z0o, ↓Z1u, ↓Z15, ↓Z0n, ↓Z30, ↓Z0b, Z2m, Z05, Z17, Z1b, evN, Z0m, Z1a, Z24, Z0l, Z0e, Z0k, Z0w, evT, Opd.ev, Z03, Z00, Z18, Z2l, Z1k, Z0u, Z0x, Z0d, Z1t, LOp.isNew, State.prune, Z1j, Z1d, AV.leaf, Heap.at, Z06, Z0s, Z02, Z3w, Z07, Z01, LocG.row, Z1z, Int.toNat_natCast, Z1x, Z43, Src.all, Src.len, Src.leaf, Z4i, Z4f, drows, List.length_map, Z11, List.take_of_length_le, Z2p, Z3a, Z32, binT, binQ, Bool.and_self, Z3t, Z3i, Z37, Z34, putRow, Z39, Z0t, Nat.le_refl, ↓reduceIte, Nat.reduceAdd, Nat.reduceBEq, List.length_cons, List.length_nil, List.replicate_succ, List.replicate_zero, List.nil_append, List.cons_append, List.append_nil, List.map_cons, List.map_nil, List.all_cons, List.all_nil, List.set_cons_zero, List.set_cons_succ, List.getD_cons_zero, List.getD_cons_succ, List.drop_zero, List.drop_succ_cons, List.take_succ_cons, List.take_zero, true_and, Option.bind_some, Option.map_some, and_self, Nat.reduceLT, Nat.reduceLeDiff, Nat.zero_add, Nat.add_zero, Bool.false_eq_true, newSt, Z02, Z01, Option.bind_none, hlt]
      refine ⟨fun c => absurd c (by omega), fun _ => ?_⟩
      refine Loop.fam [0, 4, 6, 73, 74] (frSt l f t) (fun j => (j : Int) ≤ t) (fun j => t.toNat - j) 0 [0, 1, 2, 3, 4, 5] (by simp) (by simp) (by simp only [State.can, AV.can, AV.canL, HO.can, Z0v, idx, Z03, Z00, Heap.at, Nat.reduceBEq, ↓reduceIte, Nat.reduceEqDiff, Option.getD_some, Option.map_some, List.map_cons, List.map_nil, List.getD_cons_zero, List.getD_cons_succ, frSt, nobj, hil]) (by show (0 : Int) ≤ t; omega) ?_
      intro j hj
      have hj : (j : Int) ≤ t := hj
      cases j with
      | zero =>
        simp (maxSteps := 3000000) only [↓Z0g, ↓Z10, ↓Z16, ↓Z04, ↓Z0p, ↓Z0f, ↓Z09, ↓Z0a, ↓Z0o, ↓Z1u, ↓Z14, ↓Z15, ↓Z0n, ↓Z1p, ↓Z3g, ↓Z30, ↓Z0b, Z2m, Z05, Z0q, Z17, Z1b, evN, Z19, Z0m, Z1a, Z24, Z0l, Z0e, Z0k, Z0w, evT, Opd.ev, Z03, Z00, Z18, Z2l, Z1k, Z0u, Z0x, Z0d, Z1t, LOp.isNew, State.prune, Z1j, Z1d, AV.leaf, Heap.at, Z06, Z02, Z07, Z01, Int.toNat_natCast, Z3x, Z1x, Z43, Src.all, Src.len, Src.leaf, Z4i, Z4f, drows, List.length_map, List.take_of_length_le, Nat.sub_zero, Z2p, Z3a, Z32, binT, binQ, chk, Z2h, List.contains_cons, List.contains_nil, Bool.or_false, Bool.and_self, resQ, resV, resT, Z13, Z1y, fnOf, Z1v, Z3u, Z37, Z34, List.mem_cons, List.not_mem_nil, or_false, forall_eq, putRow, Z39, Z0t, Nat.le_refl, ↓reduceIte, Nat.reduceAdd, Nat.reduceBEq, List.length_cons, List.length_nil, List.replicate_succ, List.replicate_zero, List.nil_append, List.cons_append, List.append_nil, List.map_cons, List.map_nil, List.all_cons, List.all_nil, List.set_cons_zero, List.set_cons_succ, List.getD_cons_zero, List.getD_cons_succ, List.drop_zero, List.drop_succ_cons, List.take_succ_cons, List.take_zero, List.flatten_cons, List.flatten_nil, Bool.true_and, Bool.not_false, true_and, or_true, Option.bind_some, Option.map_some, false_implies, implies_true, and_self, Nat.reduceLT, List.reverse_cons, List.reverse_nil, Nat.zero_add, Nat.add_zero, Bool.false_eq_true, frSt, nobj, F2, G2, at_begin, Z02, Z01]
        refine ⟨fun c => ⟨⟨by omega, by omega⟩, Z1e (by omega) (by omega), Z0r.mk [0, 1, 2, 3, 4, 5, 8] 1 (by simp) (by simp) (by simp only [State.can, AV.can, AV.canL, HO.can, Z0v, idx, Z03, Z00, Heap.at, Nat.reduceBEq, ↓reduceIte, Nat.reduceEqDiff, Option.getD_some, Option.map_some, List.map_cons, List.map_nil, List.getD_cons_zero, List.getD_cons_succ, frSt, nobj]; rfl) (by show ((1 : Nat) : Int) ≤ t; omega) (by show t.toNat - 1 < t.toNat; omega)⟩, fun c => absurd (by omega) c⟩
      | succ j =>
        simp (maxSteps := 3000000) only [↓Z0g, ↓Z10, ↓Z16, ↓Z04, ↓Z0p, ↓Z0f, ↓Z09, ↓Z0a, ↓Z0o, ↓Z1u, ↓Z14, ↓Z15, ↓Z0n, ↓Z1p, ↓Z3g, ↓Z30, ↓Z0b, Z2m, Z05, Z0q, Z17, Z1b, evN, Z19, Z0m, Z1a, Z24, Z0l, Z0e, Z0k, Z0w, evT, Opd.ev, Z03, Z00, Z18, Z2l, Z1k, Z0u, Z0x, Z0d, Z1t, LOp.isNew, State.prune, Z1j, Z1d, AV.leaf, Heap.at, Z06, Z02, Z07, Z01, Int.toNat_natCast, Z3x, Z1x, Z43, Src.all, Src.len, Src.leaf, Z4i, Z4f, drows, List.length_map, List.take_of_length_le, Z2p, Z3a, Z32, binT, binQ, chk, Z2h, List.contains_cons, List.contains_nil, Bool.or_false, Bool.and_self, resQ, resV, resT, Z13, Z1y, fnOf, Z1v, Z3u, Z37, Z34, List.mem_cons, List.not_mem_nil, or_false, forall_eq, putRow, Z39, Z0t, Nat.le_refl, ↓reduceIte, Nat.reduceAdd, Nat.reduceBEq, List.length_cons, List.length_nil, List.replicate_succ, List.replicate_zero, List.nil_append, List.cons_append, List.append_nil, List.map_cons, List.map_nil, List.all_cons, List.all_nil, List.set_cons_zero, List.set_cons_succ, List.getD_cons_zero, List.getD_cons_succ, List.drop_zero, List.drop_succ_cons, List.take_succ_cons, List.take_zero, List.flatten_cons, List.flatten_nil, Bool.true_and, Bool.not_false, true_and, Option.bind_some, Option.map_some, and_self, Nat.reduceLT, List.reverse_cons, List.reverse_nil, Nat.zero_add, Nat.add_zero, Bool.false_eq_true, frSt, nobj, F2, G2, at_begin, Z02, Z01, frontX_len]
        have ew : IntKind.i64.wrap (((j + 1 : Nat) : Int) + 1) = ((j + 2 : Nat) : Int) := by
          have := @Z2n (j + 1) 4 (by omega) (by unfold maxLen; omega)
          exact this
        refine ⟨fun c => ⟨⟨by omega, by omega⟩, Z1e (by omega) (by omega), ?_⟩, fun c => ?_⟩
        · rw [ew]
          refine Z0r.mk [0, 1, 2, 3, 4, 5, 9] (j + 2) (by simp) (by simp) ?_ (by show ((j + 2 : Nat) : Int) ≤ t; omega) (by show t.toNat - (j + 2) < t.toNat - (j + 1); omega)
          simp only [State.can, AV.can, AV.canL, HO.can, Z0v, idx, Z03, Z00, Heap.at, Nat.reduceBEq, ↓reduceIte, Nat.reduceEqDiff, Option.getD_some, Option.map_some, List.map_cons, List.map_nil, List.getD_cons_zero, List.getD_cons_succ, frSt, nobj, frontX_succ l.length (j + 1)]
        · have et : t.toNat = j + 1 := by omega
          rw [← hX, ok1, ok2, et]
          simp only [RetD, AV.frz, AV.frzL, Heap.at, List.getD_cons_zero, List.getD_cons_succ, Nat.zero_add, Nat.le_refl, List.length_map, List.length_nil, frontX_len, and_self, if_true, List.drop_zero, Z11, List.take_length, Nat.le_zero_eq, frontX_take, htk]
          rfl
end Go.Ago

/- The laws of layer 1, as bodies that answer true. Conditions: none. -/
set_option maxRecDepth 100000
set_option linter.unusedSimpArgs false
set_option linter.unusedVariables false
namespace Go.Ago


/-! ### The plain laws -/
theorem cmp_eq {a b c d : Int} (h1 : Z47 a b = true) (h2 : Z47 c d = true) : rat_cmp a b c d = sgn (a * d - c * b) := by simp [rat_cmp, h1, h2]

theorem sgn_mul {d x : Int} (h : 0 < d) : sgn (d * x) = sgn x := by
  unfold sgn
  rcases Int.lt_trichotomy x 0 with hx | hx | hx
  · have := Int.mul_neg_of_pos_of_neg h hx
    rw [if_pos this, if_pos hx]
  · subst hx; simp
  · have := Int.mul_pos h hx
    rw [if_neg (by omega), if_pos this, if_neg (by omega), if_pos hx]

theorem sgn_nonpos {x : Int} : sgn x ≤ 0 ↔ x ≤ 0 := by unfold sgn; split <;> (try split) <;> omega
theorem sgn_zero {x : Int} : sgn x = 0 ↔ x = 0 := by unfold sgn; split <;> (try split) <;> omega
/-- From a first to a second to a third. -/
theorem cross {a b c d e f : Int} (hb : 0 < b) (hd : 0 < d) (hf : 0 < f) (h1 : a * d ≤ c * b) (h2 : c * f ≤ e * d) : a * f ≤ e * b := by
  have e1 : a * d * f ≤ c * b * f := Int.mul_le_mul_of_nonneg_right h1 (by omega)
  have e2 : c * f * b ≤ e * d * b := Int.mul_le_mul_of_nonneg_right h2 (by omega)
  have e3 : c * b * f = c * f * b := by rw [Int.mul_assoc, Int.mul_comm b f, ← Int.mul_assoc]
  have e4 : a * d * f = d * (a * f) := by rw [Int.mul_comm a d, Int.mul_assoc]
  have e5 : e * d * b = d * (e * b) := by rw [Int.mul_comm e d, Int.mul_assoc]
  exact Int.le_of_mul_le_mul_left (by omega : d * (a * f) ≤ d * (e * b)) hd

theorem cmp_alike {a b c d e f : Int} (h1 : Z47 a b = true) (h2 : Z47 c d = true) (h3 : Z47 e f = true) (h : rat_cmp a b c d = 0) : rat_cmp a b e f = rat_cmp c d e f := by
  obtain ⟨r1, r2, r3, r4⟩ := right_iff.1 h1
  obtain ⟨s1, s2, s3, s4⟩ := right_iff.1 h2
  rw [cmp_eq h1 h2, sgn_zero] at h
  rw [cmp_eq h1 h3, cmp_eq h2 h3, ← sgn_mul (d := d) (x := a * f - e * b) (by omega), ← sgn_mul (d := b) (x := c * f - e * d) (by omega)]
  congr 1
  have e1 : d * (a * f) = f * (a * d) := by rw [← Int.mul_assoc, Int.mul_comm d a, Int.mul_comm]
  have e2 : b * (c * f) = f * (c * b) := by rw [← Int.mul_assoc, Int.mul_comm b c, Int.mul_comm]
  have e3 : d * (e * b) = b * (e * d) := by rw [Int.mul_comm d, Int.mul_comm b, Int.mul_assoc, Int.mul_assoc, Int.mul_comm b]
  have e4 : a * d = c * b := by omega
  rw [Int.mul_sub, Int.mul_sub, e1, e2, e3, e4]

/-- A moment and what it is lessened to. -/
theorem least_spec {a b : Int} (h : Z47 a b = true) : ∃ g A B, 0 < g ∧ 0 < B ∧ Z41 a b = (A, B) ∧ a = g * A ∧ b = g * B ∧ Nat.gcd A.natAbs B.natAbs = 1 := by
  obtain ⟨r1, r2, r3, r4⟩ := right_iff.1 h
  have g0 := gcdI_pos (a := a) (b := b) (by omega)
  have ha : gcdI a b ∣ a := Int.ofNat_dvd_left.2 (Nat.gcd_dvd_left _ _)
  have hbd : gcdI a b ∣ b := Int.ofNat_dvd_left.2 (Nat.gcd_dvd_right _ _)
  have hl : Z41 a b = (a.tdiv (gcdI a b), b.tdiv (gcdI a b)) := by simp [Z41, h]
  have hg : gcdI a b = (Nat.gcd a.natAbs b.natAbs : Nat) := rfl
  rw [hl]
  generalize gcdI a b = g at *
  obtain ⟨A, rfl⟩ := ha
  obtain ⟨B, rfl⟩ := hbd
  refine ⟨g, A, B, g0, ?_, by rw [Int.mul_tdiv_cancel_left _ (by omega), Int.mul_tdiv_cancel_left _ (by omega)], rfl, rfl, ?_⟩
  · by_cases h : 0 < B
    · exact h
    · have := Int.mul_nonpos_of_nonneg_of_nonpos (Int.le_of_lt g0) (show B ≤ 0 by omega); omega
  · rw [Int.natAbs_mul, Int.natAbs_mul, Nat.gcd_mul_left] at hg
    have : g.natAbs * Nat.gcd A.natAbs B.natAbs = g.natAbs * 1 := by
      have : ((g.natAbs * Nat.gcd A.natAbs B.natAbs : Nat) : Int) = (g.natAbs : Nat) := by rw [← hg]; omega
      omega
    exact Nat.eq_of_mul_eq_mul_left (by omega) this

theorem least_right {a b : Int} (h : Z47 a b = true) : Z47 (Z41 a b).1 (Z41 a b).2 = true := by
  obtain ⟨r1, r2, r3, r4⟩ := right_iff.1 h
  obtain ⟨l1, l2, l3⟩ := least_bd h
  exact right_iff.2 ⟨by omega, by omega, by omega, by omega⟩

theorem least_cmp {a b : Int} (h : Z47 a b = true) : rat_cmp (Z41 a b).1 (Z41 a b).2 a b = 0 := by
  rw [cmp_eq (least_right h) h, sgn_zero]
  obtain ⟨g, A, B, hg, hB, hl, ha, hb, _⟩ := least_spec h
  rw [hl]
  show A * b - a * B = 0
  rw [ha, hb, Int.mul_comm g A, Int.mul_assoc]; omega

theorem least_one {a b c d : Int} (h1 : Z47 a b = true) (h2 : Z47 c d = true) : rat_cmp a b c d = 0 ↔ Z41 a b = Z41 c d := by
  have k1 := least_cmp h1
  have k2 := least_cmp h2
  obtain ⟨g, A, B, hg, hB, hl, ha, hb, hc⟩ := least_spec h1
  obtain ⟨g', C, D, hg', hD, hl', ha', hb', hc'⟩ := least_spec h2
  constructor
  · intro h
    rw [cmp_eq h1 h2, sgn_zero] at h
    rw [hl, hl']
    have h3 : g * g' * (A * D) = g * g' * (C * B) := by
      have e1 : a * d = g * g' * (A * D) := by rw [ha, hb', Int.mul_assoc, Int.mul_assoc, Int.mul_left_comm A]
      have e2 : c * b = g * g' * (C * B) := by rw [ha', hb, Int.mul_comm (g' * C), Int.mul_assoc, Int.mul_assoc, Int.mul_left_comm B, Int.mul_comm B]
      omega
    have hgg := Int.mul_pos hg hg'
    have h4 : A * D = C * B := Int.eq_of_mul_eq_mul_left (by omega) h3
    have d1 : B ∣ D := by
      have : B ∣ A * D := ⟨C, by rw [h4, Int.mul_comm]⟩
      have := Int.natAbs_dvd_natAbs.2 this
      rw [Int.natAbs_mul] at this
      exact Int.natAbs_dvd_natAbs.1 (Nat.Coprime.dvd_of_dvd_mul_left (by rw [Nat.Coprime, Nat.gcd_comm]; exact hc) this)
    have d2 : D ∣ B := by
      have : D ∣ C * B := ⟨A, by rw [← h4, Int.mul_comm]⟩
      have := Int.natAbs_dvd_natAbs.2 this
      rw [Int.natAbs_mul] at this
      exact Int.natAbs_dvd_natAbs.1 (Nat.Coprime.dvd_of_dvd_mul_left (by rw [Nat.Coprime, Nat.gcd_comm]; exact hc') this)
    have hBD : B = D := Int.le_antisymm (Int.le_of_dvd hD d1) (Int.le_of_dvd hB d2)
    subst hBD
    have : A = C := Int.eq_of_mul_eq_mul_right (by omega) h4
    rw [this]
  · intro h
    rw [cmp_eq h1 h2, sgn_zero]
    rw [hl, hl'] at h
    cases h
    have e1 : a * d = g * g' * (A * B) := by rw [ha, hb', Int.mul_assoc, Int.mul_assoc, Int.mul_left_comm A]
    have e2 : c * b = g * g' * (A * B) := by rw [ha', hb, Int.mul_comm (g' * A), Int.mul_assoc, Int.mul_assoc, Int.mul_left_comm B, Int.mul_comm B]
    omega

end Go.Ago

/- Memories in plain words: what a step Z1t. Conditions: none. -/
set_option maxRecDepth 100000
set_option linter.unusedSimpArgs false
set_option linter.unusedVariables false
namespace Go.Ago
/-! ### Moments -/
theorem rightQ_iff {a : RatG} : Z4l a = true ↔ 1 ≤ a.den ∧ a.den ≤ 1024 ∧ -1048576 ≤ a.num ∧ a.num ≤ 1048576 := right_iff
theorem cmpQ_eq {a b : RatG} (h1 : Z4l a = true) (h2 : Z4l b = true) : cmpQ' a b = sgn (a.num * b.den - b.num * a.den) := cmp_eq h1 h2
theorem cmpQ_anti (a b : RatG) : cmpQ' b a = - cmpQ' a b := cmp_swap _ _ _ _
theorem cmpQ_le {a b : RatG} (h1 : Z4l a = true) (h2 : Z4l b = true) : cmpQ' a b ≤ 0 ↔ a.num * b.den ≤ b.num * a.den := by
  rw [cmpQ_eq h1 h2, sgn_nonpos]; omega
theorem cmpQ_trans {a b c : RatG} (h1 : Z4l a = true) (h2 : Z4l b = true) (h3 : Z4l c = true) (h : cmpQ' a b ≤ 0) (h' : cmpQ' b c ≤ 0) : cmpQ' a c ≤ 0 := by
  rw [cmpQ_le h1 h2] at h; rw [cmpQ_le h2 h3] at h'; rw [cmpQ_le h1 h3]
  have r1 := rightQ_iff.1 h1; have r2 := rightQ_iff.1 h2; have r3 := rightQ_iff.1 h3
  exact cross (by omega) (by omega) (by omega) h h'
theorem cmpQ_lt_le {a b c : RatG} (h1 : Z4l a = true) (h2 : Z4l b = true) (h3 : Z4l c = true) (h : cmpQ' a b < 0) (h' : cmpQ' b c ≤ 0) : cmpQ' a c < 0 := by
  by_cases hc : cmpQ' a c < 0
  · exact hc
  · have := cmpQ_trans h2 h3 h1 h' (by rw [cmpQ_anti]; omega)
    rw [cmpQ_anti] at this; omega
theorem leastQ_right {a : RatG} (h : Z4l a = true) : Z4l (leastQ a) = true := least_right h
theorem leastQ_cmp {a : RatG} (h : Z4l a = true) : cmpQ' (leastQ a) a = 0 := least_cmp h
theorem cmpQ_alike {a b c : RatG} (h1 : Z4l a = true) (h2 : Z4l b = true) (h3 : Z4l c = true) (h : cmpQ' a b = 0) : cmpQ' a c = cmpQ' b c := cmp_alike h1 h2 h3 h
theorem cmpQ_alike' {a b c : RatG} (h1 : Z4l a = true) (h2 : Z4l b = true) (h3 : Z4l c = true) (h : cmpQ' a b = 0) : cmpQ' c a = cmpQ' c b := by
  rw [cmpQ_anti, cmpQ_anti b c, cmpQ_alike h1 h2 h3 h]
theorem ratMaxG_eq (x y : RatG) : ratMaxG x y = if cmpQ' x y < 0 then y else x := by
  unfold ratMaxG rat_max cmpQ'; split <;> rfl
theorem ratMaxG_right {x y : RatG} (h1 : Z4l x = true) (h2 : Z4l y = true) : Z4l (ratMaxG x y) = true := by rw [ratMaxG_eq]; split <;> assumption
/-! ### Stamps by rising moments -/
structure Rising (l : List StampG) : Prop where
  right : ∀ s ∈ l, Z4l s.when = true
  rise : l.Pairwise fun s t => cmpQ' s.when t.when < 0
theorem bsGo_split {p : Nat → Bool} {n : Nat} (hp : ∀ i j, i ≤ j → j < n → p j = true → p i = true) : ∀ (f i j : Nat), i ≤ j → j ≤ n → j - i ≤ f → (∀ k, k < i → p k = true) → (∀ k, j ≤ k → k < n → p k = false) →
    (∀ k, k < bsGo p f i j → p k = true) ∧ (∀ k, bsGo p f i j ≤ k → k < n → p k = false) := by
  intro f
  induction f with
  | zero =>
    intro i j hij hjn hf h1 h2
    have : i = j := by omega
    subst this
    exact ⟨h1, h2⟩
  | succ f ih =>
    intro i j hij hjn hf h1 h2
    simp only [bsGo]
    split
    · rename_i hlt
      split
      · rename_i hm
        refine ih _ _ (by omega) hjn (by omega) (fun k hk => ?_) h2
        exact hp k _ (by omega) (by omega) hm
      · rename_i hm
        refine ih _ _ (by omega) (by omega) (by omega) h1 (fun k hk hn => ?_)
        by_cases hk2 : p k = true
        · exact absurd (hp _ _ hk hn hk2) hm
        · simpa using hk2
    · have : i = j := by omega
      subst this
      exact ⟨h1, h2⟩
theorem Rising.get {l : List StampG} (h : Rising l) {i : Nat} (hi : i < l.length) : Z4l (l.getD i default).when = true := by
  rw [Z3z hi]; exact h.right _ (List.getElem_mem _)
theorem Rising.lt {l : List StampG} (h : Rising l) {i j : Nat} (hij : i < j) (hj : j < l.length) : cmpQ' (l.getD i default).when (l.getD j default).when < 0 := by
  rw [Z3z hj, Z3z (by omega : i < l.length)]
  exact List.pairwise_iff_getElem.1 h.rise i j (by omega) hj hij
theorem bs_split {l : List StampG} {w : RatG} (h : Rising l) (hw : Z4l w = true) : (∀ k, k < bsAt l w → cmpQ' (l.getD k default).when w < 0) ∧ (∀ k, bsAt l w ≤ k → k < l.length → 0 ≤ cmpQ' (l.getD k default).when w) := by
  have hs : ∀ k, stampLess l w k = decide (cmpQ' (l.getD k default).when w < 0) := fun _ => rfl
  have := bsGo_split (p := stampLess l w) (n := l.length) (fun i j hij hj hp => by
    rw [hs] at hp ⊢
    simp only [decide_eq_true_eq] at hp ⊢
    rcases Nat.lt_or_eq_of_le hij with h' | h'
    · exact cmpQ_lt_le (h.get (by omega)) (h.get hj) hw (h.lt h' hj) (by omega)
    · rw [h']; exact hp) l.length 0 l.length (by omega) (by omega) (by omega) (by omega) (by omega)
  refine ⟨fun k hk => ?_, fun k hk hk2 => ?_⟩
  · have := this.1 k hk
    rw [hs] at this; simpa using this
  · have := this.2 k hk hk2
    rw [hs] at this; simpa using this
theorem bsHas_true {l : List StampG} {w : RatG} (hb : bsHas l w = true) : bsAt l w < l.length ∧ cmpQ' (l.getD (bsAt l w) default).when w = 0 := by
  unfold bsHas at hb
  simp only [Bool.and_eq_true, decide_eq_true_eq] at hb
  exact hb
theorem bsHas_of {l : List StampG} {w : RatG} (h : Rising l) (hw : Z4l w = true) {k : Nat} (hk : k < l.length) (hc : cmpQ' (l.getD k default).when w = 0) : bsHas l w = true ∧ bsAt l w = k := by
  obtain ⟨h1, h2⟩ := bs_split h hw
  have hle : bsAt l w ≤ k := by
    by_cases hlt : k < bsAt l w
    · have := h1 k hlt; omega
    · omega
  have he : bsAt l w = k := by
    rcases Nat.lt_or_eq_of_le hle with hlt | he
    · have g1 := h2 _ (Nat.le_refl _) (by omega)
      have g2 := cmpQ_lt_le (h.get (by omega)) (h.get hk) hw (h.lt hlt hk) (by omega)
      omega
    · exact he
  refine ⟨?_, he⟩
  unfold bsHas
  rw [he]
  simp only [Bool.and_eq_true, decide_eq_true_eq]
  exact ⟨hk, hc⟩
theorem bsHas_false {l : List StampG} {w : RatG} (h : Rising l) (hw : Z4l w = true) (hb : bsHas l w = false) {k : Nat} (hk : k < l.length) : cmpQ' (l.getD k default).when w ≠ 0 := fun hc => by
  rw [(bsHas_of h hw hk hc).1] at hb; cases hb
theorem mem_getD {α : Type} [Inhabited α] {l : List α} {x : α} (h : x ∈ l) : ∃ k, k < l.length ∧ l.getD k default = x := by
  obtain ⟨k, hk, rfl⟩ := List.getElem_of_mem h
  exact ⟨k, hk, Z3z hk⟩
theorem ins_rising {l : List StampG} {w : RatG} {v : Int} (h : Rising l) (hw : Z4l w = true) (hb : bsHas l w = false) : Rising (insG l (bsAt l w) ⟨leastQ w, v⟩) := by
  obtain ⟨h1, h2⟩ := bs_split h hw
  have hl := leastQ_right hw
  have hc := leastQ_cmp hw
  have hle := bsAt_le l w
  have pre : ∀ s ∈ l.take (bsAt l w), Z4l s.when = true ∧ cmpQ' s.when (leastQ w) < 0 := fun s hs => by
    obtain ⟨k, hk, rfl⟩ := mem_getD hs
    rw [List.length_take] at hk
    have e : (List.take (bsAt l w) l).getD k default = l.getD k default := by
      rw [Z3z (by rw [List.length_take]; exact hk), Z3z (by omega : k < l.length), List.getElem_take]
    rw [e]
    have r := h.get (show k < l.length by omega)
    exact ⟨r, by rw [cmpQ_alike' hl hw r hc]; exact h1 k (by omega)⟩
  have post : ∀ s ∈ l.drop (bsAt l w), Z4l s.when = true ∧ cmpQ' (leastQ w) s.when < 0 := fun s hs => by
    obtain ⟨k, hk, rfl⟩ := mem_getD hs
    rw [List.length_drop] at hk
    have e : (List.drop (bsAt l w) l).getD k default = l.getD (bsAt l w + k) default := by
      rw [Z3z (by rw [List.length_drop]; exact hk), Z3z (by omega : bsAt l w + k < l.length), List.getElem_drop]
    rw [e]
    have hk' : bsAt l w + k < l.length := by omega
    have r := h.get hk'
    have g1 := h2 _ (Nat.le_add_right _ k) hk'
    have g2 := bsHas_false h hw hb hk'
    exact ⟨r, by rw [cmpQ_alike hl hw r hc, cmpQ_anti]; omega⟩
  refine ⟨fun s hs => ?_, ?_⟩
  · unfold insG at hs
    rcases List.mem_append.1 hs with hs | hs
    · exact (pre s hs).1
    · rcases List.mem_cons.1 hs with rfl | hs
      · exact hl
      · exact (post s hs).1
  · unfold insG
    rw [List.pairwise_append]
    refine ⟨h.rise.sublist (List.take_sublist _ _), List.pairwise_cons.2 ⟨fun s hs => (post s hs).2, h.rise.sublist (List.drop_sublist _ _)⟩, fun a ha b hb' => ?_⟩
    rcases List.mem_cons.1 hb' with rfl | hb'
    · exact (pre a ha).2
    · exact cmpQ_lt_le (pre a ha).1 hl (post b hb').1 (pre a ha).2 (Int.le_of_lt (post b hb').2)
/-! ### Memories in order -/
structure Mem.Good (b : Nat) (m : Mem) : Prop where
  wf : m.Wf b
  rising : ∀ r ∈ m.past, Rising r
  frontsR : ∀ r ∈ m.fronts, ∀ q ∈ r, Z4l q = true
  marksR : ∀ r ∈ m.marks, ∀ q ∈ r, Z4l q = true
theorem Mem.Wf.mono {b b' : Nat} {m : Mem} (h : m.Wf b) (hb : b ≤ b') : m.Wf b' := ⟨h.locs, h.past, h.vals, h.marks, h.fronts, fun r hr => Nat.le_trans (h.pasts r hr) hb, h.marksL, h.marksA, h.frontsL⟩
theorem Mem.Good.mono {b b' : Nat} {m : Mem} (h : m.Good b) (hb : b ≤ b') : m.Good b' := ⟨h.wf.mono hb, h.rising, h.frontsR, h.marksR⟩
theorem good_iff {m : Mem} {s : StepG} : goodQ m s = true ↔ 0 ≤ s.thread ∧ s.thread < m.fronts.length ∧ s.act.right m.locs = true ∧ (isPl s.act.kind = true → Z4l s.when = true) ∧ (isPl s.act.kind = false → s.when = ⟨0, 0⟩) := by
  unfold goodQ
  cases h : isPl s.act.kind <;> simp [and_assoc]
theorem doErr_good {m : Mem} {s : StepG} (h : doErr m s = 0) : goodQ m s = true := by
  unfold doErr at h
  split at h
  · cases h
  · rename_i hg; simpa using hg
theorem joinG_get {a b : List RatG} {k : Nat} (h : k < a.length) : (joinG a b).getD k default = ratMaxG (a.getD k default) (b.getD k default) := by
  rw [Z3z (by rw [joinG_len]; exact h)]; unfold joinG; simp
theorem joinG_right {a b : List RatG} (hl : a.length ≤ b.length) (ha : ∀ q ∈ a, Z4l q = true) (hb : ∀ q ∈ b, Z4l q = true) : ∀ q ∈ joinG a b, Z4l q = true := by
  intro q hq
  obtain ⟨k, hk, rfl⟩ := mem_getD hq
  rw [joinG_len] at hk
  rw [joinG_get hk, Z3z hk, Z3z (by omega : k < b.length)]
  exact ratMaxG_right (ha _ (List.getElem_mem _)) (hb _ (List.getElem_mem _))
theorem right_locQ {k o q v : Int} {l : List LocG} (hk : isPl k = true ∨ isAt k = true) (h : ActG.right ⟨k, o, q, v⟩ l = true) : 0 ≤ o ∧ o < l.length :=
  right_bounds (by rintro rfl; rcases hk with hk | hk <;> revert hk <;> decide) h
theorem mem_set {α : Type} {l : List α} {i : Nat} {x y : α} (h : y ∈ l.set i x) : y ∈ l ∨ (y = x ∧ i < l.length) := by
  rcases List.mem_or_eq_of_mem_set h with h' | rfl
  · exact .inl h'
  · by_cases hi : i < l.length
    · exact .inr ⟨rfl, hi⟩
    · rw [List.set_eq_of_length_le (by omega)] at h; exact .inl h
theorem getD_mem {α : Type} {l : List α} {i : Nat} {d : α} (h : i < l.length) : l.getD i d ∈ l := by
  rw [List.getD_eq_getElem?_getD, List.getElem?_eq_getElem h]; exact List.getElem_mem _
theorem getD_setQ {α : Type} {l : List α} {i j : Nat} {d x : α} : (l.set i x).getD j d = if i = j ∧ j < l.length then x else l.getD j d := by
  rw [List.getD_eq_getElem?_getD, List.getElem?_set, List.getD_eq_getElem?_getD]
  by_cases h : i = j
  · subst h
    by_cases hl : i < l.length
    · simp [hl]
    · simp [hl]
  · simp [h]
theorem isPl_iff {k : Int} : isPl k = true ↔ k = 1 ∨ k = 2 := by unfold isPl; simp
theorem isAt_iff {k : Int} : isAt k = true ↔ k = 3 ∨ k = 4 ∨ k = 5 := by unfold isAt; simp [or_assoc]
/-- What a step that is taken leaves, said part by part. -/
theorem doMem_locs (m : Mem) (s : StepG) : (doMem m s).locs = m.locs := by unfold doMem; split; rfl; split; (try split) <;> rfl; rfl
/-- What is known of a step that is taken. -/
structure Taken (m : Mem) (s : StepG) : Prop where
  t0 : 0 ≤ s.thread
  t1 : s.thread < m.fronts.length
  right : s.act.right m.locs = true
  loc : isPl s.act.kind = true ∨ isAt s.act.kind = true → 0 ≤ s.act.loc ∧ s.act.loc < m.locs.length
  when : isPl s.act.kind = true → Z4l s.when = true
  write : s.act.kind = 2 → bsHas (pastOf m s) s.when = false ∧ 0 < cmpQ' s.when ((frontOf m s).getD s.act.loc.toNat default)
  read : s.act.kind = 1 → bsHas (pastOf m s) s.when = true ∧ 0 ≤ cmpQ' s.when ((frontOf m s).getD s.act.loc.toNat default) ∧ ((pastOf m s).getD (bsAt (pastOf m s) s.when) default).val = s.act.old
theorem taken {m : Mem} {s : StepG} (h : doErr m s = 0) : Taken m s := by
  have hg := good_iff.1 (doErr_good h)
  refine ⟨hg.1, hg.2.1, hg.2.2.1, fun hk => ?_, hg.2.2.2.1, fun hk => ?_, fun hk => ?_⟩
  · obtain ⟨t, ⟨k, o, q, v⟩, w⟩ := s
    exact right_locQ hk hg.2.2.1
  · unfold doErr at h
    rw [if_neg (by rw [doErr_good (by unfold doErr; exact h)]; simp), if_neg (by omega), if_pos hk] at h
    split at h
    · cases h
    · split at h
      · cases h
      · rename_i g1 g2; exact ⟨by simpa using g1, by omega⟩
  · unfold doErr at h
    rw [if_neg (by rw [doErr_good (by unfold doErr; exact h)]; simp), if_pos hk] at h
    split at h
    · cases h
    · split at h
      · cases h
      · split at h
        · cases h
        · rename_i g1 g2 g3; exact ⟨by simpa using g1, by omega, by simpa using g3⟩
theorem doMem_good {m : Mem} {s : StepG} {b : Nat} (h : m.Good b) (he : doErr m s = 0) : (doMem m s).Good (b + 1) := by
  have ht := taken he
  have t0 := ht.t0
  have t1 := ht.t1
  have hfm : frontOf m s ∈ m.fronts := getD_mem (by omega)
  have hfl : (frontOf m s).length = m.locs.length := h.wf.frontsL _ hfm
  have hfr := h.frontsR _ hfm
  unfold doMem
  split
  · rename_i hk
    have hl := ht.loc (.inl (by rw [hk]; rfl))
    have hw := ht.when (by rw [hk]; rfl)
    obtain ⟨hb, hf⟩ := ht.write hk
    have hpm : pastOf m s ∈ m.past := getD_mem (by rw [h.wf.past]; omega)
    have hpr := h.rising _ hpm
    refine ⟨⟨h.wf.locs, by simpa using h.wf.past, h.wf.vals, h.wf.marks, by simpa using h.wf.fronts, fun r hr => ?_, h.wf.marksL, h.wf.marksA, fun r hr => ?_⟩, fun r hr => ?_, fun r hr => ?_, h.marksR⟩
    · rcases mem_set hr with hr | ⟨rfl, -⟩
      · exact Nat.le_succ_of_le (h.wf.pasts r hr)
      · rw [insG_len (bsAt_le _ _)]; exact Nat.succ_le_succ (h.wf.pasts _ hpm)
    · rcases mem_set hr with hr | ⟨rfl, -⟩
      · exact h.wf.frontsL r hr
      · rw [List.length_set]; exact hfl
    · rcases mem_set hr with hr | ⟨rfl, -⟩
      · exact h.rising r hr
      · exact ins_rising hpr hw hb
    · rcases mem_set hr with hr | ⟨rfl, -⟩
      · exact h.frontsR r hr
      · intro q hq
        rcases mem_set hq with hq | ⟨rfl, -⟩
        · exact hfr q hq
        · exact leastQ_right hw
  · split
    · rename_i hk2 hk
      have hl := ht.loc (.inr hk)
      have hmm : markOf m s ∈ m.marks := getD_mem (by rw [h.wf.marks]; omega)
      have hml : (markOf m s).length = m.locs.length := h.wf.marksA _ (by omega) (by
        have := ht.right
        obtain ⟨t, ⟨k, o, q, v⟩, w⟩ := s
        exact right_atom hk this)
      have hbl : (joinG (frontOf m s) (markOf m s)).length = m.locs.length := by rw [joinG_len]; exact hfl
      have hbr := joinG_right (show (frontOf m s).length ≤ (markOf m s).length by omega) hfr (h.marksR _ hmm)
      have F1 : ∀ r ∈ m.fronts.set s.thread.toNat (joinG (frontOf m s) (markOf m s)), r.length = m.locs.length := fun r hr => by
        rcases mem_set hr with hr | ⟨rfl, -⟩
        · exact h.wf.frontsL r hr
        · exact hbl
      have F2 : ∀ r ∈ m.fronts.set s.thread.toNat (joinG (frontOf m s) (markOf m s)), ∀ q ∈ r, Z4l q = true := fun r hr => by
        rcases mem_set hr with hr | ⟨rfl, -⟩
        · exact h.frontsR r hr
        · exact hbr
      split
      · exact ⟨⟨h.wf.locs, h.wf.past, h.wf.vals, h.wf.marks, by simpa using h.wf.fronts, fun r hr => Nat.le_succ_of_le (h.wf.pasts r hr), h.wf.marksL, h.wf.marksA, F1⟩, h.rising, F2, h.marksR⟩
      · refine ⟨⟨h.wf.locs, h.wf.past, by simpa using h.wf.vals, by simpa using h.wf.marks, by simpa using h.wf.fronts, fun r hr => Nat.le_succ_of_le (h.wf.pasts r hr), fun r hr => ?_, fun i hi ha => ?_, F1⟩, h.rising, F2, fun r hr => ?_⟩
        · rcases mem_set hr with hr | ⟨rfl, -⟩
          · exact h.wf.marksL r hr
          · exact Nat.le_of_eq hbl
        · show ((m.marks.set _ _).getD i []).length = _
          rw [getD_setQ]
          split
          · exact hbl
          · exact h.wf.marksA i hi ha
        · rcases mem_set hr with hr | ⟨rfl, -⟩
          · exact h.marksR r hr
          · exact hbr
    · exact h.mono (Nat.le_succ b)
theorem inn_map {α β : Type} (f : β → List α × Bool) (l : List β) : inn (l.map f) = l.map fun x => (f x).1 := by unfold inn; rw [List.map_map]; rfl
theorem newM_good {l : List LocG} {t : Int} (h : newErr l t = 0) : (newM l t).plain.Good 1 := by
  have hb : l.length ≤ 16 ∧ 1 ≤ t ∧ t ≤ 3 := by unfold newErr at h; split at h; cases h; omega
  have z : Z4l ⟨0, 1⟩ = true := by decide
  unfold newM
  rw [if_pos h]
  have s0 : ∀ q ∈ startG l.length, Z4l q = true := fun q hq => by rw [(List.mem_replicate.1 hq).2]; exact z
  have sl : (startG l.length).length = l.length := List.length_replicate
  refine ⟨⟨hb.1, by simp [MemG.plain, Z31], by simp [MemG.plain], by simp [MemG.plain, Z31], ?_, fun r hr => ?_, fun r hr => ?_, fun i hi ha => ?_, fun r hr => ?_⟩, fun r hr => ?_, fun r hr => ?_, fun r hr => ?_⟩
  · show (inn (frontX l.length t.toNat)).length ≤ 3
    rw [Z31, frontX_len]; omega
  · have hr : r ∈ inn (l.map pastX) := hr
    rw [inn_map] at hr
    obtain ⟨x, -, rfl⟩ := List.mem_map.1 hr
    unfold pastX; split <;> simp
  · have hr : r ∈ inn (l.map (markX l.length)) := hr
    rw [inn_map] at hr
    obtain ⟨x, -, rfl⟩ := List.mem_map.1 hr
    show _ ≤ l.length
    unfold markX; split <;> simp [sl]
  · have hi : i < l.length := hi
    have ha : (l.getD i default).atom = true := ha
    show ((inn (l.map (markX l.length))).getD i []).length = l.length
    rw [inn_map, List.getD_eq_getElem?_getD, List.getElem?_map, List.getElem?_eq_getElem hi]
    rw [Z3z hi] at ha
    show (markX l.length l[i]).1.length = _
    unfold markX; rw [if_pos ha]; exact sl
  · have hr : r ∈ inn (frontX l.length t.toNat) := hr
    unfold frontX inn at hr
    rw [List.map_replicate] at hr
    rw [(List.mem_replicate.1 hr).2]; exact sl
  · have hr : r ∈ inn (l.map pastX) := hr
    rw [inn_map] at hr
    obtain ⟨x, -, rfl⟩ := List.mem_map.1 hr
    unfold pastX; split
    · exact ⟨by simp, List.Pairwise.nil⟩
    · exact ⟨fun s hs => by rw [List.mem_singleton.1 hs]; exact z, List.pairwise_singleton _ _⟩
  · have hr : r ∈ inn (frontX l.length t.toNat) := hr
    unfold frontX inn at hr
    rw [List.map_replicate] at hr
    rw [(List.mem_replicate.1 hr).2]; exact s0
  · have hr : r ∈ inn (l.map (markX l.length)) := hr
    rw [inn_map] at hr
    obtain ⟨x, -, rfl⟩ := List.mem_map.1 hr
    unfold markX; split
    · exact s0
    · simp
end Go.Ago

/- Law 20: awake, done, onward. Conditions: none. -/
set_option maxRecDepth 100000
set_option linter.unusedSimpArgs false
set_option linter.unusedVariables false
namespace Go.Ago
theorem plain_av (m : Mem) : m.av.plain = m := by
  have h : ∀ {α : Type} (L : List (List α)), inn (L.map (·, false)) = L := fun L => by rw [inn_map]; exact List.map_id _
  unfold Mem.av MemG.plain
  simp only [h]
theorem at_DoM (m : MemG) (s : StepG) :
    sp_Do.at [.agg [.d (.list (m.locs.map LocG.row) m.lf), .d (.list (m.past.map rowStamps) m.pf), .d (.list (m.vals.map rowI) m.vf), .d (.list (m.marks.map rowRats) m.mf), .d (.list (m.fronts.map rowRats) m.ff)], .agg [.d (.int .i64 s.thread), .d (.int .i64 s.act.kind), .d (.int .i64 s.act.loc), .d (.int .i64 s.act.old), .d (.int .i64 s.act.new), .d (.int .i64 s.when.num), .d (.int .i64 s.when.den)]] =
      .data (m.plain.Wf 1000000) (.tup [(resM m.plain s).av, .d (.int .i64 (doErr m.plain s))]) false := at_Do _ _ _ _ _ _ _ _ _ _ _ _ _ _ _ _ _
theorem at_SeesM (m : MemG) (t l : Int) :
    sp_Sees.at [.agg [.d (.list (m.locs.map LocG.row) m.lf), .d (.list (m.past.map rowStamps) m.pf), .d (.list (m.vals.map rowI) m.vf), .d (.list (m.marks.map rowRats) m.mf), .d (.list (m.fronts.map rowRats) m.ff)], .d (.int .i64 t), .d (.int .i64 l)] =
      .data (m.plain.Wf 1000000) (.d (.list ((seesG m.plain t l).map StampG.row) false)) false := at_Sees _ _ _ _ _ _ _ _ _ _ _ _
theorem wfM {m : MemG} {b : Nat} (h : m.plain.Good b) (hb : b ≤ 1000000) : m.plain.Wf 1000000 := h.wf.mono hb
def MemG.row (m : MemG) : List AV := [.d (.list (m.locs.map LocG.row) m.lf), .d (.list (m.past.map rowStamps) m.pf), .d (.list (m.vals.map rowI) m.vf), .d (.list (m.marks.map rowRats) m.mf), .d (.list (m.fronts.map rowRats) m.ff)]
/-! ### onward -/
/-! ### awake -/
set_option maxHeartbeats 4000000 in
theorem body_law20_awake {T : Tab} {n1 n2 n3 : Nat} (k1 : Knows T n1 sp_New) (k2 : Knows T n2 sp_Do) (k3 : Knows T n3 sp_Sees) : sp_true.Body T V_law20_awake (L_law20_awake n1 n2 n3) R_law20_awake := by
  have F1 := k1.F; have G1 := k1.G; have F2 := k2.F; have G2 := k2.G; have F3 := k3.F; have G3 := k3.G
  rintro ⟨⟩ -
  refine .inl ⟨rfl, ?_⟩
  unfold V_law20_awake L_law20_awake R_law20_awake
  have hN : sp_New.at [.d (.list [[.bool false, .int .i64 0]] false), .d (.int .i64 2)] = .data (1 ≤ maxLen) (.tup [(newM [⟨false, 0⟩] 2).av, .d (.int .i64 0)]) false := at_New [⟨false, 0⟩] false 2
  have hW : (newM [⟨false, 0⟩] 2).plain.Good 1 := newM_good (by decide)
  have eD : doErr (newM [⟨false, 0⟩] 2).plain ⟨0, ⟨2, 0, 0, 1⟩, ⟨1, 1⟩⟩ = 0 := by decide +kernel
  have eS0 : (seesG (resM (newM [⟨false, 0⟩] 2).plain ⟨0, ⟨2, 0, 0, 1⟩, ⟨1, 1⟩⟩).plain 0 0).length = 1 := by decide +kernel
  have eS1 : (seesG (resM (newM [⟨false, 0⟩] 2).plain ⟨0, ⟨2, 0, 0, 1⟩, ⟨1, 1⟩⟩).plain 1 0).length = 2 := by decide +kernel
  have hR : (resM (newM [⟨false, 0⟩] 2).plain ⟨0, ⟨2, 0, 0, 1⟩, ⟨1, 1⟩⟩).plain.Good 2 := by unfold resM; rw [if_pos eD, plain_av]; exact doMem_good hW eD
  generalize newM [⟨false, 0⟩] 2 = m1 at *
  have hD : sp_Do.at [.agg [.d (.list (m1.locs.map LocG.row) m1.lf), .d (.list (m1.past.map rowStamps) m1.pf), .d (.list (m1.vals.map rowI) m1.vf), .d (.list (m1.marks.map rowRats) m1.mf), .d (.list (m1.fronts.map rowRats) m1.ff)], .agg [.d (.int .i64 0), .d (.int .i64 2), .d (.int .i64 0), .d (.int .i64 0), .d (.int .i64 1), .d (.int .i64 1), .d (.int .i64 1)]] =
      .data (m1.plain.Wf 1000000) (.tup [(resM m1.plain ⟨0, ⟨2, 0, 0, 1⟩, ⟨1, 1⟩⟩).av, .d (.int .i64 0)]) false := by
    have := at_DoM m1 ⟨0, ⟨2, 0, 0, 1⟩, ⟨1, 1⟩⟩
    rw [eD] at this; exact this
  generalize resM m1.plain ⟨0, ⟨2, 0, 0, 1⟩, ⟨1, 1⟩⟩ = m2 at *
  simp (maxSteps := 3000000) only [↓Z0g, ↓Z10, ↓Z04, ↓Z0p, ↓Z0f, ↓Z0a, ↓Z0o, ↓Z0n, ↓Z1p, ↓Z0i, ↓Z0c, ↓Z0b, Z2m, Z05, Z17, Z12, Z1b, evN, Z19, Z0m, Z1a, Z0l, Z0e, Z0k, Z1s, Z0w, evT, Opd.ev, Z03, Z00, Z18, Z2l, Z1k, Z1h, Z0u, Z0x, Z0y, Z0d, Z1t, LOp.isNew, State.prune, Z1j, Z1d, AV.leaf, Heap.at, Z06, Z02, Z07, Z01, Int.reduceToNat, Z3x, Z4f, drows, evMk, List.length_map, List.take_of_length_le, Z2p, Z3a, Z32, binT, binQ, Bool.and_self, resQ, resV, resT, Z4n, Z13, Z1y, fnOf, Z1v, isD, Z3u, Z3t, Z3i, putRow, Z39, Z0t, RetS, Nat.le_refl, AV.d.injEq, DV.bool.injEq, ↓reduceIte, Nat.reduceAdd, Nat.reduceBEq, List.length_cons, List.length_nil, List.replicate_succ, List.replicate_zero, List.nil_append, List.cons_append, List.append_nil, List.map_cons, List.map_nil, List.all_cons, List.all_nil, List.set_cons_zero, List.set_cons_succ, List.getD_cons_zero, List.getD_cons_succ, List.drop_zero, List.drop_succ_cons, List.take_succ_cons, List.take_zero, List.flatten_cons, List.flatten_nil, Bool.not_true, true_and, Option.bind_some, Option.map_some, decide_true, and_self, Nat.reduceLT, Nat.reduceLeDiff, Nat.zero_add, Nat.add_zero, Bool.false_eq_true, sp_true, F1, G1, F2, G2, F3, G3, MemG.av, Z02, Z01, hN, hD, at_SeesM, eS0, eS1]
  exact ⟨⟨by decide, by decide, Z1e (by decide) (by decide)⟩, by decide, wfM hW (by decide), wfM hR (by decide), fun _ => ⟨wfM hR (by decide), by decide⟩, fun h => h rfl⟩
end Go.Ago

/- HistSwap: two plain acts of unlike threads on unlike locations change places. Conditions: none. -/
set_option maxRecDepth 100000
set_option linter.unusedSimpArgs false
set_option linter.unusedVariables false
namespace Go.Ago
theorem at_sameM (x y : MemG) :
    sp_sameMem.at [.agg [.d (.list (x.locs.map LocG.row) x.lf), .d (.list (x.past.map rowStamps) x.pf), .d (.list (x.vals.map rowI) x.vf), .d (.list (x.marks.map rowRats) x.mf), .d (.list (x.fronts.map rowRats) x.ff)], .agg [.d (.list (y.locs.map LocG.row) y.lf), .d (.list (y.past.map rowStamps) y.pf), .d (.list (y.vals.map rowI) y.vf), .d (.list (y.marks.map rowRats) y.mf), .d (.list (y.fronts.map rowRats) y.ff)]] =
      .data x.small (.d (.bool (sameMem x y))) true := at_sameMem _ _ _ _ _ _ _ _ _ _ _ _ _ _ _ _ _ _ _ _
theorem small_of {m : MemG} {b : Nat} (h : m.plain.Good b) (hb : b ≤ 1000000) : m.small := by
  have hl : m.locs.length ≤ 16 := h.wf.locs
  have h2 : m.vals.length = m.locs.length := h.wf.vals
  have h3 : m.marks.length = m.locs.length := by have := h.wf.marks; simpa [MemG.plain, Z31] using this
  have h4 : m.fronts.length ≤ 3 := by have := h.wf.fronts; simpa [MemG.plain, Z31] using this
  have hm : maxLen = 9223372036854775807 := rfl
  have h1 : m.past.length = m.locs.length := by have := h.wf.past; simpa [MemG.plain, Z31] using this
  refine ⟨by omega, by omega, ⟨by omega, fun r hr => ?_⟩, ⟨by omega, fun r hr => ?_⟩, by omega, fun r hr => ?_⟩
  · have : r.1.length ≤ m.locs.length := h.wf.marksL r.1 (inn_mem hr)
    omega
  · have : r.1.length = m.locs.length := h.wf.frontsL r.1 (inn_mem hr)
    omega
  · have : r.1.length ≤ b := h.wf.pasts r.1 (inn_mem hr)
    omega
end Go.Ago

/- Words of 64 bits: rows of them, the operations on them, and sets of bits. Conditions: none. -/
set_option linter.unusedSimpArgs false
set_option linter.unusedVariables false
namespace Go.Ago

abbrev W := BitVec 64
theorem W.inj {x y : W} (h : (x.toNat : Int) = (y.toNat : Int)) : x = y := BitVec.eq_of_toNat_eq (by omega)
/-! ### Operations -/
/-! ### Sets of bits -/
end Go.Ago

/- Contracts of package rel: its small functions, and two relations laid together. Conditions: none. -/
set_option maxRecDepth 100000
set_option linter.unusedSimpArgs false
set_option linter.unusedVariables false
namespace Go.Ago

/-! ### Relations -/
def szR (R : List W) : Nat := min R.length 64
def hasN (R : List W) (i k : Nat) : Bool := decide (i < szR R) && decide (k < szR R) && (R.getD i 0#64).getLsbD k
theorem hasN_lt {R : List W} {i k : Nat} (h : hasN R i k = true) : i < szR R ∧ k < szR R := by
  simp only [hasN, Bool.and_eq_true, decide_eq_true_eq] at h; exact h.1
/-! ### size, all, row, Has -/
/-! ### TrailingZeros64 -/
/-! ### Laid together -/
def fstW (x _ : W) : W := x
end Go.Ago

/- Contracts of package rel: Union, Inter, Minus, Then, Back. Conditions: none. -/
set_option maxRecDepth 100000
set_option linter.unusedSimpArgs false
set_option linter.unusedVariables false
namespace Go.Ago

/-! ### Then -/
theorem beq_of_iff {a b : Bool} (h : a = true ↔ b = true) : a = b := by cases a <;> cases b <;> simp_all

end Go.Ago

/- Contracts of package rel: Back, Plus, Star, Ring. Conditions: none. -/
set_option maxRecDepth 100000
set_option linter.unusedSimpArgs false
set_option linter.unusedVariables false
namespace Go.Ago

/-! ### Back -/
/-! ### Plus -/
/-- Ways whose places between are ahead of m. -/
def way (p : Nat → Nat → Bool) : Nat → Nat → Nat → Bool
  | 0, i, k => p i k
  | m + 1, i, k => way p m i k || way p m i m && way p m m k
/-! Where no other function is laid: -/
def hs1 (n : Nat) : Nat → Option (W → W → W) := fun g => if g = n then some fstW else none
end Go.Ago

/- Contracts of package rel: Star, Ring, Of, Order. Conditions: none. -/
set_option maxRecDepth 100000
set_option linter.unusedSimpArgs false
set_option linter.unusedVariables false
namespace Go.Ago

/-! ### Star, Ring -/
/-! ### Of pairs -/
/-! ### Order -/
end Go.Ago

/- Package race: runs that are played, and their order. Conditions: none. -/
set_option maxRecDepth 100000
set_option linter.unusedSimpArgs false
set_option linter.unusedVariables false
namespace Go.Ago
/-! ### plain, atomic -/
def isSet (k : Int) : Bool := decide (k = 4) || decide (k = 5)
/-! ### played -/
end Go.Ago

/- Package race: the order of a run. Conditions: none. -/
set_option maxRecDepth 100000
set_option linter.unusedSimpArgs false
set_option linter.unusedVariables false
namespace Go.Ago
/-! ### Pairs -/
/-! ### ordered -/
end Go.Ago

/- Package race: Order and Races. Conditions: none. -/
set_option maxRecDepth 100000
set_option linter.unusedSimpArgs false
set_option linter.unusedVariables false
namespace Go.Ago
/-! ### Order -/
/-! ### Races -/
end Go.Ago

/- Package race: Weak. Conditions: none. -/
set_option maxRecDepth 100000
set_option linter.unusedSimpArgs false
set_option linter.unusedVariables false
namespace Go.Ago
instance : Inhabited MemG := ⟨⟨[], false, [], false, [], false, [], false, [], false⟩⟩
end Go.Ago

/- Contracts of the reference of layer 2: its small functions, Put, Of, Lay, Then, Back. Conditions: none. -/
set_option maxRecDepth 100000
set_option linter.unusedSimpArgs false
set_option linter.unusedVariables false
namespace Go.Ago

/-! ### Put -/
end Go.Ago

/- Contracts of the reference of layer 2: most, Copy, Same, Of, Lay, Then, Back. Conditions: none. -/
set_option maxRecDepth 100000
set_option linter.unusedSimpArgs false
set_option linter.unusedVariables false
namespace Go.Ago

end Go.Ago

/- Contracts of the reference of layer 2: Lay, Then, Back. Conditions: none. -/
set_option maxRecDepth 100000
set_option linter.unusedSimpArgs false
set_option linter.unusedVariables false
namespace Go.Ago

/-! Row by row, place by place: what lies ahead of (i, k). -/
/-! ### Lay -/
/-! ### Back -/
/-! ### Then -/
end Go.Ago

/- Ways: what is reached from where. Conditions: none. -/
set_option linter.unusedSimpArgs false
set_option linter.unusedVariables false
namespace Go.Ago

section
variable {p : Nat → Nat → Bool}
/-- The least that is closed. -/
theorem way_min {V : Nat → Bool} (hc : ∀ b c, V b = true → p b c = true → V c = true) {m i : Nat} (hs : ∀ b, p i b = true → V b = true) : ∀ {k : Nat}, way p m i k = true → V k = true := by
  suffices h : ∀ m a k, (V a = true ∨ a = i) → way p m a k = true → V k = true from fun {k} hk => h m i k (.inr rfl) hk
  intro m
  induction m with
  | zero =>
    intro a k ha hk
    simp only [way] at hk
    rcases ha with ha | ha
    · exact hc a k ha hk
    · subst ha; exact hs k hk
  | succ m ih =>
    intro a k ha hk
    simp only [way, Bool.or_eq_true, Bool.and_eq_true] at hk
    rcases hk with hk | ⟨h1, h2⟩
    · exact ih a k ha hk
    · exact ih m k (.inl (ih a m ha h1)) h2
end

/-- What the search for all that is reached from i Z1t: T is still to be looked at; of the one that is looked at, the first k are done. -/
structure Seek (A : List W) (n i : Nat) (V : Nat → Bool) (T : List Nat) (q : Nat → Nat → Prop) : Prop where
  sound : ∀ b, V b = true → b < n ∧ way (hasN A) n i b = true
  start : ∀ b, hasN A i b = true → V b = true
  todo : ∀ b ∈ T, V b = true
  done : ∀ b c, V b = true → hasN A b c = true → b ∈ T ∨ V c = true ∨ q b c

theorem Seek.end {A : List W} {n i : Nat} {V : Nat → Bool} (h : Seek A n i V [] fun _ _ => False) (b : Nat) : V b = way (hasN A) n i b := by
  apply beq_of_iff
  refine ⟨fun hv => (h.sound b hv).2, fun hw => way_min (V := V) (fun b c hb hc => ?_) h.start hw⟩
  rcases h.done b c hb hc with h1 | h1 | h1
  · simp at h1
  · exact h1
  · exact h1.elim

theorem Seek.skip {A : List W} {n i j k : Nat} {V : Nat → Bool} {T : List Nat} (h : Seek A n i V T fun b c => b = j ∧ k ≤ c) (hk : hasN A j k = false ∨ V k = true) : Seek A n i V T fun b c => b = j ∧ k + 1 ≤ c :=
  ⟨h.sound, h.start, h.todo, fun b c h1 h2 => by
    rcases h.done b c h1 h2 with h3 | h3 | ⟨h3, h4⟩
    · exact .inl h3
    · exact .inr (.inl h3)
    · by_cases e : c = k
      · subst e; subst h3
        rcases hk with hk | hk
        · rw [hk] at h2; cases h2
        · exact .inr (.inl hk)
      · exact .inr (.inr ⟨h3, by omega⟩)⟩
theorem Seek.rest {A : List W} {n i j : Nat} {V : Nat → Bool} {T : List Nat} (h : Seek A n i V T fun b c => b = j ∧ n ≤ c) (hn : szR A ≤ n) : Seek A n i V T fun _ _ => False :=
  ⟨h.sound, h.start, h.todo, fun b c h1 h2 => by
    rcases h.done b c h1 h2 with h3 | h3 | ⟨h3, h4⟩
    · exact .inl h3
    · exact .inr (.inl h3)
    · have := (hasN_lt h2).2; omega⟩
end Go.Ago

/- Law 22: awake, raced, and RaceOrder. Conditions: none. -/
set_option maxRecDepth 100000
set_option linter.unusedSimpArgs false
set_option linter.unusedVariables false
namespace Go.Ago
/-! ### The order -/
/-! ### awake -/
/-! ### RaceOrder -/
end Go.Ago

/- HistOwn: a thread reads what it wrote itself, or what stands later. Conditions: none. -/
set_option maxRecDepth 100000
set_option linter.unusedSimpArgs false
set_option linter.unusedVariables false
namespace Go.Ago
end Go.Ago

/- HistOnward: fronts and marks never go back, and what was written stays. Conditions: none. -/
set_option maxRecDepth 100000
set_option linter.unusedSimpArgs false
set_option linter.unusedVariables false
namespace Go.Ago
end Go.Ago

/- HistSees: a thread may read just what it is told that it sees. Conditions: none. -/
set_option maxRecDepth 100000
set_option linter.unusedSimpArgs false
set_option linter.unusedVariables false
namespace Go.Ago
/-- What is atomic has no past. -/
def Mem.Bare (m : Mem) : Prop := ∀ i, i < m.locs.length → (m.locs.getD i default).atom = true → m.past.getD i [] = []
theorem new_bare {l : List LocG} {t : Int} (h : newErr l t = 0) : (newM l t).plain.Bare := by
  unfold newM
  rw [if_pos h]
  intro i hi ha
  have hi : i < l.length := hi
  have ha : (l.getD i default).atom = true := ha
  show (inn (l.map pastX)).getD i [] = []
  rw [inn_map, List.getD_eq_getElem?_getD, List.getElem?_map, List.getElem?_eq_getElem hi]
  rw [Z3z hi] at ha
  show (pastX l[i]).1 = []
  unfold pastX; rw [if_pos ha]
theorem right_plain {s : StepG} {l : List LocG} (hk : isPl s.act.kind = true) (h : s.act.right l = true) : (l.getD s.act.loc.toNat default).atom = false := by
  rw [isPl_iff] at hk
  unfold ActG.right at h
  rw [if_neg (by omega)] at h
  simp only [Bool.and_eq_true, beq_iff_eq] at h
  rw [h.1.1.2]
  unfold ActG.isA
  simp; omega
def StepG.cells (z : StepG) : List AV := [.d (.int .i64 z.thread), .d (.int .i64 z.act.kind), .d (.int .i64 z.act.loc), .d (.int .i64 z.act.old), .d (.int .i64 z.act.new), .d (.int .i64 z.when.num), .d (.int .i64 z.when.den)]
end Go.Ago

/- Runs of a memory: what is carried along the order. Conditions: none. -/
set_option maxRecDepth 100000
set_option linter.unusedSimpArgs false
set_option linter.unusedVariables false
namespace Go.Ago
theorem doMem_fronts (m : Mem) (s : StepG) : (doMem m s).fronts.length = m.fronts.length := by
  unfold doMem
  split
  · simp
  · split
    · split <;> simp
    · rfl
def frAt (m : Mem) (u x : Nat) : RatG := (m.fronts.getD u []).getD x default
def mkAt (m : Mem) (y x : Nat) : RatG := (m.marks.getD y []).getD x default
def paAt (m : Mem) (x : Nat) : List StampG := m.past.getD x []
section
variable {m : Mem} {s : StepG} {b x : Nat}
theorem fr_len (h : m.Good b) {u : Nat} (hu : u < m.fronts.length) : (m.fronts.getD u []).length = m.locs.length := h.wf.frontsL _ (getD_mem hu)
theorem fr_right (h : m.Good b) {u : Nat} (hu : u < m.fronts.length) (hx : x < m.locs.length) : Z4l (frAt m u x) = true :=
  h.frontsR _ (getD_mem hu) _ (getD_mem (by rw [fr_len h hu]; exact hx))
theorem mk_right (h : m.Good b) {y : Nat} (hy : y < m.locs.length) (ha : (m.locs.getD y default).atom = true) (hx : x < m.locs.length) : Z4l (mkAt m y x) = true :=
  h.marksR _ (getD_mem (by rw [h.wf.marks]; exact hy)) _ (getD_mem (by rw [h.wf.marksA y hy ha]; exact hx))
theorem take_u (he : doErr m s = 0) : s.thread.toNat < m.fronts.length := by have := taken he; have := this.t0; have := (taken he).t1; omega
theorem fr_write (h : m.Good b) (he : doErr m s = 0) (hk : s.act.kind = 2) (hx : s.act.loc.toNat = x) : frAt (doMem m s) s.thread.toNat x = leastQ s.when := by
  have hu := take_u he
  have hl := (taken he).loc (.inl (by rw [hk]; rfl))
  unfold doMem frAt
  rw [if_pos hk]
  show ((m.fronts.set _ _).getD _ []).getD _ _ = _
  rw [getD_setQ, if_pos ⟨rfl, hu⟩, getD_setQ, if_pos ⟨hx, by show x < (m.fronts.getD _ []).length; rw [fr_len h hu]; omega⟩]
theorem fr_atom (h : m.Good b) (he : doErr m s = 0) (hk : isAt s.act.kind = true) (hx : x < m.locs.length) : frAt (doMem m s) s.thread.toNat x = ratMaxG (frAt m s.thread.toNat x) (mkAt m s.act.loc.toNat x) := by
  have hu := take_u he
  have h2 : ¬ s.act.kind = 2 := by rw [isAt_iff] at hk; omega
  have e : (joinG (frontOf m s) (markOf m s)).getD x default = ratMaxG (frAt m s.thread.toNat x) (mkAt m s.act.loc.toNat x) := joinG_get (by show x < (m.fronts.getD _ []).length; rw [fr_len h hu]; exact hx)
  unfold doMem
  rw [if_neg h2, if_pos hk]
  split
  · show ((m.fronts.set _ _).getD _ []).getD _ _ = _
    rw [getD_setQ, if_pos ⟨rfl, hu⟩, e]
  · show ((m.fronts.set _ _).getD _ []).getD _ _ = _
    rw [getD_setQ, if_pos ⟨rfl, hu⟩, e]
theorem take_at (he : doErr m s = 0) (hk : isAt s.act.kind = true) : s.act.loc.toNat < m.locs.length ∧ (m.locs.getD s.act.loc.toNat default).atom = true := by
  have ht := taken he
  have hl := ht.loc (.inr hk)
  refine ⟨by omega, ?_⟩
  have := ht.right
  obtain ⟨t, ⟨k, o, q, v⟩, w⟩ := s
  exact right_atom hk this
theorem isAt_set {k : Int} (h : isSet k = true) : isAt k = true := by
  unfold isSet at h; rw [isAt_iff]; simp at h; omega
theorem mk_set (h : m.Good b) (he : doErr m s = 0) (hk : isSet s.act.kind = true) (hx : x < m.locs.length) : mkAt (doMem m s) s.act.loc.toNat x = ratMaxG (frAt m s.thread.toNat x) (mkAt m s.act.loc.toNat x) := by
  have ha := isAt_set hk
  have hu := take_u he
  obtain ⟨hy, -⟩ := take_at he ha
  have h2 : ¬ s.act.kind = 2 := by rw [isAt_iff] at ha; omega
  have h3 : ¬ s.act.kind = 3 := by unfold isSet at hk; simp at hk; omega
  have e : (joinG (frontOf m s) (markOf m s)).getD x default = ratMaxG (frAt m s.thread.toNat x) (mkAt m s.act.loc.toNat x) := joinG_get (by show x < (m.fronts.getD _ []).length; rw [fr_len h hu]; exact hx)
  unfold doMem
  rw [if_neg h2, if_pos ha]
  simp only [if_neg h3]
  show ((m.marks.set _ _).getD _ []).getD _ _ = _
  rw [getD_setQ, if_pos ⟨rfl, by rw [h.wf.marks]; exact hy⟩, e]
theorem pa_same (hn : ¬ (s.act.kind = 2 ∧ s.act.loc.toNat = x)) : paAt (doMem m s) x = paAt m x := by
  unfold doMem paAt
  split
  · rename_i hk
    show (m.past.set _ _).getD _ [] = _
    rw [getD_setQ, if_neg (fun e => hn ⟨hk, e.1⟩)]
  · split
    · split <;> rfl
    · rfl
theorem pa_write (h : m.Good b) (he : doErr m s = 0) (hk : s.act.kind = 2) (hx : s.act.loc.toNat = x) : paAt (doMem m s) x = insG (paAt m x) (bsAt (paAt m x) s.when) ⟨leastQ s.when, s.act.new⟩ := by
  have hl := (taken he).loc (.inl (by rw [hk]; rfl))
  unfold doMem paAt
  rw [if_pos hk]
  show (m.past.set _ _).getD _ [] = _
  rw [getD_setQ, if_pos ⟨hx, by rw [h.wf.past]; omega⟩]
  unfold pastOf
  rw [hx]
end
/-! ### What is carried -/
section
variable {m : Nat → Mem} {s : Nat → StepG} {n x : Nat}
end
/-! ### What was written last -/
def isW (s : StepG) (x : Nat) : Bool := decide (s.act.kind = 2) && decide (s.act.loc.toNat = x)
theorem pa_rising {m : Mem} {b x : Nat} (h : m.Good b) (hx : x < m.locs.length) : Rising (paAt m x) := h.rising _ (getD_mem (by rw [h.wf.past]; exact hx))
/-- At the beginning. -/
theorem new_past {l : List LocG} {t : Int} (h : newErr l t = 0) {x : Nat} (hx : x < l.length) (ha : (l.getD x default).atom = false) : paAt (newM l t).plain x = [⟨⟨0, 1⟩, (l.getD x default).init⟩] := by
  unfold newM
  rw [if_pos h]
  show (inn (l.map pastX)).getD x [] = _
  rw [inn_map, List.getD_eq_getElem?_getD, List.getElem?_map, List.getElem?_eq_getElem hx]
  rw [Z3z hx] at ha ⊢
  show (pastX l[x]).1 = _
  unfold pastX; rw [ha]; rfl
theorem new_front {l : List LocG} {t : Int} (h : newErr l t = 0) {u x : Nat} (hu : u < (newM l t).plain.fronts.length) (hx : x < l.length) : frAt (newM l t).plain u x = ⟨0, 1⟩ := by
  unfold newM at hu ⊢
  rw [if_pos h] at hu ⊢
  have hu : u < (inn (frontX l.length t.toNat)).length := hu
  show ((inn (frontX l.length t.toNat)).getD u []).getD x default = _
  rw [Z3z hu]
  unfold frontX inn startG
  simp [hx]
theorem new_locs {l : List LocG} {t : Int} (h : newErr l t = 0) : (newM l t).plain.locs = l := by unfold newM; rw [if_pos h]; rfl
end Go.Ago

/- The reference of layer 20: one more step. Conditions: none. -/
set_option maxRecDepth 100000
set_option linter.unusedSimpArgs false
set_option linter.unusedVariables false
namespace Go.Ago

def rat_rightG (x : RatG) : Bool := Z47 x.num x.den
def cmpG (x y : RatG) : Int := rat_cmp x.num x.den y.num y.den
/-- What the loop over the writes answers. -/
def Z4u (a : ActG) (w front : RatG) : List StampG → Option Int
  | [] => none
  | x :: l => if cmpG x.when w = 0 then some (if a.kind = 2 then 5 else if cmpG w front < 0 then 6 else if x.val = a.old then 0 else 3) else Z4u a w front l
def pastDo (l : List LocG) (t : Int) (s : List StepG) (st : StepG) : Int :=
  let a := st.act
  let moment := a.kind = 1 ∨ a.kind = 2
  if st.thread < 0 ∨ t ≤ st.thread ∨ a.right l = false ∨ (moment ∧ rat_rightG st.when = false) ∨ (¬ moment ∧ st.when ≠ ⟨0, 0⟩) then 1
  else if (a.kind = 3 ∨ a.kind = 5) ∧ valueG l s a.loc ≠ a.old then 3
  else if ¬ moment then 0
  else match Z4u a st.when (Z4w s s.length st.thread a.loc) (Z4m l s a.loc) with
    | some e => e
    | none => if a.kind = 1 then 4 else if cmpG st.when (Z4w s s.length st.thread a.loc) ≤ 0 then 6 else 0

def DoOk (s : List StepG) : Prop := s.length ≤ 1000000 ∧ ∀ x ∈ s, inI x.act.loc
def sp_pastDo : Sp := ⟨List LocG × Bool × Int × List StepG × Bool × StepG, fun x => [.agg [.d (.list (x.1.map LocG.row) x.2.1), .d (.int .i64 x.2.2.1), .d (.list (x.2.2.2.1.map StepG.row) x.2.2.2.2.1)],
    .agg [.d (.int .i64 x.2.2.2.2.2.thread), .d (.int .i64 x.2.2.2.2.2.act.kind), .d (.int .i64 x.2.2.2.2.2.act.loc), .d (.int .i64 x.2.2.2.2.2.act.old), .d (.int .i64 x.2.2.2.2.2.act.new), .d (.int .i64 x.2.2.2.2.2.when.num), .d (.int .i64 x.2.2.2.2.2.when.den)]],
  fun x => .data (DoOk x.2.2.2.1) (.d (.int .i64 (pastDo x.1 x.2.2.1 x.2.2.2.1 x.2.2.2.2.2))) true⟩

theorem pastScan_drop {a : ActG} {w fr : RatG} {W : List StampG} {i : Nat} (hi : i < W.length) : Z4u a w fr (W.drop i) = if cmpG (W.getD i default).when w = 0 then some (if a.kind = 2 then 5 else if cmpG w fr < 0 then 6 else if (W.getD i default).val = a.old then 0 else 3) else Z4u a w fr (W.drop (i + 1)) := by
  rw [List.drop_eq_getElem_cons hi, Z3z hi]; rfl
theorem pastDo_bad {l : List LocG} {t : Int} {s : List StepG} {st : StepG} (h : st.thread < 0 ∨ t ≤ st.thread ∨ st.act.right l = false ∨ ((st.act.kind = 1 ∨ st.act.kind = 2) ∧ rat_rightG st.when = false) ∨ (¬ (st.act.kind = 1 ∨ st.act.kind = 2) ∧ st.when ≠ ⟨0, 0⟩)) : pastDo l t s st = 1 := if_pos h
theorem pastDo_val {l : List LocG} {t : Int} {s : List StepG} {st : StepG} (h : ¬ (st.thread < 0 ∨ t ≤ st.thread ∨ st.act.right l = false ∨ ((st.act.kind = 1 ∨ st.act.kind = 2) ∧ rat_rightG st.when = false) ∨ (¬ (st.act.kind = 1 ∨ st.act.kind = 2) ∧ st.when ≠ ⟨0, 0⟩)))
    (h2 : (st.act.kind = 3 ∨ st.act.kind = 5) ∧ valueG l s st.act.loc ≠ st.act.old) : pastDo l t s st = 3 := by unfold pastDo; rw [if_neg h, if_pos h2]
theorem pastDo_non {l : List LocG} {t : Int} {s : List StepG} {st : StepG} (h : ¬ (st.thread < 0 ∨ t ≤ st.thread ∨ st.act.right l = false ∨ ((st.act.kind = 1 ∨ st.act.kind = 2) ∧ rat_rightG st.when = false) ∨ (¬ (st.act.kind = 1 ∨ st.act.kind = 2) ∧ st.when ≠ ⟨0, 0⟩)))
    (h2 : ¬ ((st.act.kind = 3 ∨ st.act.kind = 5) ∧ valueG l s st.act.loc ≠ st.act.old)) (h3 : ¬ (st.act.kind = 1 ∨ st.act.kind = 2)) : pastDo l t s st = 0 := by unfold pastDo; rw [if_neg h, if_neg h2, if_pos h3]
theorem pastDo_mom {l : List LocG} {t : Int} {s : List StepG} {st : StepG} (h : ¬ (st.thread < 0 ∨ t ≤ st.thread ∨ st.act.right l = false ∨ ((st.act.kind = 1 ∨ st.act.kind = 2) ∧ rat_rightG st.when = false) ∨ (¬ (st.act.kind = 1 ∨ st.act.kind = 2) ∧ st.when ≠ ⟨0, 0⟩)))
    (h3 : st.act.kind = 1 ∨ st.act.kind = 2) : pastDo l t s st = match Z4u st.act st.when (Z4w s s.length st.thread st.act.loc) (Z4m l s st.act.loc) with
    | some e => e
    | none => if st.act.kind = 1 then 4 else if cmpG st.when (Z4w s s.length st.thread st.act.loc) ≤ 0 then 6 else 0 := by
  unfold pastDo; rw [if_neg h, if_neg (by omega), if_neg (fun h => h h3)]
def pdSt (th k o m n wn wd : Int) (fr : RatG) (W : List StampG) (i : Nat) : State :=
  ⟨[(3, .ptr 0 7 0 0), (5, .ptr 1 4 0 0), (7, .ptr 2 2 0 0), (8, .ref 3 3 0 W.length true), (9, .d (.int .i64 i))],
    [.vec 7 [[.d (.int .i64 th), .d (.int .i64 k), .d (.int .i64 o), .d (.int .i64 m), .d (.int .i64 n), .d (.int .i64 wn), .d (.int .i64 wd)]],
     .vec 4 [[.d (.int .i64 k), .d (.int .i64 o), .d (.int .i64 m), .d (.int .i64 n)]], .vec 2 [[.d (.int .i64 fr.num), .d (.int .i64 fr.den)]], .dvec 3 (W.map StampG.row)]⟩
set_option maxHeartbeats 4000000 in
theorem body_ref20_Past_Do {T : Tab} {n1 n2 n3 n4 n5 n6 : Nat} (k1 : Knows T n1 (sp_Front 1000001)) (k2 : Knows T n2 sp_Value) (k3 : Knows T n3 sp_act_Right) (k4 : Knows T n4 sp_rat_Right) (k5 : Knows T n5 sp_writes) (k6 : Knows T n6 sp_rat_Cmp) :
    sp_pastDo.Body T V_ref20_Past_Do (L_ref20_Past_Do n1 n2 n3 n4 n5 n6) R_ref20_Past_Do := by
  have F1 := k1.F; have G1 := k1.G; have F2 := k2.F; have G2 := k2.G; have F3 := k3.F; have G3 := k3.G; have F4 := k4.F; have G4 := k4.G; have F5 := k5.F; have G5 := k5.G; have F6 := k6.F; have G6 := k6.G
  rintro ⟨l, f, t, s, g, ⟨th, ⟨k, o, m, n⟩, ⟨wn, wd⟩⟩⟩ ⟨h1, h2⟩
  have h1 : s.length ≤ 1000000 := h1
  have h2 : ∀ x ∈ s, inI x.act.loc := h2
  refine .inl ⟨rfl, ?_⟩
  unfold V_ref20_Past_Do L_ref20_Past_Do R_ref20_Past_Do
  have hbad := pastDo_bad (l := l) (t := t) (s := s) (st := ⟨th, ⟨k, o, m, n⟩, ⟨wn, wd⟩⟩)
  have hval := pastDo_val (l := l) (t := t) (s := s) (st := ⟨th, ⟨k, o, m, n⟩, ⟨wn, wd⟩⟩)
  have hnon := pastDo_non (l := l) (t := t) (s := s) (st := ⟨th, ⟨k, o, m, n⟩, ⟨wn, wd⟩⟩)
  have hmom := pastDo_mom (l := l) (t := t) (s := s) (st := ⟨th, ⟨k, o, m, n⟩, ⟨wn, wd⟩⟩)
  simp only [sp_pastDo]
  generalize pastDo l t s ⟨th, ⟨k, o, m, n⟩, ⟨wn, wd⟩⟩ = P at *
  have hcases : k = 1 ∨ k = 2 ∨ k = 3 ∨ k = 5 ∨ (¬ k = 1 ∧ ¬ k = 2 ∧ ¬ k = 3 ∧ ¬ k = 5) := by omega
  have hm : maxLen = 9223372036854775807 := rfl
  have hloc : ∀ {k : Int}, (1 ≤ k ∧ k ≤ 5) → ActG.right ⟨k, o, m, n⟩ l = true → 0 ≤ o ∧ o < l.length := fun {k} hk h => by
    unfold ActG.right at h
    split at h
    · rename_i e; have e : k = 6 := e; omega
    · simp only [Bool.and_eq_true, decide_eq_true_eq] at h
      exact ⟨h.1.1.1.1.2, h.1.1.1.2⟩
  have hwz : ∀ {wn wd : Int}, (decide (wn = 0) = true ∧ decide (wd = 0) = true) → (⟨wn, wd⟩ : RatG) = ⟨0, 0⟩ := fun {wn wd} h => by
    rw [of_decide_eq_true h.1, of_decide_eq_true h.2]
  have hwn : ∀ {wn wd : Int}, (decide (wn = 0) = false ∨ decide (wd = 0) = false) → (⟨wn, wd⟩ : RatG) ≠ ⟨0, 0⟩ := fun {wn wd} h e => by
    cases e
    simp at h
  have hfo : FrontOk 1000001 s s.length := ⟨⟨by omega, by omega, by omega⟩, h1, h2⟩
  have hWl : (Z4m l s o).length ≤ 1000001 := by
    have := writes_len (loc := o) (x := default) s [⟨⟨0, 1⟩, (l.getD o.toNat default).init⟩]
    simp only [List.length_singleton] at this
    unfold Z4m; omega
  rcases hcases with rfl | rfl | rfl | rfl | ⟨e1, e2, e3, e4⟩
  · simp (maxSteps := 3000000) only [↓Z0g, ↓Z10, ↓Z04, ↓Z0p, ↓Z0f, ↓Z09, ↓Z1g, ↓Z0a, ↓Z0o, ↓Z1i, ↓Z0n, ↓Z1p, ↓Z0i, ↓Z0c, ↓Z0z, ↓Z0b, Z2m, Z05, Z0q, Z17, Z12, Z1b, evN, Z19, Z0m, Z1a, Z24, Z0l, Z0e, Z0k, Z1s, Z1q, Z1o, Z0w, evT, Opd.ev, Z03, Z00, Z18, Z2l, Z1k, Z1h, Z0u, Z0x, Z0y, Z0d, Z1t, LOp.isNew, State.prune, Z1j, Z1d, AV.leaf, Heap.at, Z06, Z02, Z07, Z01, Int.toNat_natCast, Z3x, List.length_map, List.take_of_length_le, Z2p, Z3a, Z32, evUn, binT, binQ, chk, Z2h, List.contains_nil, Bool.and_self, resQ, resV, resT, Z4n, Z13, Z1y, fnOf, Z1v, isD, Z3u, putRow, Z0t, RetS, Nat.le_refl, AV.d.injEq, DV.int.injEq, ↓reduceIte, Nat.reduceAdd, Nat.reduceBEq, List.length_cons, List.length_nil, List.replicate_succ, List.replicate_zero, List.nil_append, List.cons_append, List.append_nil, List.map_cons, List.map_nil, List.all_cons, List.all_nil, List.set_cons_zero, List.set_cons_succ, List.getD_cons_zero, List.getD_cons_succ, List.drop_zero, List.drop_succ_cons, List.take_succ_cons, List.take_zero, List.flatten_cons, List.flatten_nil, Bool.not_true, Bool.not_false, true_and, and_true, true_or, decide_true, decide_false, and_self, Nat.reduceLT, Nat.reduceLeDiff, List.reverse_cons, List.reverse_nil, Nat.zero_add, Nat.add_zero, Bool.false_eq_true, F1, G1, F3, G3, F4, G4, F5, G5, Z3k, Z4q, at_rat_Right, at_writes, Int.reduceEq]
    refine ⟨fun c => (hbad (.inl c)).symm, fun c => ⟨fun c2 => (hbad (.inr (.inl c2))).symm, fun c2 => ⟨fun c3 => ⟨fun c4 => ⟨hfo, ⟨hloc (by omega) c3, h1⟩, ?_⟩, fun c4 => (hbad (.inr (.inr (.inr (.inl ⟨.inl rfl, c4⟩))))).symm⟩, fun c3 => (hbad (.inr (.inr (.inl c3)))).symm⟩⟩⟩
    have hmom := hmom (fun h => by
      rcases h with h | h | h | ⟨-, h⟩ | ⟨h, -⟩
      · exact c h
      · exact c2 h
      · have h : ActG.right ⟨1, o, m, n⟩ l = false := h
        rw [c3] at h; cases h
      · have h : Z47 wn wd = false := h
        rw [c4] at h; cases h
      · exact h (.inl rfl)) (.inl rfl)
    have hmom : P = match Z4u ⟨1, o, m, n⟩ ⟨wn, wd⟩ (Z4w s s.length th o) (Z4m l s o) with
      | some e => e
      | none => 4 := hmom
    generalize Z4m l s o = W at *
    generalize Z4w s s.length th o = fr at *
    clear hbad hval hnon hfo hwz hwn hloc
    refine Loop.fam [3, 5, 7, 8, 9] (pdSt th 1 o m n wn wd fr W) (fun i => i ≤ W.length ∧ Z4u ⟨1, o, m, n⟩ ⟨wn, wd⟩ fr W = Z4u ⟨1, o, m, n⟩ ⟨wn, wd⟩ fr (W.drop i)) (fun i => W.length - i) 0 [1, 2, 3, 4] (by simp) (by simp) (by simp only [State.can, AV.can, AV.canL, HO.can, Z0v, idx, Z03, Z00, Heap.at, Nat.reduceBEq, ↓reduceIte, Nat.reduceEqDiff, Option.getD_some, Option.map_some, List.map_cons, List.map_nil, List.getD_cons_zero, List.getD_cons_succ, pdSt]; rfl) ⟨Nat.zero_le _, rfl⟩ ?_
    rintro i ⟨hi, hsc⟩
    have hi : i ≤ W.length := hi
    have hsc : Z4u ⟨1, o, m, n⟩ ⟨wn, wd⟩ fr W = Z4u ⟨1, o, m, n⟩ ⟨wn, wd⟩ fr (W.drop i) := hsc
    simp (maxSteps := 3000000) only [↓Z0g, ↓Z10, ↓Z16, ↓Z04, ↓Z0p, ↓Z0f, ↓Z09, ↓Z0a, ↓Z0o, ↓Z1u, ↓Z1i, ↓Z14, ↓Z15, ↓Z23, ↓Z0n, ↓Z1p, ↓Z3g, ↓Z30, ↓Z4o, ↓Z0i, ↓Z0c, ↓Z0z, ↓Z0b, Z2m, Z05, Z0q, Z17, Z1b, evN, Z19, Z0m, Z1a, Z24, Z0l, Z0e, Z0k, Z0w, evT, Opd.ev, Z03, Z00, Z18, Z0u, Z0x, Z0d, Z1t, LOp.isNew, State.prune, Heap.at, Z06, Z02, Z0j, Z08, Z2i, StampG.row, Z1z, Int.toNat_natCast, Z3x, List.take_of_length_le, Z2p, Z3a, Z32, binT, binQ, chk, Z2h, Bool.and_self, resQ, resV, resT, Z13, Z1y, fnOf, Z1v, isD, Z3u, Z0t, RetS, Nat.le_refl, AV.d.injEq, DV.int.injEq, ↓reduceIte, Nat.reduceAdd, Nat.reduceBEq, List.length_cons, List.length_nil, List.replicate_zero, List.nil_append, List.cons_append, List.append_nil, List.map_cons, List.map_nil, List.all_cons, List.all_nil, List.getD_cons_zero, List.getD_cons_succ, List.drop_zero, List.drop_succ_cons, List.take_succ_cons, List.take_zero, List.flatten_cons, List.flatten_nil, true_and, and_true, decide_true, decide_false, and_self, Nat.reduceLT, Nat.reduceLeDiff, List.reverse_cons, List.reverse_nil, Nat.zero_add, Nat.add_zero, Bool.false_eq_true, pdSt, F6, G6, at_rat_Cmp, Int.reduceEq]
    have hnil : ¬ (i : Int) < W.length → Z4u ⟨1, o, m, n⟩ ⟨wn, wd⟩ fr W = none := fun c => by rw [hsc, List.drop_of_length_le (by omega)]; rfl
    have hsome : i < W.length → cmpG (W.getD i default).when ⟨wn, wd⟩ = 0 → P = (if (1 : Int) = 2 then (5 : Int) else if cmpG ⟨wn, wd⟩ fr < 0 then 6 else if (W.getD i default).val = m then 0 else 3) := fun hlt hc => by
      have hd := pastScan_drop (a := ⟨1, o, m, n⟩) (w := ⟨wn, wd⟩) (fr := fr) hlt
      rw [← hsc, if_pos hc] at hd
      rw [hmom, hd]
    have hnext : i < W.length → ¬ cmpG (W.getD i default).when ⟨wn, wd⟩ = 0 → Z4u ⟨1, o, m, n⟩ ⟨wn, wd⟩ fr W = Z4u ⟨1, o, m, n⟩ ⟨wn, wd⟩ fr (W.drop (i + 1)) := fun hlt hc => by
      have hd := pastScan_drop (a := ⟨1, o, m, n⟩) (w := ⟨wn, wd⟩) (fr := fr) hlt
      rw [← hsc, if_neg hc] at hd
      exact hd
    have hbd : (i : Int) < W.length → (0 : Int) ≤ i ∧ (i : Int) < W.length := fun c => ⟨by omega, c⟩
    refine ⟨fun c => ⟨hbd c, by omega, fun c1 => ⟨fun c2 => ?_, fun c2 => ⟨hbd c, by omega, fun c3 => ?_, fun c3 => ?_⟩⟩, fun c1 => Z0r.mk [0, 1, 2, 3] (i + 1) (by simp) (by simp) (by simp only [State.can, AV.can, AV.canL, HO.can, Z0v, idx, Z03, Z00, Heap.at, Nat.reduceBEq, ↓reduceIte, Nat.reduceEqDiff, Option.getD_some, Option.map_some, List.map_cons, List.map_nil, List.getD_cons_zero, List.getD_cons_succ, pdSt, Z2n (show i < W.length by omega) (by omega)]) ⟨by show i + 1 ≤ _; omega, hnext (by omega) c1⟩ (by show _ - (i + 1) < _ - i; omega)⟩, fun c => ?_⟩
    · rw [hsome (by omega) c1, if_neg (by decide)]; exact (if_pos c2).symm
    · rw [hsome (by omega) c1, if_neg (by decide)]; exact ((if_neg c2).trans (if_pos c3)).symm
    · rw [hsome (by omega) c1, if_neg (by decide)]; exact ((if_neg c2).trans (if_neg c3)).symm
    · rw [hmom, hnil c]
  · simp (maxSteps := 3000000) only [↓Z0g, ↓Z10, ↓Z04, ↓Z0p, ↓Z0f, ↓Z09, ↓Z1g, ↓Z0a, ↓Z0o, ↓Z1i, ↓Z0n, ↓Z1p, ↓Z0i, ↓Z0c, ↓Z0z, ↓Z0b, Z2m, Z05, Z0q, Z17, Z12, Z1b, evN, Z19, Z0m, Z1a, Z24, Z0l, Z0e, Z0k, Z1s, Z1q, Z1o, Z0w, evT, Opd.ev, Z03, Z00, Z18, Z2l, Z1k, Z1h, Z0u, Z0x, Z0y, Z0d, Z1t, LOp.isNew, State.prune, Z1j, Z1d, AV.leaf, Heap.at, Z06, Z02, Z07, Z01, Int.toNat_natCast, Z3x, List.length_map, List.take_of_length_le, Z2p, Z3a, Z32, evUn, binT, binQ, chk, Z2h, List.contains_nil, Bool.and_self, resQ, resV, resT, Z4n, Z13, Z1y, fnOf, Z1v, isD, Z3u, putRow, Z0t, RetS, Nat.le_refl, AV.d.injEq, DV.int.injEq, ↓reduceIte, Nat.reduceAdd, Nat.reduceBEq, List.length_cons, List.length_nil, List.replicate_succ, List.replicate_zero, List.nil_append, List.cons_append, List.append_nil, List.map_cons, List.map_nil, List.all_cons, List.all_nil, List.set_cons_zero, List.set_cons_succ, List.getD_cons_zero, List.getD_cons_succ, List.drop_zero, List.drop_succ_cons, List.take_succ_cons, List.take_zero, List.flatten_cons, List.flatten_nil, Bool.not_true, Bool.not_false, true_and, and_true, true_or, decide_true, decide_false, and_self, Nat.reduceLT, Nat.reduceLeDiff, List.reverse_cons, List.reverse_nil, Nat.zero_add, Nat.add_zero, Bool.false_eq_true, F1, G1, F3, G3, F4, G4, F5, G5, Z3k, Z4q, at_rat_Right, at_writes, Int.reduceEq]
    refine ⟨fun c => (hbad (.inl c)).symm, fun c => ⟨fun c2 => (hbad (.inr (.inl c2))).symm, fun c2 => ⟨fun c3 => ⟨fun c4 => ⟨hfo, ⟨hloc (by omega) c3, h1⟩, ?_⟩, fun c4 => (hbad (.inr (.inr (.inr (.inl ⟨.inr rfl, c4⟩))))).symm⟩, fun c3 => (hbad (.inr (.inr (.inl c3)))).symm⟩⟩⟩
    have hmom := hmom (fun h => by
      rcases h with h | h | h | ⟨-, h⟩ | ⟨h, -⟩
      · exact c h
      · exact c2 h
      · have h : ActG.right ⟨2, o, m, n⟩ l = false := h
        rw [c3] at h; cases h
      · have h : Z47 wn wd = false := h
        rw [c4] at h; cases h
      · exact h (.inr rfl)) (.inr rfl)
    have hmom : P = match Z4u ⟨2, o, m, n⟩ ⟨wn, wd⟩ (Z4w s s.length th o) (Z4m l s o) with
      | some e => e
      | none => if cmpG ⟨wn, wd⟩ (Z4w s s.length th o) ≤ 0 then 6 else 0 := hmom
    generalize Z4m l s o = W at *
    generalize Z4w s s.length th o = fr at *
    clear hbad hval hnon hfo hwz hwn hloc
    refine Loop.fam [3, 5, 7, 8, 9] (pdSt th 2 o m n wn wd fr W) (fun i => i ≤ W.length ∧ Z4u ⟨2, o, m, n⟩ ⟨wn, wd⟩ fr W = Z4u ⟨2, o, m, n⟩ ⟨wn, wd⟩ fr (W.drop i)) (fun i => W.length - i) 0 [1, 2, 3, 4] (by simp) (by simp) (by simp only [State.can, AV.can, AV.canL, HO.can, Z0v, idx, Z03, Z00, Heap.at, Nat.reduceBEq, ↓reduceIte, Nat.reduceEqDiff, Option.getD_some, Option.map_some, List.map_cons, List.map_nil, List.getD_cons_zero, List.getD_cons_succ, pdSt]; rfl) ⟨Nat.zero_le _, rfl⟩ ?_
    rintro i ⟨hi, hsc⟩
    have hi : i ≤ W.length := hi
    have hsc : Z4u ⟨2, o, m, n⟩ ⟨wn, wd⟩ fr W = Z4u ⟨2, o, m, n⟩ ⟨wn, wd⟩ fr (W.drop i) := hsc
    simp (maxSteps := 3000000) only [↓Z0g, ↓Z10, ↓Z16, ↓Z04, ↓Z0p, ↓Z0f, ↓Z09, ↓Z0a, ↓Z0o, ↓Z1u, ↓Z1i, ↓Z15, ↓Z23, ↓Z0n, ↓Z1p, ↓Z3g, ↓Z30, ↓Z4o, ↓Z0i, ↓Z0c, ↓Z0z, ↓Z0b, Z2m, Z05, Z0q, Z17, Z1b, evN, Z19, Z0m, Z1a, Z24, Z0l, Z0e, Z0k, Z0w, evT, Opd.ev, Z03, Z00, Z18, Z0u, Z0x, Z0d, Z1t, LOp.isNew, State.prune, Heap.at, Z06, Z02, Z0j, Z08, StampG.row, Z1z, Int.toNat_natCast, Z3x, List.take_of_length_le, Z2p, Z3a, Z32, binT, binQ, chk, Z2h, Bool.and_self, resQ, resV, resT, Z13, Z1y, fnOf, Z1v, isD, Z3u, Z0t, RetS, Nat.le_refl, AV.d.injEq, DV.int.injEq, ↓reduceIte, Nat.reduceAdd, Nat.reduceBEq, List.length_cons, List.length_nil, List.replicate_zero, List.nil_append, List.cons_append, List.append_nil, List.map_cons, List.map_nil, List.all_cons, List.all_nil, List.getD_cons_zero, List.getD_cons_succ, List.drop_zero, List.drop_succ_cons, List.take_succ_cons, List.take_zero, List.flatten_cons, List.flatten_nil, true_and, and_true, decide_true, decide_false, and_self, Nat.reduceLT, Nat.reduceLeDiff, List.reverse_cons, List.reverse_nil, Nat.zero_add, Nat.add_zero, Bool.false_eq_true, pdSt, F6, G6, at_rat_Cmp, Int.reduceEq]
    have hnil : ¬ (i : Int) < W.length → Z4u ⟨2, o, m, n⟩ ⟨wn, wd⟩ fr W = none := fun c => by rw [hsc, List.drop_of_length_le (by omega)]; rfl
    have hsome : i < W.length → cmpG (W.getD i default).when ⟨wn, wd⟩ = 0 → P = (if (2 : Int) = 2 then (5 : Int) else if cmpG ⟨wn, wd⟩ fr < 0 then 6 else if (W.getD i default).val = m then 0 else 3) := fun hlt hc => by
      have hd := pastScan_drop (a := ⟨2, o, m, n⟩) (w := ⟨wn, wd⟩) (fr := fr) hlt
      rw [← hsc, if_pos hc] at hd
      rw [hmom, hd]
    have hnext : i < W.length → ¬ cmpG (W.getD i default).when ⟨wn, wd⟩ = 0 → Z4u ⟨2, o, m, n⟩ ⟨wn, wd⟩ fr W = Z4u ⟨2, o, m, n⟩ ⟨wn, wd⟩ fr (W.drop (i + 1)) := fun hlt hc => by
      have hd := pastScan_drop (a := ⟨2, o, m, n⟩) (w := ⟨wn, wd⟩) (fr := fr) hlt
      rw [← hsc, if_neg hc] at hd
      exact hd
    have hbd : (i : Int) < W.length → (0 : Int) ≤ i ∧ (i : Int) < W.length := fun c => ⟨by omega, c⟩
    refine ⟨fun c => ⟨hbd c, by omega, fun c1 => ?_, fun c1 => Z0r.mk [0, 1, 2, 3] (i + 1) (by simp) (by simp) (by simp only [State.can, AV.can, AV.canL, HO.can, Z0v, idx, Z03, Z00, Heap.at, Nat.reduceBEq, ↓reduceIte, Nat.reduceEqDiff, Option.getD_some, Option.map_some, List.map_cons, List.map_nil, List.getD_cons_zero, List.getD_cons_succ, pdSt, Z2n (show i < W.length by omega) (by omega)]) ⟨by show i + 1 ≤ _; omega, hnext (by omega) c1⟩ (by show _ - (i + 1) < _ - i; omega)⟩, fun c => ⟨fun c1 => ?_, fun c1 => ?_⟩⟩
    · rw [hsome (by omega) c1, if_pos rfl]
    · rw [hmom, hnil c]; exact (if_pos c1).symm
    · rw [hmom, hnil c]; exact (if_neg c1).symm
  · simp (maxSteps := 3000000) only [↓Z0g, ↓Z10, ↓Z04, ↓Z0p, ↓Z0f, ↓Z0a, ↓Z0o, ↓Z1i, ↓Z0n, ↓Z1p, ↓Z0i, ↓Z0c, ↓Z0z, ↓Z0b, ↓Z1r, Z2m, Z05, Z0q, Z17, Z12, Z1b, evN, Z19, Z0m, Z1a, Z24, Z0l, Z0e, Z0k, Z1s, Z1q, Z1o, Z0w, evT, Opd.ev, Z03, Z00, Z18, Z2l, Z1k, Z1h, Z0u, Z0x, Z0y, Z0d, Z1t, LOp.isNew, State.prune, Z1j, Z1d, AV.leaf, Heap.at, Z06, Z02, Z07, Z01, List.take_of_length_le, Z2p, Z3a, Z32, evUn, binT, binQ, chk, Z2h, List.contains_cons, List.contains_nil, Bool.or_false, Bool.and_self, resQ, resV, resT, Z4n, Z13, Z1y, fnOf, Z1v, isD, Z3u, evEq, eqV, eqK, eqC1, Z3t, Z3i, putRow, Z0t, RetS, Nat.le_refl, AV.d.injEq, DV.int.injEq, ↓reduceIte, Nat.reduceAdd, Nat.reduceBEq, List.length_cons, List.length_nil, List.replicate_succ, List.replicate_zero, List.nil_append, List.cons_append, List.append_nil, List.map_cons, List.map_nil, List.all_cons, List.all_nil, List.set_cons_zero, List.set_cons_succ, List.getD_cons_zero, List.getD_cons_succ, List.drop_zero, List.drop_succ_cons, List.take_succ_cons, List.take_zero, List.flatten_cons, List.flatten_nil, Bool.and_true, Bool.not_false, true_and, Option.bind_some, Option.map_some, decide_true, decide_false, and_self, Nat.reduceLT, Nat.reduceLeDiff, List.reverse_cons, List.reverse_nil, Nat.zero_add, Nat.add_zero, Bool.false_eq_true, F2, G2, F3, G3, Z3v, Z4q, Int.reduceEq]
    refine ⟨fun c => (hbad (.inl c)).symm, fun c => ⟨fun c2 => (hbad (.inr (.inl c2))).symm, fun c2 => ⟨fun c3 => ⟨fun c4 => ⟨⟨hloc (by omega) c3, by omega⟩, fun c5 => (hnon ?_ ?_ ?_).symm, fun c5 => (hval ?_ ⟨.inl rfl, c5⟩).symm⟩, fun c4 => (hbad (.inr (.inr (.inr (.inr ⟨by show ¬ ((3 : Int) = 1 ∨ (3 : Int) = 2); omega, hwn c4⟩))))).symm⟩, fun c3 => (hbad (.inr (.inr (.inl c3)))).symm⟩⟩⟩
    case refine_2 => exact fun h => h.2 c5
    case refine_3 => show ¬ ((3 : Int) = 1 ∨ (3 : Int) = 2); omega
    all_goals
      intro h
      rcases h with h | h | h | ⟨h, -⟩ | ⟨-, h⟩
      · exact c h
      · exact c2 h
      · have h : ActG.right ⟨3, o, m, n⟩ l = false := h
        rw [c3] at h; cases h
      · have h : (3 : Int) = 1 ∨ (3 : Int) = 2 := h
        omega
      · exact h (hwz c4)
  · simp (maxSteps := 3000000) only [↓Z0g, ↓Z10, ↓Z04, ↓Z0p, ↓Z0f, ↓Z0a, ↓Z0o, ↓Z1i, ↓Z0n, ↓Z1p, ↓Z0i, ↓Z0c, ↓Z0z, ↓Z0b, ↓Z1r, Z2m, Z05, Z0q, Z17, Z12, Z1b, evN, Z19, Z0m, Z1a, Z24, Z0l, Z0e, Z0k, Z1s, Z1q, Z1o, Z0w, evT, Opd.ev, Z03, Z00, Z18, Z2l, Z1k, Z1h, Z0u, Z0x, Z0y, Z0d, Z1t, LOp.isNew, State.prune, Z1j, Z1d, AV.leaf, Heap.at, Z06, Z02, Z07, Z01, List.take_of_length_le, Z2p, Z3a, Z32, evUn, binT, binQ, chk, Z2h, List.contains_cons, List.contains_nil, Bool.or_false, Bool.and_self, resQ, resV, resT, Z4n, Z13, Z1y, fnOf, Z1v, isD, Z3u, evEq, eqV, eqK, eqC1, Z3t, Z3i, putRow, Z0t, RetS, Nat.le_refl, AV.d.injEq, DV.int.injEq, ↓reduceIte, Nat.reduceAdd, Nat.reduceBEq, List.length_cons, List.length_nil, List.replicate_succ, List.replicate_zero, List.nil_append, List.cons_append, List.append_nil, List.map_cons, List.map_nil, List.all_cons, List.all_nil, List.set_cons_zero, List.set_cons_succ, List.getD_cons_zero, List.getD_cons_succ, List.drop_zero, List.drop_succ_cons, List.take_succ_cons, List.take_zero, List.flatten_cons, List.flatten_nil, Bool.and_true, Bool.not_false, true_and, Option.bind_some, Option.map_some, decide_true, decide_false, and_self, Nat.reduceLT, Nat.reduceLeDiff, List.reverse_cons, List.reverse_nil, Nat.zero_add, Nat.add_zero, Bool.false_eq_true, F2, G2, F3, G3, Z3v, Z4q, Int.reduceEq]
    refine ⟨fun c => (hbad (.inl c)).symm, fun c => ⟨fun c2 => (hbad (.inr (.inl c2))).symm, fun c2 => ⟨fun c3 => ⟨fun c4 => ⟨⟨hloc (by omega) c3, by omega⟩, fun c5 => (hnon ?_ ?_ ?_).symm, fun c5 => (hval ?_ ⟨.inr rfl, c5⟩).symm⟩, fun c4 => (hbad (.inr (.inr (.inr (.inr ⟨by show ¬ ((5 : Int) = 1 ∨ (5 : Int) = 2); omega, hwn c4⟩))))).symm⟩, fun c3 => (hbad (.inr (.inr (.inl c3)))).symm⟩⟩⟩
    case refine_2 => exact fun h => h.2 c5
    case refine_3 => show ¬ ((5 : Int) = 1 ∨ (5 : Int) = 2); omega
    all_goals
      intro h
      rcases h with h | h | h | ⟨h, -⟩ | ⟨-, h⟩
      · exact c h
      · exact c2 h
      · have h : ActG.right ⟨5, o, m, n⟩ l = false := h
        rw [c3] at h; cases h
      · have h : (5 : Int) = 1 ∨ (5 : Int) = 2 := h
        omega
      · exact h (hwz c4)
  · simp (maxSteps := 3000000) only [↓Z0g, ↓Z10, ↓Z04, ↓Z0p, ↓Z0f, ↓Z0a, ↓Z0o, ↓Z1i, ↓Z0n, ↓Z1p, ↓Z0i, ↓Z0c, ↓Z0z, ↓Z0b, ↓Z1r, Z2m, Z05, Z0q, Z17, Z12, Z1b, evN, Z19, Z0m, Z1a, Z24, Z0l, Z0e, Z0k, Z1s, Z1q, Z1o, Z0w, evT, Opd.ev, Z03, Z00, Z18, Z2l, Z1k, Z1h, Z0u, Z0x, Z0y, Z0d, Z1t, LOp.isNew, State.prune, Z1j, Z1d, AV.leaf, Heap.at, Z06, Z02, Z07, Z01, List.take_of_length_le, Z2p, Z3a, Z32, evUn, binT, binQ, chk, Z2h, List.contains_nil, Bool.and_self, resQ, resV, resT, Z4n, Z13, Z1y, fnOf, Z1v, isD, Z3u, evEq, eqV, eqK, eqC1, Z3t, Z3i, putRow, Z0t, RetS, Nat.le_refl, AV.d.injEq, DV.int.injEq, ↓reduceIte, Nat.reduceAdd, Nat.reduceBEq, List.length_cons, List.length_nil, List.replicate_succ, List.replicate_zero, List.nil_append, List.cons_append, List.append_nil, List.map_cons, List.map_nil, List.all_cons, List.all_nil, List.set_cons_zero, List.set_cons_succ, List.getD_cons_zero, List.getD_cons_succ, List.drop_zero, List.drop_succ_cons, List.take_succ_cons, List.take_zero, List.flatten_cons, List.flatten_nil, Bool.and_true, Bool.not_false, true_and, Option.bind_some, Option.map_some, decide_false, and_self, Nat.reduceLT, Nat.reduceLeDiff, List.reverse_cons, List.reverse_nil, Nat.zero_add, Nat.add_zero, Bool.false_eq_true, F3, G3, Z4q, e1, e2, e3, e4]
    refine ⟨fun c => (hbad (.inl c)).symm, fun c => ⟨fun c2 => (hbad (.inr (.inl c2))).symm, fun c2 => ⟨fun c3 => ⟨fun c4 => (hnon ?_ ?_ ?_).symm, fun c4 => (hbad (.inr (.inr (.inr (.inr ⟨by show ¬ (k = 1 ∨ k = 2); omega, hwn c4⟩))))).symm⟩, fun c3 => (hbad (.inr (.inr (.inl c3)))).symm⟩⟩⟩
    · intro h
      rcases h with h | h | h | ⟨h, -⟩ | ⟨-, h⟩
      · exact c h
      · exact c2 h
      · have h : ActG.right ⟨k, o, m, n⟩ l = false := h
        rw [c3] at h; cases h
      · have h : k = 1 ∨ k = 2 := h
        omega
      · exact h (hwz c4)
    · intro h
      have h : (k = 3 ∨ k = 5) ∧ _ := h
      omega
    · show ¬ (k = 1 ∨ k = 2); omega
end Go.Ago

/- A memory, and the steps that it comes from: they say the same. Conditions: none. -/
set_option maxRecDepth 100000
set_option linter.unusedSimpArgs false
set_option linter.unusedVariables false
namespace Go.Ago
theorem leastQ_idem {a : RatG} (h : Z4l a = true) : leastQ (leastQ a) = leastQ a := by
  have := (least_one (leastQ_right h) h).1 (leastQ_cmp h)
  unfold leastQ at this ⊢
  rw [this]
theorem least_eq {a b : RatG} (h1 : Z4l a = true) (h2 : Z4l b = true) (la : leastQ a = a) (lb : leastQ b = b) (h : cmpQ' a b = 0) : a = b := by
  have := (least_one h1 h2).1 h
  rw [← la, ← lb]
  unfold leastQ
  rw [this]
theorem max_comm {a b : RatG} (h1 : Z4l a = true) (h2 : Z4l b = true) (la : leastQ a = a) (lb : leastQ b = b) : ratMaxG a b = ratMaxG b a := by
  rw [ratMaxG_eq, ratMaxG_eq]
  have := cmpQ_anti a b
  by_cases h : cmpQ' a b < 0
  · rw [if_pos h, if_neg (by omega)]
  · by_cases h3 : cmpQ' b a < 0
    · rw [if_neg h, if_pos h3]
    · rw [if_neg h, if_neg h3]
      exact least_eq h1 h2 la lb (by omega)
theorem max_least {a b : RatG} (la : leastQ a = a) (lb : leastQ b = b) : leastQ (ratMaxG a b) = ratMaxG a b := by
  rw [ratMaxG_eq]; split <;> assumption
theorem leastG_eq (q : RatG) : leastG q = leastQ q := rfl
/-! ### What a step leaves -/
section
variable {m : Mem} {s : StepG} {b x : Nat}
theorem fr_do (h : m.Good b) (he : doErr m s = 0) {u : Nat} (hu : u < m.fronts.length) (hx : x < m.locs.length) : frAt (doMem m s) u x =
    if s.act.kind = 2 ∧ u = s.thread.toNat ∧ s.act.loc.toNat = x then leastQ s.when
    else if isAt s.act.kind = true ∧ u = s.thread.toNat then ratMaxG (frAt m u x) (mkAt m s.act.loc.toNat x) else frAt m u x := by
  by_cases hk : s.act.kind = 2
  · have hna : ¬ isAt s.act.kind = true := by rw [isAt_iff]; omega
    rw [if_neg (fun e : isAt s.act.kind = true ∧ u = s.thread.toNat => hna e.1)]
    by_cases hc : u = s.thread.toNat ∧ s.act.loc.toNat = x
    · rw [if_pos ⟨hk, hc⟩, hc.1]
      exact fr_write h he hk hc.2
    · rw [if_neg (fun e => hc e.2)]
      unfold doMem frAt
      rw [if_pos hk]
      show ((m.fronts.set _ _).getD u []).getD x _ = _
      rw [getD_setQ]
      split
      · rename_i e
        rw [getD_setQ, if_neg (fun e2 => hc ⟨e.1.symm, e2.1⟩)]
        unfold frontOf; rw [e.1]
      · rfl
  · rw [if_neg (fun e => hk e.1)]
    by_cases hc : isAt s.act.kind = true ∧ u = s.thread.toNat
    · rw [if_pos hc, hc.2]
      exact fr_atom h he hc.1 hx
    · rw [if_neg hc]
      unfold doMem
      rw [if_neg hk]
      split
      · rename_i ha
        have hne : ¬ s.thread.toNat = u := fun e => hc ⟨ha, e.symm⟩
        split
        · unfold frAt
          show ((m.fronts.set _ _).getD u []).getD x _ = _
          rw [getD_setQ, if_neg (fun e => hne e.1)]
        · unfold frAt
          show ((m.fronts.set _ _).getD u []).getD x _ = _
          rw [getD_setQ, if_neg (fun e => hne e.1)]
      · rfl
theorem mk_do (h : m.Good b) (he : doErr m s = 0) {y : Nat} (hx : x < m.locs.length) : mkAt (doMem m s) y x =
    if isSet s.act.kind = true ∧ y = s.act.loc.toNat then ratMaxG (frAt m s.thread.toNat x) (mkAt m y x) else mkAt m y x := by
  by_cases hc : isSet s.act.kind = true ∧ y = s.act.loc.toNat
  · rw [if_pos hc, hc.2]
    exact mk_set h he hc.1 hx
  · rw [if_neg hc]
    unfold doMem
    split
    · rfl
    · split
      · rename_i h2 ha
        split
        · rfl
        · rename_i h3
          have hs : isSet s.act.kind = true := by rw [isAt_iff] at ha; unfold isSet; simp; omega
          unfold mkAt
          show ((m.marks.set _ _).getD y []).getD x _ = _
          rw [getD_setQ, if_neg (fun e => hc ⟨hs, e.1.symm⟩)]
      · rfl
theorem val_do (h : m.Good b) (he : doErr m s = 0) {y : Nat} (hy : y < m.locs.length) : (doMem m s).vals.getD y 0 = if isSet s.act.kind = true ∧ y = s.act.loc.toNat then s.act.new else m.vals.getD y 0 := by
  unfold doMem
  split
  · rename_i hk
    rw [if_neg]
    intro e
    unfold isSet at e
    simp at e
    omega
  · split
    · rename_i h2 ha
      split
      · rename_i h3
        rw [if_neg]
        intro e
        unfold isSet at e
        simp at e
        omega
      · rename_i h3
        have hs : isSet s.act.kind = true := by rw [isAt_iff] at ha; unfold isSet; simp; omega
        show (m.vals.set _ _).getD y 0 = _
        rw [getD_setQ]
        by_cases e : y = s.act.loc.toNat
        · rw [if_pos ⟨e.symm, by rw [h.wf.vals]; exact hy⟩, if_pos ⟨hs, e⟩]
        · rw [if_neg (fun h => e h.1.symm), if_neg (fun h => e h.2)]
    · rename_i h2 ha
      rw [if_neg]
      intro e
      exact ha (isAt_set e.1)
theorem mem_ins {L : List StampG} {i : Nat} {v e : StampG} : e ∈ insG L i v ↔ e = v ∨ e ∈ L := by
  unfold insG
  rw [List.mem_append, List.mem_cons]
  constructor
  · rintro (h | h | h)
    · exact .inr (List.mem_of_mem_take h)
    · exact .inl h
    · exact .inr (List.mem_of_mem_drop h)
  · rintro (h | h)
    · exact .inr (.inl h)
    · rw [← List.take_append_drop i L, List.mem_append] at h
      rcases h with h | h
      · exact .inl h
      · exact .inr (.inr h)
end
/-! ### Fronts, told by the steps -/
theorem frontG_pre {s : List StepG} {st : StepG} : ∀ {n : Nat} {who loc : Int}, n ≤ s.length → Z4w (s ++ [st]) n who loc = Z4w s n who loc := by
  intro n
  induction n with
  | zero => intro who loc _; rfl
  | succ n ih =>
    intro who loc h
    have e : (s ++ [st]).getD n default = s.getD n default := by
      rw [List.getD_eq_getElem?_getD, List.getD_eq_getElem?_getD, List.getElem?_append, if_pos (by omega)]
    simp only [Z4w]
    rw [e, ih (by omega), ih (by omega), ih (by omega)]
theorem frontG_add {s : List StepG} {st : StepG} {who loc : Int} : Z4w (s ++ [st]) (s ++ [st]).length who loc =
    if st.act.kind = 2 ∧ who = st.thread ∧ st.act.loc = loc then leastG st.when
    else if (st.act.kind = 3 ∨ st.act.kind = 4 ∨ st.act.kind = 5) ∧ who = st.thread then ratMaxG (Z4w s s.length who loc) (Z4w s s.length (-1 - st.act.loc) loc)
    else if (st.act.kind = 4 ∨ st.act.kind = 5) ∧ who = -1 - st.act.loc then ratMaxG (Z4w s s.length who loc) (Z4w s s.length st.thread loc)
    else Z4w s s.length who loc := by
  have e : (s ++ [st]).getD s.length default = st := by simp
  rw [show (s ++ [st]).length = s.length + 1 by simp]
  simp only [Z4w]
  rw [e, frontG_pre (Nat.le_refl _), frontG_pre (Nat.le_refl _), frontG_pre (Nat.le_refl _)]
/-- A memory is what its steps say. -/
structure AsPast (l : List LocG) (t : Int) (s : List StepG) (m : Mem) : Prop where
  locs : m.locs = l
  thr : (m.fronts.length : Int) = t
  fronts : ∀ u x, u < m.fronts.length → x < l.length → frAt m u x = Z4w s s.length u x
  marks : ∀ y x, y < l.length → (l.getD y default).atom = true → x < l.length → mkAt m y x = Z4w s s.length (-1 - (y : Int)) x
  vals : ∀ y, y < l.length → (l.getD y default).atom = true → m.vals.getD y 0 = valueG l s y
  past : ∀ x, x < l.length → (l.getD x default).atom = false → ∀ e, e ∈ paAt m x ↔ e ∈ Z4m l s x
  lf : ∀ u x, u < m.fronts.length → x < l.length → leastQ (frAt m u x) = frAt m u x
  lm : ∀ y x, y < l.length → (l.getD y default).atom = true → x < l.length → leastQ (mkAt m y x) = mkAt m y x
theorem like_step {l : List LocG} {t : Int} {s : List StepG} {m : Mem} {st : StepG} {b : Nat} (hL : AsPast l t s m) (hg : m.Good b) (he : doErr m st = 0) : AsPast l t (s ++ [st]) (doMem m st) := by
  have ht := taken he
  have t0 := ht.t0
  have hu := take_u he
  have hlocs := doMem_locs m st
  have hfl := doMem_fronts m st
  have lp : st.act.kind = 2 → 0 ≤ st.act.loc := fun h => (ht.loc (.inl (by rw [h]; rfl))).1
  have la : isAt st.act.kind = true → 0 ≤ st.act.loc ∧ st.act.loc < l.length := fun h => by have := ht.loc (.inr h); rw [hL.locs] at this; exact this
  have at3 : (st.act.kind = 3 ∨ st.act.kind = 4 ∨ st.act.kind = 5) ↔ isAt st.act.kind = true := isAt_iff.symm
  have at2 : (st.act.kind = 4 ∨ st.act.kind = 5) ↔ isSet st.act.kind = true := by unfold isSet; simp
  have hmy : isAt st.act.kind = true → st.act.loc.toNat < l.length ∧ (l.getD st.act.loc.toNat default).atom = true := fun h => by have := take_at he h; rw [hL.locs] at this; exact this
  have hfd : ∀ u x, u < m.fronts.length → x < l.length → frAt (doMem m st) u x = Z4w (s ++ [st]) (s ++ [st]).length u x := fun u x hu2 hx => by
    have e1 := fr_do hg he hu2 (x := x) (by rw [hL.locs]; exact hx)
    have e2 := frontG_add (s := s) (st := st) (who := (u : Int)) (loc := (x : Int))
    by_cases h1 : st.act.kind = 2 ∧ u = st.thread.toNat ∧ st.act.loc.toNat = x
    · rw [if_pos h1] at e1
      rw [if_pos ⟨h1.1, by omega, by have := lp h1.1; omega⟩] at e2
      rw [e1, e2, leastG_eq]
    · rw [if_neg h1] at e1
      rw [if_neg (fun h => h1 ⟨h.1, by omega, by have := lp h.1; omega⟩)] at e2
      by_cases h2 : isAt st.act.kind = true ∧ u = st.thread.toNat
      · rw [if_pos h2] at e1
        rw [if_pos ⟨at3.2 h2.1, by omega⟩] at e2
        rw [e1, e2, hL.fronts u x hu2 hx, hL.marks _ x (hmy h2.1).1 (hmy h2.1).2 hx]
        have := la h2.1
        rw [show ((st.act.loc.toNat : Nat) : Int) = st.act.loc by omega]
      · rw [if_neg h2] at e1
        rw [if_neg (fun h => h2 ⟨at3.1 h.1, by omega⟩), if_neg (fun h => by have := la (isAt_set (at2.1 h.1)); omega)] at e2
        rw [e1, e2]
        exact hL.fronts u x hu2 hx
  have hmd : ∀ y x, y < l.length → (l.getD y default).atom = true → x < l.length → mkAt (doMem m st) y x = Z4w (s ++ [st]) (s ++ [st]).length (-1 - (y : Int)) x := fun y x hy ha hx => by
    have e1 := mk_do hg he (y := y) (x := x) (by rw [hL.locs]; exact hx)
    have e2 := frontG_add (s := s) (st := st) (who := -1 - (y : Int)) (loc := (x : Int))
    rw [if_neg (fun h => by omega), if_neg (fun h => by omega)] at e2
    by_cases h2 : isSet st.act.kind = true ∧ y = st.act.loc.toNat
    · have := la (isAt_set h2.1)
      rw [if_pos h2] at e1
      rw [if_pos ⟨at2.2 h2.1, by omega⟩] at e2
      have e3 := hL.fronts _ x hu hx
      rw [show ((st.thread.toNat : Nat) : Int) = st.thread by omega] at e3
      rw [e1, e2, ← hL.marks y x hy ha hx, ← e3]
      exact max_comm (fr_right hg hu (by rw [hL.locs]; exact hx)) (mk_right hg (by rw [hL.locs]; exact hy) (by rw [hL.locs]; exact ha) (by rw [hL.locs]; exact hx)) (hL.lf _ x hu hx) (hL.lm y x hy ha hx)
    · rw [if_neg h2] at e1
      rw [if_neg (fun h => h2 ⟨at2.1 h.1, by have := la (isAt_set (at2.1 h.1)); omega⟩)] at e2
      rw [e1, e2]
      exact hL.marks y x hy ha hx
  refine ⟨by rw [hlocs]; exact hL.locs, by rw [hfl]; exact hL.thr, fun u x hu2 hx => hfd u x (by rw [← hfl]; exact hu2) hx, hmd, fun y hy ha => ?_, fun x hx ha e => ?_, fun u x hu2 hx => ?_, fun y x hy ha hx => ?_⟩
  · rw [val_do hg he (by rw [hL.locs]; exact hy)]
    have : valueG l (s ++ [st]) y = stepSets y (valueG l s y) st := by unfold valueG; rw [List.foldl_append]; rfl
    rw [this]
    unfold stepSets
    by_cases h2 : isSet st.act.kind = true ∧ y = st.act.loc.toNat
    · have := la (isAt_set h2.1)
      rw [if_pos h2, if_pos ⟨by omega, at2.2 h2.1⟩]
    · rw [if_neg h2, if_neg (fun h => h2 ⟨at2.1 h.2, by omega⟩)]
      exact hL.vals y hy ha
  · have hw : Z4m l (s ++ [st]) x = stepWrites x (Z4m l s x) st := by unfold Z4m; rw [List.foldl_append]; rfl
    rw [hw]
    unfold stepWrites
    by_cases h2 : st.act.kind = 2 ∧ st.act.loc.toNat = x
    · have := lp h2.1
      rw [pa_write hg he h2.1 h2.2, mem_ins, if_pos ⟨h2.1, by omega⟩, List.mem_append, List.mem_singleton, leastG_eq, hL.past x hx ha e]
      exact or_comm
    · rw [pa_same h2, if_neg (fun h => h2 ⟨h.1, by omega⟩)]
      exact hL.past x hx ha e
  · rw [hfl] at hu2
    rw [fr_do hg he hu2 (by rw [hL.locs]; exact hx)]
    split
    · rename_i h1; exact leastQ_idem (ht.when (by rw [h1.1]; rfl))
    · split
      · rename_i h2; exact max_least (hL.lf u x hu2 hx) (hL.lm _ x (hmy h2.1).1 (hmy h2.1).2 hx)
      · exact hL.lf u x hu2 hx
  · rw [mk_do hg he (by rw [hL.locs]; exact hx)]
    split
    · exact max_least (hL.lf _ x hu hx) (hL.lm y x hy ha hx)
    · exact hL.lm y x hy ha hx
theorem like_new {l : List LocG} {t : Int} (h : newErr l t = 0) : AsPast l t [] (newM l t).plain := by
  have hb : l.length ≤ 16 ∧ 1 ≤ t ∧ t ≤ 3 := by unfold newErr at h; split at h; cases h; omega
  have hl := new_locs h
  have hf : (newM l t).plain.fronts.length = t.toNat := by
    unfold newM; rw [if_pos h]
    show (inn (frontX l.length t.toNat)).length = _
    rw [Z31, frontX_len]
  have z : leastQ ⟨0, 1⟩ = ⟨0, 1⟩ := by decide
  have hm : ∀ y x, y < l.length → (l.getD y default).atom = true → x < l.length → mkAt (newM l t).plain y x = ⟨0, 1⟩ := fun y x hy ha hx => by
    unfold newM; rw [if_pos h]
    have e0 : (inn (l.map (markX l.length))).getD y [] = (markX l.length l[y]).1 := by
      rw [inn_map, List.getD_eq_getElem?_getD, List.getElem?_map, List.getElem?_eq_getElem hy]; rfl
    show ((inn (l.map (markX l.length))).getD y []).getD x default = _
    rw [e0]
    rw [Z3z hy] at ha
    unfold markX
    rw [if_pos ha]
    show (startG l.length).getD x default = _
    unfold startG
    rw [Z3z (by simpa using hx)]; simp
  refine ⟨hl, by omega, fun u x hu hx => new_front h hu hx, fun y x hy ha hx => hm y x hy ha hx, fun y hy ha => ?_, fun x hx ha e => ?_, fun u x hu hx => by rw [new_front h hu hx]; exact z, fun y x hy ha hx => by rw [hm y x hy ha hx]; exact z⟩
  · have : (newM l t).plain.vals = l.map valX := by unfold newM; rw [if_pos h]; rfl
    rw [this, List.getD_eq_getElem?_getD, List.getElem?_map, List.getElem?_eq_getElem hy]
    show valX l[y] = (l.getD (y : Int).toNat default).init
    rw [Int.toNat_natCast]
    rw [Z3z hy] at ha ⊢
    unfold valX; rw [if_pos ha]
  · rw [new_past h hx ha]
    show _ ↔ e ∈ [(⟨⟨0, 1⟩, (l.getD (x : Int).toNat default).init⟩ : StampG)]
    rw [Int.toNat_natCast]
/-! ### One more step -/
theorem scan_none {a : ActG} {w fr : RatG} : ∀ {W : List StampG}, (∀ e ∈ W, cmpG e.when w ≠ 0) → Z4u a w fr W = none := by
  intro W
  induction W with
  | nil => intro _; rfl
  | cons e W ih =>
    intro h
    simp only [Z4u]
    rw [if_neg (h e (by simp))]
    exact ih fun x hx => h x (by simp [hx])
theorem scan_some {a : ActG} {w fr : RatG} {e : StampG} : ∀ {W : List StampG}, e ∈ W → cmpG e.when w = 0 → (∀ x ∈ W, cmpG x.when w = 0 → x = e) → Z4u a w fr W = some (if a.kind = 2 then 5 else if cmpG w fr < 0 then 6 else if e.val = a.old then 0 else 3) := by
  intro W
  induction W with
  | nil => intro h; cases h
  | cons x W ih =>
    intro h hc hu
    simp only [Z4u]
    by_cases hx : cmpG x.when w = 0
    · rw [if_pos hx, hu x (by simp) hx]
    · rw [if_neg hx]
      rcases List.mem_cons.1 h with rfl | h
      · exact absurd hc hx
      · exact ih h hc fun y hy => hu y (by simp [hy])
theorem like_do {l : List LocG} {t : Int} {s : List StepG} {m : Mem} {st : StepG} {b : Nat} (hL : AsPast l t s m) (hg : m.Good b) : pastDo l t s st = doErr m st := by
  have hthr := hL.thr
  have bad : (st.thread < 0 ∨ t ≤ st.thread ∨ st.act.right l = false ∨ ((st.act.kind = 1 ∨ st.act.kind = 2) ∧ rat_rightG st.when = false) ∨ (¬ (st.act.kind = 1 ∨ st.act.kind = 2) ∧ st.when ≠ ⟨0, 0⟩)) ↔ goodQ m st = false := by
    have eg : (goodQ m st = false) ↔ ¬ (goodQ m st = true) := by simp
    rw [eg, good_iff, hL.locs, isPl_iff]
    have e : rat_rightG st.when = Z4l st.when := rfl
    rw [e]
    constructor
    · rintro (h | h | h | ⟨h, h2⟩ | ⟨h, h2⟩) ⟨g1, g2, g3, g4, g5⟩
      · omega
      · omega
      · rw [h] at g3; cases g3
      · rw [g4 h] at h2; cases h2
      · exact h2 (g5 (by rw [← Bool.not_eq_true, isPl_iff]; exact h))
    · intro h
      by_cases h1 : st.thread < 0
      · exact .inl h1
      · by_cases h2 : t ≤ st.thread
        · exact .inr (.inl h2)
        · cases h3 : st.act.right l with
          | false => exact .inr (.inr (.inl rfl))
          | true =>
            refine .inr (.inr (.inr ?_))
            by_cases h4 : st.act.kind = 1 ∨ st.act.kind = 2
            · refine .inl ⟨h4, ?_⟩
              cases h5 : Z4l st.when with
              | false => rfl
              | true => exact absurd ⟨by omega, by omega, h3, fun _ => h5, fun e => absurd h4 (by rw [← isPl_iff, e]; decide)⟩ h
            · refine .inr ⟨h4, fun e => ?_⟩
              exact h ⟨by omega, by omega, h3, fun e => absurd e h4, fun _ => e⟩
  by_cases hb : goodQ m st = false
  · rw [pastDo_bad (bad.2 hb)]
    unfold doErr; rw [if_pos hb]
  · have hnb := fun h => hb (bad.1 h)
    have hgood : goodQ m st = true := by simpa using hb
    obtain ⟨g1, g2, g3, g4, g5⟩ := good_iff.1 hgood
    have hu : st.thread.toNat < m.fronts.length := by omega
    have hloc : isPl st.act.kind = true ∨ isAt st.act.kind = true → 0 ≤ st.act.loc ∧ st.act.loc < m.locs.length := fun hk => by
      obtain ⟨t, ⟨k, o, q, v⟩, w⟩ := st
      exact right_locQ hk g3
    have pl : st.act.kind = 1 ∨ st.act.kind = 2 → ∀ P : Int, (Z4u st.act st.when (Z4w s s.length st.thread st.act.loc) (Z4m l s st.act.loc)).getD P =
        if bsHas (pastOf m st) st.when = true then (if st.act.kind = 2 then 5 else if cmpQ' st.when ((frontOf m st).getD st.act.loc.toNat default) < 0 then 6 else if ((pastOf m st).getD (bsAt (pastOf m st) st.when) default).val = st.act.old then 0 else 3) else P := fun hk P => by
      have hp := isPl_iff.2 hk
      obtain ⟨h0, h1⟩ := hloc (.inl hp)
      have hx : st.act.loc.toNat < l.length := by rw [← hL.locs]; omega
      have ha : (l.getD st.act.loc.toNat default).atom = false := by rw [← hL.locs]; exact right_plain hp g3
      have hwr := g4 hp
      have hr := pa_rising hg (x := st.act.loc.toNat) (by omega)
      have hmem := hL.past _ hx ha
      rw [show ((st.act.loc.toNat : Nat) : Int) = st.act.loc by omega] at hmem
      have hfr := hL.fronts _ _ hu hx
      rw [show ((st.act.loc.toNat : Nat) : Int) = st.act.loc by omega, show ((st.thread.toNat : Nat) : Int) = st.thread by omega] at hfr
      rw [← hfr]
      have hpo : pastOf m st = paAt m st.act.loc.toNat := rfl
      have hfo : (frontOf m st).getD st.act.loc.toNat default = frAt m st.thread.toNat st.act.loc.toNat := rfl
      rw [hpo, hfo]
      cases hh : bsHas (paAt m st.act.loc.toNat) st.when with
      | true =>
        obtain ⟨q1, q2⟩ := bsHas_true hh
        have := scan_some (a := st.act) (w := st.when) (fr := frAt m st.thread.toNat st.act.loc.toNat) ((hmem _).1 (getD_mem q1)) q2 (fun x hx2 hc => by
          obtain ⟨k, hk2, rfl⟩ := mem_getD ((hmem x).2 hx2)
          rw [(bsHas_of hr hwr hk2 hc).2])
        rw [this, if_pos rfl]; rfl
      | false =>
        have := scan_none (a := st.act) (w := st.when) (fr := frAt m st.thread.toNat st.act.loc.toNat) (W := Z4m l s st.act.loc) (fun e hx2 => by
          obtain ⟨k, hk2, rfl⟩ := mem_getD ((hmem e).2 hx2)
          exact bsHas_false hr hwr hh hk2)
        rw [this, if_neg (by decide)]; rfl
    unfold doErr
    rw [if_neg hb]
    by_cases k1 : st.act.kind = 1
    · have e1 : pastDo l t s st = (Z4u st.act st.when (Z4w s s.length st.thread st.act.loc) (Z4m l s st.act.loc)).getD (if st.act.kind = 1 then 4 else if cmpG st.when (Z4w s s.length st.thread st.act.loc) ≤ 0 then 6 else 0) := (pastDo_mom (s := s) hnb (.inl k1)).trans (by generalize Z4u st.act st.when (Z4w s s.length st.thread st.act.loc) (Z4m l s st.act.loc) = o; cases o <;> rfl)
      rw [e1, if_pos k1, pl (.inl k1), if_pos k1]
      cases hh : bsHas (pastOf m st) st.when with
      | true =>
        generalize cmpQ' st.when ((frontOf m st).getD st.act.loc.toNat default) = c
        generalize ((pastOf m st).getD (bsAt (pastOf m st) st.when) default).val = v
        have n2 : ¬ st.act.kind = 2 := by omega
        by_cases a : c < 0 <;> by_cases e : v = st.act.old <;> simp [a, e, n2]
      | false => rw [if_neg (by decide), if_pos rfl]
    · rw [if_neg k1]
      by_cases k2 : st.act.kind = 2
      · have hp := isPl_iff.2 (.inr k2)
        obtain ⟨h0, h1⟩ := hloc (.inl hp)
        have hx : st.act.loc.toNat < l.length := by rw [← hL.locs]; omega
        have hfr := hL.fronts _ _ hu hx
        rw [show ((st.act.loc.toNat : Nat) : Int) = st.act.loc by omega, show ((st.thread.toNat : Nat) : Int) = st.thread by omega] at hfr
        have e1 : pastDo l t s st = (Z4u st.act st.when (Z4w s s.length st.thread st.act.loc) (Z4m l s st.act.loc)).getD (if st.act.kind = 1 then 4 else if cmpG st.when (Z4w s s.length st.thread st.act.loc) ≤ 0 then 6 else 0) := (pastDo_mom (s := s) hnb (.inr k2)).trans (by generalize Z4u st.act st.when (Z4w s s.length st.thread st.act.loc) (Z4m l s st.act.loc) = o; cases o <;> rfl)
        rw [e1, pl (.inr k2), if_neg k1, if_pos k2, if_pos k2, ← hfr]
        rfl
      · rw [if_neg k2]
        have hnp : ¬ (st.act.kind = 1 ∨ st.act.kind = 2) := by omega
        by_cases hv : (st.act.kind = 3 ∨ st.act.kind = 5) ∧ valueG l s st.act.loc ≠ st.act.old
        · have hat : isAt st.act.kind = true := isAt_iff.2 (by omega)
          obtain ⟨h0, h1⟩ := hloc (.inr hat)
          have ha : (l.getD st.act.loc.toNat default).atom = true := by
            rw [← hL.locs]
            obtain ⟨t, ⟨k, o, q, v⟩, w⟩ := st
            exact right_atom hat g3
          have hvv := hL.vals st.act.loc.toNat (by rw [← hL.locs]; omega) ha
          rw [show ((st.act.loc.toNat : Nat) : Int) = st.act.loc by omega] at hvv
          rw [pastDo_val hnb hv, if_pos ⟨hat, by omega, by rw [hvv]; exact hv.2⟩]
        · rw [pastDo_non hnb hv hnp, if_neg]
          rintro ⟨hat, h4, hne⟩
          obtain ⟨h0, h1⟩ := hloc (.inr hat)
          have ha : (l.getD st.act.loc.toNat default).atom = true := by
            rw [← hL.locs]
            obtain ⟨t, ⟨k, o, q, v⟩, w⟩ := st
            exact right_atom hat g3
          have hvv := hL.vals st.act.loc.toNat (by rw [← hL.locs]; omega) ha
          rw [show ((st.act.loc.toNat : Nat) : Int) = st.act.loc by omega] at hvv
          rw [isAt_iff] at hat
          exact hv ⟨by omega, by rw [← hvv]; exact hne⟩
end Go.Ago

/- Contracts of the reference of layer 22. Conditions: none. -/
set_option maxRecDepth 100000
set_option linter.unusedSimpArgs false
set_option linter.unusedVariables false
namespace Go.Ago
/-! ### direct -/
/-! ### Played -/
theorem at_pastDo (l : List LocG) (f : Bool) (t : Int) (s : List StepG) (g : Bool) (th k o q v n d : Int) : sp_pastDo.at [.agg [.d (.list (l.map LocG.row) f), .d (.int .i64 t), .d (.list (s.map StepG.row) g)],
    .agg [.d (.int .i64 th), .d (.int .i64 k), .d (.int .i64 o), .d (.int .i64 q), .d (.int .i64 v), .d (.int .i64 n), .d (.int .i64 d)]] = .data (DoOk s) (.d (.int .i64 (pastDo l t s ⟨th, ⟨k, o, q, v⟩, ⟨n, d⟩⟩))) true :=
  Sp.at_enc (s := sp_pastDo) (fun x y h => by
    obtain ⟨a, b, c, d, e, ⟨a1, ⟨a2, a3, a4, a5⟩, ⟨a6, a7⟩⟩⟩ := x
    obtain ⟨a', b', c', d', e', ⟨c1, ⟨c2, c3, c4, c5⟩, ⟨c6, c7⟩⟩⟩ := y
    simp only [sp_pastDo, List.cons.injEq, AV.agg.injEq, AV.d.injEq, DV.list.injEq, DV.int.injEq, and_true, true_and] at h
    obtain ⟨⟨⟨h1, h2⟩, h3, h4, h5⟩, i1, i2, i3, i4, i5, i6, i7⟩ := h
    rw [Z4h LocG.row_inj h1, h2, h3, Z4h StepG.row_inj h4, h5, i1, i2, i3, i4, i5, i6, i7]) (l, f, t, s, g, ⟨th, ⟨k, o, q, v⟩, ⟨n, d⟩⟩)
theorem at_pastDo0 (l : List LocG) (f : Bool) (t : Int) (g : Bool) (th k o q v n d : Int) : sp_pastDo.at [.agg [.d (.list (l.map LocG.row) f), .d (.int .i64 t), .d (.list [] g)],
    .agg [.d (.int .i64 th), .d (.int .i64 k), .d (.int .i64 o), .d (.int .i64 q), .d (.int .i64 v), .d (.int .i64 n), .d (.int .i64 d)]] = .data (DoOk []) (.d (.int .i64 (pastDo l t [] ⟨th, ⟨k, o, q, v⟩, ⟨n, d⟩⟩))) true := at_pastDo l f t [] g th k o q v n d
/-! ### Behind -/
end Go.Ago
