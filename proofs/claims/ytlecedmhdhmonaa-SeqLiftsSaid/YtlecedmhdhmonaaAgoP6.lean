/- hist.Do: all steps but writes. Conditions: none. -/
import Derived.Test.YtlecedmhdhmonaaAgoP5
import Derived.Test.YtlecedmhdhmonaaAgoP4
import Derived.Test.YtlecedmhdhmonaaAgoP3
import Derived.Laws.Bits64b
set_option maxRecDepth 100000
set_option linter.unusedSimpArgs false
set_option linter.unusedVariables false
namespace Go.Ago
set_option maxHeartbeats 4000000 in
theorem do_read {T : Tab} {n1 n2 n3 n4 n5 n6 n7 n8 n9 n10 : Nat} (k1 : Knows T n1 sp_act_Right) (k2 : Knows T n2 sp_plain) (k3 : Knows T n3 sp_rat_Right) (k4 : KnowsG T n4 ef_copied0.at) (k5 : Knows T n5 sp_hist_at) (k6 : Knows T n6 sp_rat_Cmp) (k7 : Knows T n7 sp_rat_Least) (k8 : KnowsG T n8 ef_Insert.at) (k9 : Knows T n9 sp_join) (k10 : Knows T n10 (cloneS 2 16))
    (m : MemG) (th o q v : Int) (w : RatG) (hm : m.plain.Wf 1000000) :
    vck T 0 V_hist_Do (L_hist_Do n1 n2 n3 n4 n5 n6 n7 n8 n9 n10) ⟨Z0t 0 [m.av, StepG.av7 ⟨th, ⟨1, o, q, v⟩, w⟩], []⟩ (retK R_hist_Do (SaysK (RetD (.tup [(resM m.plain ⟨th, ⟨1, o, q, v⟩, w⟩).av, .d (.int .i64 (doErr m.plain ⟨th, ⟨1, o, q, v⟩, w⟩))])))) := by
  have F1 := k1.F; have G1 := k1.G; have F2 := k2.F; have G2 := k2.G; have F3 := k3.F; have G3 := k3.G; have G4 := k4.G; have F5 := k5.F; have G5 := k5.G; have F6 := k6.F; have G6 := k6.G; have F7 := k7.F; have G7 := k7.G; have G8 := k8.G; have F9 := k9.F; have G9 := k9.G; have F10 := k10.F; have G10 := k10.G
  generalize hX : SaysK _ = X
  obtain ⟨a1, a2, a3, a4, a5, a6, a7, a8, a9, a10⟩ := m
  obtain ⟨wn, wd⟩ := w
  have hl : a1.length ≤ 16 := hm.locs
  have h1 : a3.length = a1.length := by have := hm.past; simpa [MemG.plain, Z1u] using this
  have h2 : a5.length = a1.length := hm.vals
  have h3 : a7.length = a1.length := by have := hm.marks; simpa [MemG.plain, Z1u] using this
  have h4 : a9.length ≤ 3 := by have := hm.fronts; simpa [MemG.plain, Z1u] using this
  have hcp := cp_ok hm (Nat.le_refl _)
  by_cases hb : (0 ≤ th ∧ th < a9.length) ∧ ActG.right ⟨1, o, q, v⟩ a1 = true
  · obtain ⟨⟨b1, b2⟩, b3⟩ := hb
    obtain ⟨b4, b5⟩ := right_bounds (by decide) b3
    have r6 := rowsL_all (f := StampG.row) (L := a3) (i := o.toNat) (by omega)
    have r8 := rowsL_all (f := RatG.row) (L := a9) (i := th.toNat) (by omega)
    have c1 : (th < 0) = False := by simp; omega
    have c2 : ((a9.length : Int) ≤ th) = False := by simp; omega
    unfold V_hist_Do L_hist_Do R_hist_Do
    simp (maxSteps := 3000000) only [↓Z0h, ↓Z11, ↓Z03, ↓Z0p, ↓Z0f, ↓Z0c, ↓Z0a, ↓Z0o, ↓Z1p, ↓Z12, ↓Z2b, ↓Z0n, ↓Z1r, ↓Z0i, ↓Z0e, ↓Z1b, ↓Z0d, Z25, Z05, Z0r, Z14, Z18, Z17, evN, Z13, Z0m, Z16, Z20, Z0l, Z0b, Z0k, Z1v, Z1n, Z1x, Z0v, evT, Opd.ev, Z04, Z00, Z15, Z21, Z1d, Z1i, Z0u, Z0w, Z0t, Z09, Z1g, LOp.isNew, State.prune, Z1e, Z0y, AV.leaf, Heap.at, Z06, Z0x, Z02, idx_Rat, Z31, Z07, Z08, Z01, Z2z, RatG.row, StampG.row, Z2c, Int.toNat_natCast, evLen, List.length_map, List.take_of_length_le, Z28, Z2v, Z2w, evUn, binT, binQ, chk, Z24, Bool.or_false, Bool.and_self, resQ, resV, resT, pickV, Z10, Z1o, fnOf, Z1l, isD, Z3h, buildQ, Z3k, putRow, Z0q, Nat.le_refl, ↓reduceIte, Nat.reduceAdd, Nat.reduceBEq, List.length_cons, List.length_nil, List.replicate_succ, List.replicate_zero, List.nil_append, List.cons_append, List.append_nil, List.map_cons, List.map_nil, List.all_cons, List.all_nil, List.set_cons_zero, List.set_cons_succ, List.getD_cons_zero, List.getD_cons_succ, List.drop_zero, List.drop_succ_cons, List.take_succ_cons, List.take_zero, List.flatten_cons, List.flatten_nil, Bool.not_true, true_and, and_true, decide_true, decide_false, and_self, Nat.reduceLT, Nat.reduceLeDiff, List.reverse_cons, List.reverse_nil, Nat.zero_add, Nat.add_zero, Bool.false_eq_true, MemG.av, StepG.av7, F1, G1, F2, G2, F3, G3, G4, F5, G5, F6, G6, at_act_Right, at_plain, at_rat_Right, cp0_eff, at_hist_at, at_rat_Cmp, Z02, Z01, Z32, cpL_len, Int.reduceEq, decide_true, decide_false, Bool.or_false, c1, c2, b3, r6, r8]
    have hgood : goodQ (MemG.plain ⟨a1, a2, a3, a4, a5, a6, a7, a8, a9, a10⟩) ⟨th, ⟨1, o, q, v⟩, ⟨wn, wd⟩⟩ = Z2d wn wd := by
      have e1 : decide (th < 0) = false := decide_eq_false (by omega)
      have e2 : decide ((a9.length : Int) ≤ th) = false := decide_eq_false (by omega)
      simp [goodQ, MemG.plain, Z1u, isPl, Z33, b3, e1, e2]
    have hk1 : ((1 : Int) = 1) = True := by simp
    have hp : pastOf (MemG.plain ⟨a1, a2, a3, a4, a5, a6, a7, a8, a9, a10⟩) ⟨th, ⟨1, o, q, v⟩, ⟨wn, wd⟩⟩ = (inn a3).getD o.toNat [] := rfl
    have hf : frontOf (MemG.plain ⟨a1, a2, a3, a4, a5, a6, a7, a8, a9, a10⟩) ⟨th, ⟨1, o, q, v⟩, ⟨wn, wd⟩⟩ = (inn a9).getD th.toNat [] := rfl
    have hpl : ((inn a3).getD o.toNat []).length ≤ 1000000 := by
      exact hm.pasts _ (inn_get (L := a3) (i := o.toNat) (by omega))
    have hfl : ((inn a9).getD th.toNat []).length = a1.length := by
      exact hm.frontsL _ (inn_get (L := a9) (i := th.toNat) (by omega))
    have hD : doErr (MemG.plain ⟨a1, a2, a3, a4, a5, a6, a7, a8, a9, a10⟩) ⟨th, ⟨1, o, q, v⟩, ⟨wn, wd⟩⟩ = if Z2d wn wd = false then 1 else (if bsHas ((inn a3).getD o.toNat []) ⟨wn, wd⟩ = false then 4 else if rat_cmp wn wd (((inn a9).getD th.toNat []).getD o.toNat default).num (((inn a9).getD th.toNat []).getD o.toNat default).den < 0 then 6 else if (((inn a3).getD o.toNat []).getD (bsAt ((inn a3).getD o.toNat []) ⟨wn, wd⟩) default).val ≠ q then 3 else 0) := by
      unfold doErr
      rw [hgood, hp, hf]; rfl
    have hbs : bsHas ((inn a3).getD o.toNat []) ⟨wn, wd⟩ = true → bsAt ((inn a3).getD o.toNat []) ⟨wn, wd⟩ < ((inn a3).getD o.toNat []).length := fun h => by
      unfold bsHas at h
      simp only [Bool.and_eq_true, decide_eq_true_eq] at h
      exact h.1
    have hM : doMem (MemG.plain ⟨a1, a2, a3, a4, a5, a6, a7, a8, a9, a10⟩) ⟨th, ⟨1, o, q, v⟩, ⟨wn, wd⟩⟩ = MemG.plain ⟨a1, a2, a3, a4, a5, a6, a7, a8, a9, a10⟩ := by
      unfold doMem; rw [if_neg (by show ¬ (1 : Int) = 2; decide), if_neg (by show ¬ isAt 1 = true; decide)]
    subst hX
    refine ⟨fun g1 => ⟨hcp, ⟨by omega, by omega⟩, by omega, ⟨by omega, by omega⟩, by omega, by omega, fun g2 => ⟨⟨by omega, by omega⟩, fun g3 => ?_, fun g3 => ⟨⟨by omega, by omega⟩, by omega, ⟨by omega, by have := hbs g2; omega⟩, fun g4 => ?_, fun g4 => ?_⟩⟩, fun g2 => ?_⟩, fun g1 => ?_⟩
    · exact end_err (by rw [hD, g1, g2, if_neg (by simp), if_neg (by simp), if_pos g3]) (by decide)
    · refine end_ok (ids := [3]) (by rw [hD, g1, g2, if_neg (by simp), if_neg (by simp), if_neg g3, if_neg (by simpa using g4)]) (by simp only [State.ices, State.ice, HO.data, iceEnv, Z3g, HO.ice, AV.ice, AV.iceL, Z3l, iceRows_nil, iceRows_set, iceRows_rowsL, iceL_data, Heap.at, List.getD_cons_zero, List.getD_cons_succ, ↓reduceIte, Nat.reduceEqDiff, Option.map_some, Nat.zero_add, Nat.reduceAdd, Nat.reduceBEq]; rfl) (by rw [hM]; exact ⟨rfl, mk_rowsL _, rfl, mk_rowsL _, mk_rowsL _⟩) (by rw [hM]; rfl) (by rw [hM]; simp [MemG.plain, Z1u]) (by rw [hM]; rfl) (by rw [hM]; simp [MemG.plain, Z1u]) (by rw [hM]; simp [MemG.plain, Z1u])
    · exact end_err (by rw [hD, g1, g2, if_neg (by simp), if_neg (by simp), if_neg g3, if_pos (by simpa using g4)]) (by decide)
    · exact end_err (by rw [hD, g1, g2, if_neg (by simp), if_pos rfl]) (by decide)
    · exact end_err (by rw [hD, g1, if_pos rfl]) (by decide)
  · have hD : doErr (MemG.plain ⟨a1, a2, a3, a4, a5, a6, a7, a8, a9, a10⟩) ⟨th, ⟨1, o, q, v⟩, ⟨wn, wd⟩⟩ = 1 := by
      unfold doErr
      rw [if_pos]
      unfold goodQ
      have e : ((inn a9).length : Int) = a9.length := by rw [Z1u]
      show (!decide (th < 0) && !decide (((inn a9).length : Int) ≤ th) && ActG.right ⟨1, o, q, v⟩ a1 && _ && _) = false
      rw [e]
      by_cases c1 : th < 0
      · simp [c1]
      · by_cases c2 : (a9.length : Int) ≤ th
        · simp [c2]
        · have : ActG.right ⟨1, o, q, v⟩ a1 = false := by
            cases h : ActG.right ⟨1, o, q, v⟩ a1 with
            | false => rfl
            | true => exact absurd ⟨⟨by omega, by omega⟩, h⟩ hb
          simp [this]
    unfold V_hist_Do L_hist_Do R_hist_Do
    simp (maxSteps := 3000000) only [↓Z0h, ↓Z11, ↓Z03, ↓Z0p, ↓Z0f, ↓Z0c, ↓Z0a, ↓Z0o, ↓Z1p, ↓Z0n, ↓Z1r, ↓Z0i, ↓Z0e, ↓Z1b, ↓Z0d, Z25, Z05, Z14, Z18, Z17, evN, Z13, Z0m, Z16, Z20, Z0l, Z0b, Z0k, Z1v, Z1n, Z1x, Z0v, evT, Opd.ev, Z04, Z00, Z15, Z21, Z1d, Z1i, Z0u, Z0w, Z0t, Z09, Z1g, LOp.isNew, State.prune, Z1e, Z0y, AV.leaf, Heap.at, Z06, Z02, Z07, Z08, Z01, evLen, List.length_map, List.take_of_length_le, Z28, Z2v, Z2w, evUn, binT, binQ, Bool.or_false, Bool.and_self, resQ, resV, resT, pickV, Z10, Z1o, fnOf, Z1l, isD, Z3h, buildQ, Z3k, putRow, Z0q, Nat.le_refl, ↓reduceIte, Nat.reduceAdd, Nat.reduceBEq, List.length_cons, List.length_nil, List.replicate_succ, List.replicate_zero, List.nil_append, List.cons_append, List.append_nil, List.map_cons, List.map_nil, List.all_cons, List.all_nil, List.set_cons_zero, List.set_cons_succ, List.getD_cons_zero, List.getD_cons_succ, List.drop_zero, List.drop_succ_cons, List.take_succ_cons, List.take_zero, List.flatten_cons, List.flatten_nil, Bool.not_true, true_and, decide_true, decide_false, and_self, Nat.reduceLT, Nat.reduceLeDiff, Nat.zero_add, Nat.add_zero, Bool.false_eq_true, MemG.av, StepG.av7, F1, G1, F2, G2, F3, G3, G4, F5, G5, at_act_Right, at_plain, at_rat_Right, cp0_eff, Z02, Z01, Z32, cpL_len, Int.reduceEq, decide_true, decide_false, Bool.or_false]
    subst hX
    exact ⟨fun _ => end_err hD (by decide), fun g1 => ⟨fun _ => end_err hD (by decide), fun g2 => ⟨fun g3 => absurd ⟨⟨by omega, by omega⟩, g3⟩ hb, fun _ => end_err hD (by decide)⟩⟩⟩
end Go.Ago

/- hist.Do: acts on atomic locations, and what is no act on a location. Conditions: none. -/
set_option maxRecDepth 100000
set_option linter.unusedSimpArgs false
set_option linter.unusedVariables false
namespace Go.Ago
theorem mk_rowsL_set {α : Type} {f : α → List DV} (L : List (List α × Bool)) (i : Nat) (x : List α) : mkVec 1 ((Z2p f (cpL L L.length)).set i [.d (.list (x.map f) false)]) = .dvec 1 (((inn L).set i x).map fun l => [.list (l.map f) false]) := by
  have e : (Z2p f (cpL L L.length)).set i [.d (.list (x.map f) false)] = Z2p f (((inn L).set i x).map (·, false)) := by
    rw [cpL_all]
    unfold Z2p
    rw [List.map_map, List.map_map, List.map_set]; rfl
  rw [e]
  unfold mkVec
  rw [drows_rowsL, List.map_map]; rfl
theorem right_atom {k o q v : Int} {l : List LocG} (hk : isAt k = true) (h : ActG.right ⟨k, o, q, v⟩ l = true) : (l.getD o.toNat default).atom = true := by
  have hk' : k = 3 ∨ k = 4 ∨ k = 5 := by simpa [isAt, or_assoc] using hk
  unfold ActG.right at h
  rw [if_neg (by show ¬ k = 6; omega)] at h
  simp only [Bool.and_eq_true, beq_iff_eq] at h
  have e : ActG.isA ⟨k, o, q, v⟩ = true := by rcases hk' with rfl | rfl | rfl <;> rfl
  rw [h.1.1.2]; exact e
theorem doErr_at {m : Mem} {s : StepG} (h : isAt s.act.kind = true) : doErr m s = if goodQ m s = false then 1 else if s.act.kind ≠ 4 ∧ m.vals.getD s.act.loc.toNat 0 ≠ s.act.old then 3 else 0 := by
  have hk : s.act.kind = 3 ∨ s.act.kind = 4 ∨ s.act.kind = 5 := by simpa [isAt, or_assoc] using h
  unfold doErr
  by_cases g : goodQ m s = false
  · rw [if_pos g, if_pos g]
  · rw [if_neg g, if_neg g, if_neg (by omega), if_neg (by omega)]
    by_cases c : s.act.kind ≠ 4 ∧ m.vals.getD s.act.loc.toNat 0 ≠ s.act.old
    · rw [if_pos c, if_pos ⟨h, c⟩]
    · rw [if_neg c, if_neg (fun h => c h.2)]
theorem joinG_len (a b : List RatG) : (joinG a b).length = a.length := by simp [joinG]
set_option maxHeartbeats 8000000 in
theorem do_get {T : Tab} {n1 n2 n3 n4 n5 n6 n7 n8 n9 n10 : Nat} (k1 : Knows T n1 sp_act_Right) (k2 : Knows T n2 sp_plain) (k3 : Knows T n3 sp_rat_Right) (k4 : KnowsG T n4 ef_copied0.at) (k5 : Knows T n5 sp_hist_at) (k6 : Knows T n6 sp_rat_Cmp) (k7 : Knows T n7 sp_rat_Least) (k8 : KnowsG T n8 ef_Insert.at) (k9 : Knows T n9 sp_join) (k10 : Knows T n10 (cloneS 2 16))
    (m : MemG) (th o q v : Int) (w : RatG) (hm : m.plain.Wf 1000000) :
    vck T 0 V_hist_Do (L_hist_Do n1 n2 n3 n4 n5 n6 n7 n8 n9 n10) ⟨Z0t 0 [m.av, StepG.av7 ⟨th, ⟨3, o, q, v⟩, w⟩], []⟩ (retK R_hist_Do (SaysK (RetD (.tup [(resM m.plain ⟨th, ⟨3, o, q, v⟩, w⟩).av, .d (.int .i64 (doErr m.plain ⟨th, ⟨3, o, q, v⟩, w⟩))])))) := by
  have F1 := k1.F; have G1 := k1.G; have F2 := k2.F; have G2 := k2.G; have F3 := k3.F; have G3 := k3.G; have G4 := k4.G; have F5 := k5.F; have G5 := k5.G; have F6 := k6.F; have G6 := k6.G; have F7 := k7.F; have G7 := k7.G; have G8 := k8.G; have F9 := k9.F; have G9 := k9.G; have F10 := k10.F; have G10 := k10.G
  generalize hX : SaysK _ = X
  obtain ⟨a1, a2, a3, a4, a5, a6, a7, a8, a9, a10⟩ := m
  obtain ⟨wn, wd⟩ := w
  have hl : a1.length ≤ 16 := hm.locs
  have h1 : a3.length = a1.length := by have := hm.past; simpa [MemG.plain, Z1u] using this
  have h2 : a5.length = a1.length := hm.vals
  have h3 : a7.length = a1.length := by have := hm.marks; simpa [MemG.plain, Z1u] using this
  have h4 : a9.length ≤ 3 := by have := hm.fronts; simpa [MemG.plain, Z1u] using this
  have hcp := cp_ok hm (Nat.le_refl _)
  by_cases hb : (0 ≤ th ∧ th < a9.length) ∧ ActG.right ⟨3, o, q, v⟩ a1 = true
  · obtain ⟨⟨b1, b2⟩, b3⟩ := hb
    obtain ⟨b4, b5⟩ := right_bounds (by decide) b3
    have b6 := right_atom (by decide) b3
    have r7 := rowsL_all (f := RatG.row) (L := a7) (i := o.toNat) (by omega)
    have r8 := rowsL_all (f := RatG.row) (L := a9) (i := th.toNat) (by omega)
    have c1 : (th < 0) = False := by simp; omega
    have c2 : ((a9.length : Int) ≤ th) = False := by simp; omega
    have hfl : ((inn a9).getD th.toNat []).length = a1.length := hm.frontsL _ (inn_get (L := a9) (i := th.toNat) (by omega))
    have hml : ((inn a7).getD o.toNat []).length = a1.length := hm.marksA o.toNat (by show o.toNat < a1.length; omega) b6
    have hjl := joinG_len ((inn a9).getD th.toNat []) ((inn a7).getD o.toNat [])
    have hgood : goodQ (MemG.plain ⟨a1, a2, a3, a4, a5, a6, a7, a8, a9, a10⟩) ⟨th, ⟨3, o, q, v⟩, ⟨wn, wd⟩⟩ = decide (wn = 0 ∧ wd = 0) := by
      have e1 : decide (th < 0) = false := decide_eq_false (by omega)
      have e2 : decide ((a9.length : Int) ≤ th) = false := decide_eq_false (by omega)
      simp [goodQ, MemG.plain, Z1u, isPl, b3, e1, e2]
    have hD : doErr (MemG.plain ⟨a1, a2, a3, a4, a5, a6, a7, a8, a9, a10⟩) ⟨th, ⟨3, o, q, v⟩, ⟨wn, wd⟩⟩ = if decide (wn = 0 ∧ wd = 0) = false then 1 else if a5.getD o.toNat 0 ≠ q then 3 else 0 := by
      rw [doErr_at (by show isAt 3 = true; decide), hgood]
      have e : ((3 : Int) ≠ 4 ∧ a5.getD o.toNat 0 ≠ q) = (a5.getD o.toNat 0 ≠ q) := by apply propext; exact ⟨fun h => h.2, fun h => ⟨by decide, h⟩⟩
      show (if _ then (1 : Int) else if ((3 : Int) ≠ 4 ∧ a5.getD o.toNat 0 ≠ q) then 3 else 0) = _
      simp only [e]
    have hM : doMem (MemG.plain ⟨a1, a2, a3, a4, a5, a6, a7, a8, a9, a10⟩) ⟨th, ⟨3, o, q, v⟩, ⟨wn, wd⟩⟩ = ⟨a1, inn a3, a5, inn a7, (inn a9).set th.toNat (joinG ((inn a9).getD th.toNat []) ((inn a7).getD o.toNat []))⟩ := by
      unfold doMem
      rw [if_neg (by show ¬ (3 : Int) = 2; decide), if_pos (by show isAt 3 = true; decide)]
      show (if (3 : Int) = 3 then _ else _) = _
      rw [if_pos rfl]; rfl
    unfold V_hist_Do L_hist_Do R_hist_Do
    simp (maxSteps := 3000000) only [↓Z0h, ↓Z11, ↓Z03, ↓Z0p, ↓Z0f, ↓Z0c, ↓Z0a, ↓Z0o, ↓Z1p, ↓Z12, ↓Z2b, ↓Z0n, ↓Z1r, ↓Z0i, ↓Z0e, ↓Z1b, ↓Z0d, ↓Z22, Z25, Z05, Z0r, Z14, Z18, Z17, evN, Z13, Z0m, Z16, Z20, Z0l, Z0b, Z0k, Z1v, Z1n, Z0v, evT, Opd.ev, Z04, Z00, Z15, Z21, Z1d, Z1i, Z0u, Z0w, Z0t, Z09, Z1g, LOp.isNew, State.prune, Z1e, Z0y, AV.leaf, Heap.at, Z06, Z02, Z0s, Z07, Z08, Z01, Z2z, rowI, evLen, List.length_map, List.take_of_length_le, Z28, Z2v, Z2w, evUn, binT, binQ, chk, Z24, Bool.and_self, resQ, resV, resT, pickV, Z10, Z1o, fnOf, Z1l, isD, Z3h, evEq, eqV, eqK, eqC1, buildQ, Z3k, putRow, Z0q, Nat.le_refl, ↓reduceIte, Nat.reduceAdd, Nat.reduceBEq, List.length_cons, List.length_nil, List.replicate_succ, List.replicate_zero, List.nil_append, List.cons_append, List.append_nil, List.map_cons, List.map_nil, List.all_cons, List.all_nil, List.set_cons_zero, List.set_cons_succ, List.getD_cons_zero, List.getD_cons_succ, List.drop_zero, List.drop_succ_cons, List.take_succ_cons, List.take_zero, List.flatten_cons, List.flatten_nil, Bool.and_true, Bool.not_true, Bool.not_false, true_and, and_true, Option.bind_some, Option.map_some, decide_true, decide_false, and_self, Nat.reduceLT, Nat.reduceLeDiff, List.reverse_cons, List.reverse_nil, Nat.zero_add, Nat.add_zero, Bool.false_eq_true, MemG.av, StepG.av7, F1, G1, F2, G2, G4, F9, G9, at_act_Right, at_plain, cp0_eff, at_join, Z02, Z01, Z32, cpL_len, Int.reduceEq, decide_true, decide_false, Bool.or_self, c1, c2, b3, r7, r8]
    subst hX
    have endg : ∀ {P : Prop}, (decide (wn = 0) = true ∧ decide (wd = 0) = true) → ¬ decide (wn = 0 ∧ wd = 0) = false := fun h => by
      simp only [decide_eq_true_eq] at h
      simp [h]
    have endb : (decide (wn = 0) = false ∨ decide (wd = 0) = false) → decide (wn = 0 ∧ wd = 0) = false := fun h => by
      simp only [decide_eq_false_iff_not] at h ⊢
      intro h2; rcases h with h | h
      · exact h h2.1
      · exact h h2.2
    refine ⟨fun g1 => ⟨hcp, ⟨by omega, by omega⟩, by omega, ⟨by omega, by omega⟩, by omega, fun g4 => ⟨⟨by omega, by omega⟩, by omega, ⟨by omega, by omega⟩, ⟨by omega, by omega⟩, by omega, ?_⟩, fun g4 => ?_⟩, fun g1 => ?_⟩
    · exact end_ok (ids := [3]) (by rw [hD, if_neg (endg (P := True) g1), if_neg (by simpa using g4)]) (by simp only [State.ices, State.ice, HO.data, iceEnv, Z3g, HO.ice, AV.ice, AV.iceL, Z3l, iceRows_nil, iceRows_set, iceRows_rowsL, iceL_data, Heap.at, List.getD_cons_zero, List.getD_cons_succ, ↓reduceIte, Nat.reduceEqDiff, Option.map_some, Nat.zero_add, Nat.reduceAdd, Nat.reduceBEq, List.drop_zero, Z1j, List.take_length, List.length_map, Nat.le_refl, and_self, Bool.not_true]; rfl) (by rw [hM]; exact ⟨rfl, mk_rowsL _, rfl, mk_rowsL _, mk_rowsL_set _ _ _⟩) (by rw [hM]) (by rw [hM]; simp [Z1u]) (by rw [hM] <;> simp) (by rw [hM]; simp [Z1u]) (by rw [hM]; simp [Z1u])
    · exact end_err (by rw [hD, if_neg (endg (P := True) g1), if_pos (by simpa using g4)]) (by decide)
    · exact end_err (by rw [hD, if_pos (endb g1)]) (by decide)
  · have hD : doErr (MemG.plain ⟨a1, a2, a3, a4, a5, a6, a7, a8, a9, a10⟩) ⟨th, ⟨3, o, q, v⟩, ⟨wn, wd⟩⟩ = 1 := by
      unfold doErr
      rw [if_pos]
      unfold goodQ
      have e : ((inn a9).length : Int) = a9.length := by rw [Z1u]
      show (!decide (th < 0) && !decide (((inn a9).length : Int) ≤ th) && ActG.right ⟨3, o, q, v⟩ a1 && _ && _) = false
      rw [e]
      by_cases c1 : th < 0
      · simp [c1]
      · by_cases c2 : (a9.length : Int) ≤ th
        · simp [c2]
        · have : ActG.right ⟨3, o, q, v⟩ a1 = false := by
            cases h : ActG.right ⟨3, o, q, v⟩ a1 with
            | false => rfl
            | true => exact absurd ⟨⟨by omega, by omega⟩, h⟩ hb
          simp [this]
    unfold V_hist_Do L_hist_Do R_hist_Do
    simp (maxSteps := 3000000) only [↓Z0h, ↓Z11, ↓Z03, ↓Z0p, ↓Z0f, ↓Z0c, ↓Z0a, ↓Z0o, ↓Z1p, ↓Z2b, ↓Z0n, ↓Z1r, ↓Z0i, ↓Z0e, ↓Z1b, ↓Z0d, ↓Z22, Z25, Z05, Z0r, Z14, Z18, Z17, evN, Z13, Z0m, Z16, Z20, Z0l, Z0b, Z0k, Z1v, Z1n, Z1x, Z0v, evT, Opd.ev, Z04, Z00, Z15, Z21, Z1d, Z1i, Z0u, Z0w, Z0t, Z09, Z1g, LOp.isNew, State.prune, Z1e, Z0y, AV.leaf, Heap.at, Z06, Z02, Z0s, Z07, Z08, Z01, Z2z, rowI, evLen, List.length_map, List.take_of_length_le, Z28, Z2v, Z2w, evUn, binT, binQ, chk, Z24, Bool.and_self, resQ, resV, resT, pickV, Z10, Z1o, fnOf, Z1l, isD, Z3h, evEq, eqV, eqK, eqC1, buildQ, Z3k, putRow, Z0q, Nat.le_refl, ↓reduceIte, Nat.reduceAdd, Nat.reduceBEq, List.length_cons, List.length_nil, List.replicate_succ, List.replicate_zero, List.nil_append, List.cons_append, List.append_nil, List.map_cons, List.map_nil, List.all_cons, List.all_nil, List.set_cons_zero, List.set_cons_succ, List.getD_cons_zero, List.getD_cons_succ, List.drop_zero, List.drop_succ_cons, List.take_succ_cons, List.take_zero, List.flatten_cons, List.flatten_nil, Bool.and_true, Bool.not_false, true_and, and_true, Option.bind_some, Option.map_some, decide_true, decide_false, and_self, Nat.reduceLT, Nat.reduceLeDiff, List.reverse_cons, List.reverse_nil, Nat.zero_add, Nat.add_zero, Bool.false_eq_true, MemG.av, StepG.av7, F1, G1, F2, G2, G4, F9, G9, at_act_Right, at_plain, cp0_eff, Z02, Z01, Z32, cpL_len, Int.reduceEq, decide_true, decide_false, Bool.or_self]
    subst hX
    exact ⟨fun _ => end_err hD (by decide), fun g1 => ⟨fun _ => end_err hD (by decide), fun g2 => ⟨fun g3 => absurd ⟨⟨by omega, by omega⟩, g3⟩ hb, fun _ => end_err hD (by decide)⟩⟩⟩
set_option maxHeartbeats 8000000 in
theorem do_set {T : Tab} {n1 n2 n3 n4 n5 n6 n7 n8 n9 n10 : Nat} (k1 : Knows T n1 sp_act_Right) (k2 : Knows T n2 sp_plain) (k3 : Knows T n3 sp_rat_Right) (k4 : KnowsG T n4 ef_copied0.at) (k5 : Knows T n5 sp_hist_at) (k6 : Knows T n6 sp_rat_Cmp) (k7 : Knows T n7 sp_rat_Least) (k8 : KnowsG T n8 ef_Insert.at) (k9 : Knows T n9 sp_join) (k10 : Knows T n10 (cloneS 2 16))
    (m : MemG) (th o q v : Int) (w : RatG) (hm : m.plain.Wf 1000000) :
    vck T 0 V_hist_Do (L_hist_Do n1 n2 n3 n4 n5 n6 n7 n8 n9 n10) ⟨Z0t 0 [m.av, StepG.av7 ⟨th, ⟨4, o, q, v⟩, w⟩], []⟩ (retK R_hist_Do (SaysK (RetD (.tup [(resM m.plain ⟨th, ⟨4, o, q, v⟩, w⟩).av, .d (.int .i64 (doErr m.plain ⟨th, ⟨4, o, q, v⟩, w⟩))])))) := by
  have F1 := k1.F; have G1 := k1.G; have F2 := k2.F; have G2 := k2.G; have F3 := k3.F; have G3 := k3.G; have G4 := k4.G; have F5 := k5.F; have G5 := k5.G; have F6 := k6.F; have G6 := k6.G; have F7 := k7.F; have G7 := k7.G; have G8 := k8.G; have F9 := k9.F; have G9 := k9.G; have F10 := k10.F; have G10 := k10.G
  generalize hX : SaysK _ = X
  obtain ⟨a1, a2, a3, a4, a5, a6, a7, a8, a9, a10⟩ := m
  obtain ⟨wn, wd⟩ := w
  have hl : a1.length ≤ 16 := hm.locs
  have h1 : a3.length = a1.length := by have := hm.past; simpa [MemG.plain, Z1u] using this
  have h2 : a5.length = a1.length := hm.vals
  have h3 : a7.length = a1.length := by have := hm.marks; simpa [MemG.plain, Z1u] using this
  have h4 : a9.length ≤ 3 := by have := hm.fronts; simpa [MemG.plain, Z1u] using this
  have hcp := cp_ok hm (Nat.le_refl _)
  by_cases hb : (0 ≤ th ∧ th < a9.length) ∧ ActG.right ⟨4, o, q, v⟩ a1 = true
  · obtain ⟨⟨b1, b2⟩, b3⟩ := hb
    obtain ⟨b4, b5⟩ := right_bounds (by decide) b3
    have b6 := right_atom (by decide) b3
    have r7 := rowsL_all (f := RatG.row) (L := a7) (i := o.toNat) (by omega)
    have r8 := rowsL_all (f := RatG.row) (L := a9) (i := th.toNat) (by omega)
    have c1 : (th < 0) = False := by simp; omega
    have c2 : ((a9.length : Int) ≤ th) = False := by simp; omega
    have hfl : ((inn a9).getD th.toNat []).length = a1.length := hm.frontsL _ (inn_get (L := a9) (i := th.toNat) (by omega))
    have hml : ((inn a7).getD o.toNat []).length = a1.length := hm.marksA o.toNat (by show o.toNat < a1.length; omega) b6
    have hjl := joinG_len ((inn a9).getD th.toNat []) ((inn a7).getD o.toNat [])
    have hgood : goodQ (MemG.plain ⟨a1, a2, a3, a4, a5, a6, a7, a8, a9, a10⟩) ⟨th, ⟨4, o, q, v⟩, ⟨wn, wd⟩⟩ = decide (wn = 0 ∧ wd = 0) := by
      have e1 : decide (th < 0) = false := decide_eq_false (by omega)
      have e2 : decide ((a9.length : Int) ≤ th) = false := decide_eq_false (by omega)
      simp [goodQ, MemG.plain, Z1u, isPl, b3, e1, e2]
    have hD : doErr (MemG.plain ⟨a1, a2, a3, a4, a5, a6, a7, a8, a9, a10⟩) ⟨th, ⟨4, o, q, v⟩, ⟨wn, wd⟩⟩ = if decide (wn = 0 ∧ wd = 0) = false then 1 else 0 := by
      rw [doErr_at (by show isAt 4 = true; decide), hgood]
      congr 1
    have hM : doMem (MemG.plain ⟨a1, a2, a3, a4, a5, a6, a7, a8, a9, a10⟩) ⟨th, ⟨4, o, q, v⟩, ⟨wn, wd⟩⟩ = ⟨a1, inn a3, a5.set o.toNat v, (inn a7).set o.toNat (joinG ((inn a9).getD th.toNat []) ((inn a7).getD o.toNat [])), (inn a9).set th.toNat (joinG ((inn a9).getD th.toNat []) ((inn a7).getD o.toNat []))⟩ := by
      unfold doMem
      rw [if_neg (by show ¬ (4 : Int) = 2; decide), if_pos (by show isAt 4 = true; decide)]
      show (if (4 : Int) = 3 then _ else _) = _
      rw [if_neg (by decide)]; rfl
    unfold V_hist_Do L_hist_Do R_hist_Do
    simp (maxSteps := 3000000) only [↓Z0h, ↓Z11, ↓Z03, ↓Z0p, ↓Z0f, ↓Z0c, ↓Z0a, ↓Z0o, ↓Z1p, ↓Z12, ↓Z0n, ↓Z1r, ↓Z0i, ↓Z0e, ↓Z1b, ↓Z22, Z25, Z05, Z0r, Z14, Z18, Z17, evN, Z13, Z0m, Z16, Z20, Z0l, Z0b, Z0k, Z1v, Z1n, Z0v, evT, Opd.ev, Z04, Z00, Z15, Z21, Z1d, Z1i, Z0u, Z0w, Z0t, Z09, Z1g, LOp.isNew, State.prune, Z1e, Z0y, AV.leaf, Heap.at, Z06, Z02, Z07, Z08, Z01, Z0j, rowI, Z3j, evLen, List.length_map, List.take_of_length_le, Z28, Z2v, Z2w, evUn, binT, binQ, chk, Z24, List.contains_cons, List.contains_nil, Bool.or_false, Bool.and_self, resQ, resV, resT, pickV, Z10, Z1o, fnOf, Z1l, isD, Z3h, evEq, eqV, eqK, eqC1, buildQ, Z3k, Z2y, putRow, Z0q, Z1c, Nat.le_refl, ↓reduceIte, Nat.reduceAdd, Nat.reduceBEq, List.length_cons, List.length_nil, List.replicate_succ, List.replicate_zero, List.nil_append, List.cons_append, List.append_nil, List.map_cons, List.map_nil, List.all_cons, List.all_nil, List.set_cons_zero, List.set_cons_succ, List.getD_cons_zero, List.getD_cons_succ, List.drop_zero, List.drop_succ_cons, List.take_succ_cons, List.take_zero, List.flatten_cons, List.flatten_nil, Bool.true_and, Bool.and_true, Bool.not_true, Bool.not_false, true_and, and_true, or_true, Option.bind_some, Option.map_some, decide_true, decide_false, and_self, Nat.reduceLT, Nat.reduceLeDiff, List.reverse_cons, List.reverse_nil, Nat.zero_add, Nat.add_zero, Bool.false_eq_true, MemG.av, StepG.av7, F1, G1, F2, G2, G4, F9, G9, F10, G10, at_act_Right, at_plain, cp0_eff, at_join, at_clone, Z02, Z01, Z32, cpL_len, Int.reduceEq, decide_true, decide_false, Bool.or_false, Bool.or_self, c1, c2, b3, r7, r8]
    subst hX
    have endg : ∀ {P : Prop}, (decide (wn = 0) = true ∧ decide (wd = 0) = true) → ¬ decide (wn = 0 ∧ wd = 0) = false := fun h => by
      simp only [decide_eq_true_eq] at h
      simp [h]
    have endb : (decide (wn = 0) = false ∨ decide (wd = 0) = false) → decide (wn = 0 ∧ wd = 0) = false := fun h => by
      simp only [decide_eq_false_iff_not] at h ⊢
      intro h2; rcases h with h | h
      · exact h h2.1
      · exact h h2.2
    refine ⟨fun g1 => ⟨hcp, ⟨by omega, by omega⟩, by omega, ⟨by omega, by omega⟩, by omega, ⟨by omega, by omega⟩, ⟨by omega, by omega⟩, by omega, Z1t (by omega) (by omega), ⟨by omega, by omega⟩, by omega, ⟨by omega, by omega⟩, by omega, ?_⟩, fun g1 => ?_⟩
    · exact end_ok (ids := [10]) (by rw [hD, if_neg (endg (P := True) g1)]) (by simp only [State.ices, State.ice, HO.data, iceEnv, Z3g, HO.ice, AV.ice, AV.iceL, Z3l, iceRows_nil, iceRows_set, iceRows_rowsL, iceL_data, Heap.at, List.getD_cons_zero, List.getD_cons_succ, ↓reduceIte, Nat.reduceEqDiff, Option.map_some, Nat.zero_add, Nat.reduceAdd, Nat.reduceBEq, List.drop_zero, Z1j, List.take_length, List.length_map, Nat.le_refl, and_self, Bool.not_true]; rfl) (by rw [hM]; exact ⟨rfl, mk_rowsL _, rfl, mk_rowsL_set _ _ _, mk_rowsL_set _ _ _⟩) (by rw [hM]) (by rw [hM]; simp [Z1u]) (by rw [hM] <;> simp) (by rw [hM]; simp [Z1u]) (by rw [hM]; simp [Z1u])
    · exact end_err (by rw [hD, if_pos (endb g1)]) (by decide)
  · have hD : doErr (MemG.plain ⟨a1, a2, a3, a4, a5, a6, a7, a8, a9, a10⟩) ⟨th, ⟨4, o, q, v⟩, ⟨wn, wd⟩⟩ = 1 := by
      unfold doErr
      rw [if_pos]
      unfold goodQ
      have e : ((inn a9).length : Int) = a9.length := by rw [Z1u]
      show (!decide (th < 0) && !decide (((inn a9).length : Int) ≤ th) && ActG.right ⟨4, o, q, v⟩ a1 && _ && _) = false
      rw [e]
      by_cases c1 : th < 0
      · simp [c1]
      · by_cases c2 : (a9.length : Int) ≤ th
        · simp [c2]
        · have : ActG.right ⟨4, o, q, v⟩ a1 = false := by
            cases h : ActG.right ⟨4, o, q, v⟩ a1 with
            | false => rfl
            | true => exact absurd ⟨⟨by omega, by omega⟩, h⟩ hb
          simp [this]
    unfold V_hist_Do L_hist_Do R_hist_Do
    simp (maxSteps := 3000000) only [↓Z0h, ↓Z11, ↓Z03, ↓Z0p, ↓Z0f, ↓Z0c, ↓Z0a, ↓Z0o, ↓Z1p, ↓Z0n, ↓Z1r, ↓Z0i, ↓Z0e, ↓Z1b, ↓Z0d, ↓Z22, Z25, Z05, Z0r, Z14, Z18, Z17, evN, Z13, Z0m, Z16, Z20, Z0l, Z0b, Z0k, Z1v, Z1n, Z1x, Z0v, evT, Opd.ev, Z04, Z00, Z15, Z21, Z1d, Z1i, Z0u, Z0w, Z0t, Z09, Z1g, LOp.isNew, State.prune, Z1e, Z0y, AV.leaf, Heap.at, Z06, Z02, Z07, Z08, Z01, evLen, List.length_map, List.take_of_length_le, Z28, Z2v, Z2w, evUn, binT, binQ, chk, Z24, Bool.and_self, resQ, resV, resT, pickV, Z10, Z1o, fnOf, Z1l, isD, Z3h, evEq, eqV, eqK, eqC1, buildQ, Z3k, putRow, Z0q, Nat.le_refl, ↓reduceIte, Nat.reduceAdd, Nat.reduceBEq, List.length_cons, List.length_nil, List.replicate_succ, List.replicate_zero, List.nil_append, List.cons_append, List.append_nil, List.map_cons, List.map_nil, List.all_cons, List.all_nil, List.set_cons_zero, List.set_cons_succ, List.getD_cons_zero, List.getD_cons_succ, List.drop_zero, List.drop_succ_cons, List.take_succ_cons, List.take_zero, List.flatten_cons, List.flatten_nil, Bool.and_true, Bool.not_true, Bool.not_false, true_and, Option.bind_some, Option.map_some, decide_true, decide_false, and_self, Nat.reduceLT, Nat.reduceLeDiff, List.reverse_cons, List.reverse_nil, Nat.zero_add, Nat.add_zero, Bool.false_eq_true, MemG.av, StepG.av7, F1, G1, F2, G2, G4, F9, G9, at_act_Right, at_plain, cp0_eff, Z02, Z01, Z32, cpL_len, Int.reduceEq, decide_true, decide_false, Bool.or_self]
    subst hX
    exact ⟨fun _ => end_err hD (by decide), fun g1 => ⟨fun _ => end_err hD (by decide), fun g2 => ⟨fun g3 => absurd ⟨⟨by omega, by omega⟩, g3⟩ hb, fun _ => end_err hD (by decide)⟩⟩⟩
set_option maxHeartbeats 8000000 in
theorem do_turn {T : Tab} {n1 n2 n3 n4 n5 n6 n7 n8 n9 n10 : Nat} (k1 : Knows T n1 sp_act_Right) (k2 : Knows T n2 sp_plain) (k3 : Knows T n3 sp_rat_Right) (k4 : KnowsG T n4 ef_copied0.at) (k5 : Knows T n5 sp_hist_at) (k6 : Knows T n6 sp_rat_Cmp) (k7 : Knows T n7 sp_rat_Least) (k8 : KnowsG T n8 ef_Insert.at) (k9 : Knows T n9 sp_join) (k10 : Knows T n10 (cloneS 2 16))
    (m : MemG) (th o q v : Int) (w : RatG) (hm : m.plain.Wf 1000000) :
    vck T 0 V_hist_Do (L_hist_Do n1 n2 n3 n4 n5 n6 n7 n8 n9 n10) ⟨Z0t 0 [m.av, StepG.av7 ⟨th, ⟨5, o, q, v⟩, w⟩], []⟩ (retK R_hist_Do (SaysK (RetD (.tup [(resM m.plain ⟨th, ⟨5, o, q, v⟩, w⟩).av, .d (.int .i64 (doErr m.plain ⟨th, ⟨5, o, q, v⟩, w⟩))])))) := by
  have F1 := k1.F; have G1 := k1.G; have F2 := k2.F; have G2 := k2.G; have F3 := k3.F; have G3 := k3.G; have G4 := k4.G; have F5 := k5.F; have G5 := k5.G; have F6 := k6.F; have G6 := k6.G; have F7 := k7.F; have G7 := k7.G; have G8 := k8.G; have F9 := k9.F; have G9 := k9.G; have F10 := k10.F; have G10 := k10.G
  generalize hX : SaysK _ = X
  obtain ⟨a1, a2, a3, a4, a5, a6, a7, a8, a9, a10⟩ := m
  obtain ⟨wn, wd⟩ := w
  have hl : a1.length ≤ 16 := hm.locs
  have h1 : a3.length = a1.length := by have := hm.past; simpa [MemG.plain, Z1u] using this
  have h2 : a5.length = a1.length := hm.vals
  have h3 : a7.length = a1.length := by have := hm.marks; simpa [MemG.plain, Z1u] using this
  have h4 : a9.length ≤ 3 := by have := hm.fronts; simpa [MemG.plain, Z1u] using this
  have hcp := cp_ok hm (Nat.le_refl _)
  by_cases hb : (0 ≤ th ∧ th < a9.length) ∧ ActG.right ⟨5, o, q, v⟩ a1 = true
  · obtain ⟨⟨b1, b2⟩, b3⟩ := hb
    obtain ⟨b4, b5⟩ := right_bounds (by decide) b3
    have b6 := right_atom (by decide) b3
    have r7 := rowsL_all (f := RatG.row) (L := a7) (i := o.toNat) (by omega)
    have r8 := rowsL_all (f := RatG.row) (L := a9) (i := th.toNat) (by omega)
    have c1 : (th < 0) = False := by simp; omega
    have c2 : ((a9.length : Int) ≤ th) = False := by simp; omega
    have hfl : ((inn a9).getD th.toNat []).length = a1.length := hm.frontsL _ (inn_get (L := a9) (i := th.toNat) (by omega))
    have hml : ((inn a7).getD o.toNat []).length = a1.length := hm.marksA o.toNat (by show o.toNat < a1.length; omega) b6
    have hjl := joinG_len ((inn a9).getD th.toNat []) ((inn a7).getD o.toNat [])
    have hgood : goodQ (MemG.plain ⟨a1, a2, a3, a4, a5, a6, a7, a8, a9, a10⟩) ⟨th, ⟨5, o, q, v⟩, ⟨wn, wd⟩⟩ = decide (wn = 0 ∧ wd = 0) := by
      have e1 : decide (th < 0) = false := decide_eq_false (by omega)
      have e2 : decide ((a9.length : Int) ≤ th) = false := decide_eq_false (by omega)
      simp [goodQ, MemG.plain, Z1u, isPl, b3, e1, e2]
    have hD : doErr (MemG.plain ⟨a1, a2, a3, a4, a5, a6, a7, a8, a9, a10⟩) ⟨th, ⟨5, o, q, v⟩, ⟨wn, wd⟩⟩ = if decide (wn = 0 ∧ wd = 0) = false then 1 else if a5.getD o.toNat 0 ≠ q then 3 else 0 := by
      rw [doErr_at (by show isAt 5 = true; decide), hgood]
      have e : ((5 : Int) ≠ 4 ∧ a5.getD o.toNat 0 ≠ q) = (a5.getD o.toNat 0 ≠ q) := by apply propext; exact ⟨fun h => h.2, fun h => ⟨by decide, h⟩⟩
      show (if _ then (1 : Int) else if ((5 : Int) ≠ 4 ∧ a5.getD o.toNat 0 ≠ q) then 3 else 0) = _
      simp only [e]
    have hM : doMem (MemG.plain ⟨a1, a2, a3, a4, a5, a6, a7, a8, a9, a10⟩) ⟨th, ⟨5, o, q, v⟩, ⟨wn, wd⟩⟩ = ⟨a1, inn a3, a5.set o.toNat v, (inn a7).set o.toNat (joinG ((inn a9).getD th.toNat []) ((inn a7).getD o.toNat [])), (inn a9).set th.toNat (joinG ((inn a9).getD th.toNat []) ((inn a7).getD o.toNat []))⟩ := by
      unfold doMem
      rw [if_neg (by show ¬ (5 : Int) = 2; decide), if_pos (by show isAt 5 = true; decide)]
      show (if (5 : Int) = 3 then _ else _) = _
      rw [if_neg (by decide)]; rfl
    unfold V_hist_Do L_hist_Do R_hist_Do
    simp (maxSteps := 3000000) only [↓Z0h, ↓Z11, ↓Z03, ↓Z0p, ↓Z0f, ↓Z0c, ↓Z0a, ↓Z0o, ↓Z1p, ↓Z12, ↓Z2b, ↓Z0n, ↓Z1r, ↓Z0i, ↓Z0e, ↓Z1b, ↓Z0d, ↓Z22, Z25, Z05, Z0r, Z14, Z18, Z17, evN, Z13, Z0m, Z16, Z20, Z0l, Z0b, Z0k, Z1v, Z1n, Z0v, evT, Opd.ev, Z04, Z00, Z15, Z21, Z1d, Z1i, Z0u, Z0w, Z0t, Z09, Z1g, LOp.isNew, State.prune, Z1e, Z0y, AV.leaf, Heap.at, Z06, Z02, Z0s, Z07, Z08, Z01, Z0j, Z2z, rowI, Z3j, evLen, List.length_map, List.take_of_length_le, Z28, Z2v, Z2w, evUn, binT, binQ, chk, Z24, List.contains_cons, List.contains_nil, Bool.or_false, Bool.and_self, resQ, resV, resT, pickV, Z10, Z1o, fnOf, Z1l, isD, Z3h, evEq, eqV, eqK, eqC1, buildQ, Z3k, Z2y, putRow, Z0q, Z1c, Nat.le_refl, ↓reduceIte, Nat.reduceAdd, Nat.reduceBEq, List.length_cons, List.length_nil, List.replicate_succ, List.replicate_zero, List.nil_append, List.cons_append, List.append_nil, List.map_cons, List.map_nil, List.all_cons, List.all_nil, List.set_cons_zero, List.set_cons_succ, List.getD_cons_zero, List.getD_cons_succ, List.drop_zero, List.drop_succ_cons, List.take_succ_cons, List.take_zero, List.flatten_cons, List.flatten_nil, Bool.true_and, Bool.and_true, Bool.not_true, Bool.not_false, true_and, and_true, or_true, Option.bind_some, Option.map_some, decide_true, decide_false, and_self, Nat.reduceLT, Nat.reduceLeDiff, List.reverse_cons, List.reverse_nil, Nat.zero_add, Nat.add_zero, Bool.false_eq_true, MemG.av, StepG.av7, F1, G1, F2, G2, G4, F9, G9, F10, G10, at_act_Right, at_plain, cp0_eff, at_join, at_clone, Z02, Z01, Z32, cpL_len, Int.reduceEq, decide_true, decide_false, Bool.or_false, Bool.or_self, c1, c2, b3, r7, r8]
    subst hX
    have endg : ∀ {P : Prop}, (decide (wn = 0) = true ∧ decide (wd = 0) = true) → ¬ decide (wn = 0 ∧ wd = 0) = false := fun h => by
      simp only [decide_eq_true_eq] at h
      simp [h]
    have endb : (decide (wn = 0) = false ∨ decide (wd = 0) = false) → decide (wn = 0 ∧ wd = 0) = false := fun h => by
      simp only [decide_eq_false_iff_not] at h ⊢
      intro h2; rcases h with h | h
      · exact h h2.1
      · exact h h2.2
    refine ⟨fun g1 => ⟨hcp, ⟨by omega, by omega⟩, by omega, ⟨by omega, by omega⟩, by omega, fun g4 => ⟨⟨by omega, by omega⟩, by omega, ⟨by omega, by omega⟩, ⟨by omega, by omega⟩, by omega, Z1t (by omega) (by omega), ⟨by omega, by omega⟩, by omega, ⟨by omega, by omega⟩, by omega, ?_⟩, fun g4 => ?_⟩, fun g1 => ?_⟩
    · exact end_ok (ids := [10]) (by rw [hD, if_neg (endg (P := True) g1), if_neg (by simpa using g4)]) (by simp only [State.ices, State.ice, HO.data, iceEnv, Z3g, HO.ice, AV.ice, AV.iceL, Z3l, iceRows_nil, iceRows_set, iceRows_rowsL, iceL_data, Heap.at, List.getD_cons_zero, List.getD_cons_succ, ↓reduceIte, Nat.reduceEqDiff, Option.map_some, Nat.zero_add, Nat.reduceAdd, Nat.reduceBEq, List.drop_zero, Z1j, List.take_length, List.length_map, Nat.le_refl, and_self, Bool.not_true]; rfl) (by rw [hM]; exact ⟨rfl, mk_rowsL _, rfl, mk_rowsL_set _ _ _, mk_rowsL_set _ _ _⟩) (by rw [hM]) (by rw [hM]; simp [Z1u]) (by rw [hM] <;> simp) (by rw [hM]; simp [Z1u]) (by rw [hM]; simp [Z1u])
    · exact end_err (by rw [hD, if_neg (endg (P := True) g1), if_pos (by simpa using g4)]) (by decide)
    · exact end_err (by rw [hD, if_pos (endb g1)]) (by decide)
  · have hD : doErr (MemG.plain ⟨a1, a2, a3, a4, a5, a6, a7, a8, a9, a10⟩) ⟨th, ⟨5, o, q, v⟩, ⟨wn, wd⟩⟩ = 1 := by
      unfold doErr
      rw [if_pos]
      unfold goodQ
      have e : ((inn a9).length : Int) = a9.length := by rw [Z1u]
      show (!decide (th < 0) && !decide (((inn a9).length : Int) ≤ th) && ActG.right ⟨5, o, q, v⟩ a1 && _ && _) = false
      rw [e]
      by_cases c1 : th < 0
      · simp [c1]
      · by_cases c2 : (a9.length : Int) ≤ th
        · simp [c2]
        · have : ActG.right ⟨5, o, q, v⟩ a1 = false := by
            cases h : ActG.right ⟨5, o, q, v⟩ a1 with
            | false => rfl
            | true => exact absurd ⟨⟨by omega, by omega⟩, h⟩ hb
          simp [this]
    unfold V_hist_Do L_hist_Do R_hist_Do
    simp (maxSteps := 3000000) only [↓Z0h, ↓Z11, ↓Z03, ↓Z0p, ↓Z0f, ↓Z0c, ↓Z0a, ↓Z0o, ↓Z1p, ↓Z2b, ↓Z0n, ↓Z1r, ↓Z0i, ↓Z0e, ↓Z1b, ↓Z0d, ↓Z22, Z25, Z05, Z0r, Z14, Z18, Z17, evN, Z13, Z0m, Z16, Z20, Z0l, Z0b, Z0k, Z1v, Z1n, Z1x, Z0v, evT, Opd.ev, Z04, Z00, Z15, Z21, Z1d, Z1i, Z0u, Z0w, Z0t, Z09, Z1g, LOp.isNew, State.prune, Z1e, Z0y, AV.leaf, Heap.at, Z06, Z02, Z0s, Z07, Z08, Z01, Z2z, rowI, evLen, List.length_map, List.take_of_length_le, Z28, Z2v, Z2w, evUn, binT, binQ, chk, Z24, Bool.and_self, resQ, resV, resT, pickV, Z10, Z1o, fnOf, Z1l, isD, Z3h, evEq, eqV, eqK, eqC1, buildQ, Z3k, putRow, Z0q, Nat.le_refl, ↓reduceIte, Nat.reduceAdd, Nat.reduceBEq, List.length_cons, List.length_nil, List.replicate_succ, List.replicate_zero, List.nil_append, List.cons_append, List.append_nil, List.map_cons, List.map_nil, List.all_cons, List.all_nil, List.set_cons_zero, List.set_cons_succ, List.getD_cons_zero, List.getD_cons_succ, List.drop_zero, List.drop_succ_cons, List.take_succ_cons, List.take_zero, List.flatten_cons, List.flatten_nil, Bool.and_true, Bool.not_false, true_and, and_true, Option.bind_some, Option.map_some, decide_true, decide_false, and_self, Nat.reduceLT, Nat.reduceLeDiff, List.reverse_cons, List.reverse_nil, Nat.zero_add, Nat.add_zero, Bool.false_eq_true, MemG.av, StepG.av7, F1, G1, F2, G2, G4, F9, G9, at_act_Right, at_plain, cp0_eff, Z02, Z01, Z32, cpL_len, Int.reduceEq, decide_true, decide_false, Bool.or_self]
    subst hX
    exact ⟨fun _ => end_err hD (by decide), fun g1 => ⟨fun _ => end_err hD (by decide), fun g2 => ⟨fun g3 => absurd ⟨⟨by omega, by omega⟩, g3⟩ hb, fun _ => end_err hD (by decide)⟩⟩⟩
set_option maxHeartbeats 8000000 in
theorem do_other {T : Tab} {n1 n2 n3 n4 n5 n6 n7 n8 n9 n10 : Nat} (k1 : Knows T n1 sp_act_Right) (k2 : Knows T n2 sp_plain) (k3 : Knows T n3 sp_rat_Right) (k4 : KnowsG T n4 ef_copied0.at) (k5 : Knows T n5 sp_hist_at) (k6 : Knows T n6 sp_rat_Cmp) (k7 : Knows T n7 sp_rat_Least) (k8 : KnowsG T n8 ef_Insert.at) (k9 : Knows T n9 sp_join) (k10 : Knows T n10 (cloneS 2 16))
    (m : MemG) (th o q v : Int) (w : RatG) (hm : m.plain.Wf 1000000) {k : Int} (hk : k ≠ 1 ∧ k ≠ 2 ∧ k ≠ 3 ∧ k ≠ 4 ∧ k ≠ 5) :
    vck T 0 V_hist_Do (L_hist_Do n1 n2 n3 n4 n5 n6 n7 n8 n9 n10) ⟨Z0t 0 [m.av, StepG.av7 ⟨th, ⟨k, o, q, v⟩, w⟩], []⟩ (retK R_hist_Do (SaysK (RetD (.tup [(resM m.plain ⟨th, ⟨k, o, q, v⟩, w⟩).av, .d (.int .i64 (doErr m.plain ⟨th, ⟨k, o, q, v⟩, w⟩))])))) := by
  have F1 := k1.F; have G1 := k1.G; have F2 := k2.F; have G2 := k2.G; have F3 := k3.F; have G3 := k3.G; have G4 := k4.G; have F5 := k5.F; have G5 := k5.G; have F6 := k6.F; have G6 := k6.G; have F7 := k7.F; have G7 := k7.G; have G8 := k8.G; have F9 := k9.F; have G9 := k9.G; have F10 := k10.F; have G10 := k10.G
  generalize hX : SaysK _ = X
  obtain ⟨a1, a2, a3, a4, a5, a6, a7, a8, a9, a10⟩ := m
  obtain ⟨wn, wd⟩ := w
  have hl : a1.length ≤ 16 := hm.locs
  have h1 : a3.length = a1.length := by have := hm.past; simpa [MemG.plain, Z1u] using this
  have h2 : a5.length = a1.length := hm.vals
  have h3 : a7.length = a1.length := by have := hm.marks; simpa [MemG.plain, Z1u] using this
  have h4 : a9.length ≤ 3 := by have := hm.fronts; simpa [MemG.plain, Z1u] using this
  have hcp := cp_ok hm (Nat.le_refl _)
  obtain ⟨q1, q2, q3, q4, q5⟩ := hk
  have kk1 : (k = 1) = False := by simp [q1]
  have kk2 : (k = 2) = False := by simp [q2]
  have kk3 : (k = 3) = False := by simp [q3]
  have kk4 : (k = 4) = False := by simp [q4]
  have kk5 : (k = 5) = False := by simp [q5]
  have kpl : (decide (k = 1) || decide (k = 2)) = false := by simp [q1, q2]
  by_cases hb : (0 ≤ th ∧ th < a9.length) ∧ ActG.right ⟨k, o, q, v⟩ a1 = true
  · obtain ⟨⟨b1, b2⟩, b3⟩ := hb
    have r8 := rowsL_all (f := RatG.row) (L := a9) (i := th.toNat) (by omega)
    have c1 : (th < 0) = False := by simp; omega
    have c2 : ((a9.length : Int) ≤ th) = False := by simp; omega
    have hgood : goodQ (MemG.plain ⟨a1, a2, a3, a4, a5, a6, a7, a8, a9, a10⟩) ⟨th, ⟨k, o, q, v⟩, ⟨wn, wd⟩⟩ = decide (wn = 0 ∧ wd = 0) := by
      have e1 : decide (th < 0) = false := decide_eq_false (by omega)
      have e2 : decide ((a9.length : Int) ≤ th) = false := decide_eq_false (by omega)
      simp [goodQ, MemG.plain, Z1u, isPl, b3, e1, e2, q1, q2]
    have hD : doErr (MemG.plain ⟨a1, a2, a3, a4, a5, a6, a7, a8, a9, a10⟩) ⟨th, ⟨k, o, q, v⟩, ⟨wn, wd⟩⟩ = if decide (wn = 0 ∧ wd = 0) = false then 1 else 0 := by
      unfold doErr
      rw [hgood]
      simp [isAt, q1, q2, q3, q4, q5]
    have hM : doMem (MemG.plain ⟨a1, a2, a3, a4, a5, a6, a7, a8, a9, a10⟩) ⟨th, ⟨k, o, q, v⟩, ⟨wn, wd⟩⟩ = (MemG.plain ⟨a1, a2, a3, a4, a5, a6, a7, a8, a9, a10⟩) := by
      simp [doMem, isAt, q2, q3, q4, q5]
    unfold V_hist_Do L_hist_Do R_hist_Do
    simp (maxSteps := 3000000) only [↓Z0h, ↓Z11, ↓Z03, ↓Z0p, ↓Z0f, ↓Z0c, ↓Z0a, ↓Z0o, ↓Z1p, ↓Z12, ↓Z0n, ↓Z1r, ↓Z0i, ↓Z0e, ↓Z1b, ↓Z22, Z25, Z05, Z14, Z18, Z17, evN, Z13, Z0m, Z16, Z0l, Z0b, Z0k, Z1v, Z1n, Z0v, evT, Opd.ev, Z04, Z00, Z15, Z21, Z1d, Z1i, Z0u, Z0w, Z0t, Z09, Z1g, LOp.isNew, State.prune, Z1e, Z0y, AV.leaf, Heap.at, Z06, Z02, Z07, Z08, Z01, evLen, List.length_map, List.take_of_length_le, Z28, Z2v, Z2w, evUn, binT, binQ, Bool.and_self, resQ, resV, resT, pickV, Z10, Z1o, fnOf, Z1l, isD, Z3h, evEq, eqV, eqK, eqC1, buildQ, Z3k, putRow, Z0q, Nat.le_refl, ↓reduceIte, Nat.reduceAdd, Nat.reduceBEq, List.length_cons, List.length_nil, List.replicate_succ, List.replicate_zero, List.nil_append, List.cons_append, List.append_nil, List.map_cons, List.map_nil, List.all_cons, List.all_nil, List.set_cons_zero, List.set_cons_succ, List.getD_cons_zero, List.getD_cons_succ, List.drop_zero, List.drop_succ_cons, List.take_succ_cons, List.take_zero, List.flatten_cons, List.flatten_nil, Bool.and_true, Bool.not_true, Bool.not_false, true_and, and_true, Option.bind_some, Option.map_some, decide_false, and_self, Nat.reduceLT, Nat.reduceLeDiff, Nat.zero_add, Nat.add_zero, Bool.false_eq_true, MemG.av, StepG.av7, F1, G1, F2, G2, G4, at_act_Right, at_plain, cp0_eff, Z02, Z01, Z32, cpL_len, decide_false, Bool.or_self, c1, c2, b3, r8, kk1, kk2, kk3, kk4, kk5]
    subst hX
    have endg : ∀ {P : Prop}, (decide (wn = 0) = true ∧ decide (wd = 0) = true) → ¬ decide (wn = 0 ∧ wd = 0) = false := fun h => by
      simp only [decide_eq_true_eq] at h
      simp [h]
    have endb : (decide (wn = 0) = false ∨ decide (wd = 0) = false) → decide (wn = 0 ∧ wd = 0) = false := fun h => by
      simp only [decide_eq_false_iff_not] at h ⊢
      intro h2; rcases h with h | h
      · exact h h2.1
      · exact h h2.2
    refine ⟨fun g1 => ⟨hcp, ⟨by omega, by omega⟩, by omega, ?_⟩, fun g1 => ?_⟩
    · exact end_ok (ids := [3]) (by rw [hD, if_neg (endg (P := True) g1)]) (by simp only [State.ices, State.ice, HO.data, iceEnv, Z3g, HO.ice, AV.ice, AV.iceL, Z3l, iceRows_nil, iceRows_set, iceRows_rowsL, iceL_data, Heap.at, List.getD_cons_zero, List.getD_cons_succ, ↓reduceIte, Nat.reduceEqDiff, Option.map_some, Nat.zero_add, Nat.reduceAdd, Nat.reduceBEq, List.drop_zero, Z1j, List.take_length, List.length_map, Nat.le_refl, and_self, Bool.not_true]; rfl) (by rw [hM]; exact ⟨rfl, mk_rowsL _, rfl, mk_rowsL _, mk_rowsL _⟩) (by rw [hM]; rfl) (by rw [hM]; simp [MemG.plain, Z1u]) (by rw [hM]; rfl) (by rw [hM]; simp [MemG.plain, Z1u]) (by rw [hM]; simp [MemG.plain, Z1u])
    · exact end_err (by rw [hD, if_pos (endb g1)]) (by decide)
  · have hD : doErr (MemG.plain ⟨a1, a2, a3, a4, a5, a6, a7, a8, a9, a10⟩) ⟨th, ⟨k, o, q, v⟩, ⟨wn, wd⟩⟩ = 1 := by
      unfold doErr
      rw [if_pos]
      unfold goodQ
      have e : ((inn a9).length : Int) = a9.length := by rw [Z1u]
      show (!decide (th < 0) && !decide (((inn a9).length : Int) ≤ th) && ActG.right ⟨k, o, q, v⟩ a1 && _ && _) = false
      rw [e]
      by_cases c1 : th < 0
      · simp [c1]
      · by_cases c2 : (a9.length : Int) ≤ th
        · simp [c2]
        · have : ActG.right ⟨k, o, q, v⟩ a1 = false := by
            cases h : ActG.right ⟨k, o, q, v⟩ a1 with
            | false => rfl
            | true => exact absurd ⟨⟨by omega, by omega⟩, h⟩ hb
          simp [this]
    unfold V_hist_Do L_hist_Do R_hist_Do
    simp (maxSteps := 3000000) only [↓Z0h, ↓Z11, ↓Z03, ↓Z0p, ↓Z0f, ↓Z0c, ↓Z0a, ↓Z0o, ↓Z1p, ↓Z12, ↓Z0n, ↓Z1r, ↓Z0i, ↓Z0e, ↓Z1b, ↓Z0d, ↓Z22, Z25, Z05, Z14, Z18, Z17, evN, Z13, Z0m, Z16, Z0l, Z0b, Z0k, Z1v, Z1n, Z1x, Z0v, evT, Opd.ev, Z04, Z00, Z15, Z21, Z1d, Z1i, Z0u, Z0w, Z0t, Z09, Z1g, LOp.isNew, State.prune, Z1e, Z0y, AV.leaf, Heap.at, Z06, Z02, Z07, Z08, Z01, evLen, List.length_map, List.take_of_length_le, Z28, Z2v, Z2w, evUn, binT, binQ, Bool.and_self, resQ, resV, resT, pickV, Z10, Z1o, fnOf, Z1l, isD, Z3h, evEq, eqV, eqK, eqC1, buildQ, Z3k, putRow, Z0q, Nat.le_refl, ↓reduceIte, Nat.reduceAdd, Nat.reduceBEq, List.length_cons, List.length_nil, List.replicate_succ, List.replicate_zero, List.nil_append, List.cons_append, List.append_nil, List.map_cons, List.map_nil, List.all_cons, List.all_nil, List.set_cons_zero, List.set_cons_succ, List.getD_cons_zero, List.getD_cons_succ, List.drop_zero, List.drop_succ_cons, List.take_succ_cons, List.take_zero, List.flatten_cons, List.flatten_nil, Bool.and_true, Bool.not_false, true_and, Option.bind_some, Option.map_some, decide_false, and_self, Nat.reduceLT, Nat.reduceLeDiff, Nat.zero_add, Nat.add_zero, Bool.false_eq_true, MemG.av, StepG.av7, F1, G1, F2, G2, G4, at_act_Right, at_plain, cp0_eff, Z02, Z01, Z32, cpL_len, decide_false, Bool.or_self, kk1, kk2, kk3, kk4, kk5]
    subst hX
    exact ⟨fun _ => end_err hD (by decide), fun g1 => ⟨fun _ => end_err hD (by decide), fun g2 => ⟨fun g3 => absurd ⟨⟨by omega, by omega⟩, g3⟩ hb, fun _ => end_err hD (by decide)⟩⟩⟩
end Go.Ago

/- hist.Do: writes. Conditions: none. -/
set_option maxRecDepth 100000
set_option linter.unusedSimpArgs false
set_option linter.unusedVariables false
namespace Go.Ago
theorem ice_vec {id sz0 sz : Nat} {rows : List (List DV)} {l : List (List AV)} : (HO.vec sz l).ice id sz0 rows = mkVec sz (iceRows id sz0 rows l) := rfl
theorem ice_dvec {id sz0 sz : Nat} {rows l : List (List DV)} : (HO.dvec sz l).ice id sz0 rows = .dvec sz l := rfl
theorem ice_dead {id sz0 : Nat} {rows : List (List DV)} : HO.dead.ice id sz0 rows = .dead := rfl
theorem ice_mkVec {id sz0 sz : Nat} {rows : List (List DV)} {l : List (List AV)} : (mkVec sz l).ice id sz0 rows = mkVec sz (iceRows id sz0 rows l) := by
  cases h : drows l with
  | none =>
    have : mkVec sz l = .vec sz l := by unfold mkVec; rw [h]
    rw [this]; rfl
  | some ds =>
    have e := drows_map _ _ h
    rw [mkVec_some h, e, iceRows_d, mkVec_some (drows_d ds)]; rfl
theorem bsGo_le (p : Nat → Bool) : ∀ (f i j : Nat), i ≤ j → bsGo p f i j ≤ j := by
  intro f
  induction f with
  | zero => intro i j h; exact h
  | succ f ih =>
    intro i j h
    simp only [bsGo]
    split
    · split
      · exact ih _ _ (by omega)
      · exact Nat.le_trans (ih _ _ (by omega)) (by omega)
    · exact h
theorem bsAt_le (l : List StampG) (w : RatG) : bsAt l w ≤ l.length := bsGo_le _ _ _ _ (Nat.zero_le _)
theorem cp_okH {m : MemG} {h : Hole} (hc : CpOk0 m) (hp : h.p < m.past.length) (hf : h.f < m.fronts.length) : CpOk h m := ⟨hc.locs, hc.vals, hc.past, hc.marks, hc.fronts, hc.pasts, hc.markss, hc.frontss, hp, hf⟩
set_option maxHeartbeats 8000000 in
theorem do_write {T : Tab} {n1 n2 n3 n4 n5 n6 n7 n8 n9 n10 : Nat} {hole : Hole} (k1 : Knows T n1 sp_act_Right) (k2 : Knows T n2 sp_plain) (k3 : Knows T n3 sp_rat_Right) (k4 : KnowsG T n4 (ef_copied hole).at) (k5 : Knows T n5 sp_hist_at) (k6 : Knows T n6 sp_rat_Cmp) (k7 : Knows T n7 sp_rat_Least) (k8 : KnowsG T n8 ef_Insert.at) (k9 : Knows T n9 sp_join) (k10 : Knows T n10 (cloneS 2 16))
    (m : MemG) (th o q v : Int) (w : RatG) (hm : m.plain.Wf 1000000) (hhole : hole = ⟨o.toNat, th.toNat⟩) :
    vck T 0 V_hist_Do (L_hist_Do n1 n2 n3 n4 n5 n6 n7 n8 n9 n10) ⟨Z0t 0 [m.av, StepG.av7 ⟨th, ⟨2, o, q, v⟩, w⟩], []⟩ (retK R_hist_Do (SaysK (RetD (.tup [(resM m.plain ⟨th, ⟨2, o, q, v⟩, w⟩).av, .d (.int .i64 (doErr m.plain ⟨th, ⟨2, o, q, v⟩, w⟩))])))) := by
  have F1 := k1.F; have G1 := k1.G; have F2 := k2.F; have G2 := k2.G; have F3 := k3.F; have G3 := k3.G; have G4 := k4.G; have F5 := k5.F; have G5 := k5.G; have F6 := k6.F; have G6 := k6.G; have F7 := k7.F; have G7 := k7.G; have G8 := k8.G; have F9 := k9.F; have G9 := k9.G; have F10 := k10.F; have G10 := k10.G
  subst hhole
  generalize hX : SaysK _ = X
  obtain ⟨a1, a2, a3, a4, a5, a6, a7, a8, a9, a10⟩ := m
  obtain ⟨wn, wd⟩ := w
  have hl : a1.length ≤ 16 := hm.locs
  have h1 : a3.length = a1.length := by have := hm.past; simpa [MemG.plain, Z1u] using this
  have h2 : a5.length = a1.length := hm.vals
  have h3 : a7.length = a1.length := by have := hm.marks; simpa [MemG.plain, Z1u] using this
  have h4 : a9.length ≤ 3 := by have := hm.fronts; simpa [MemG.plain, Z1u] using this
  have hcp := cp_ok hm (Nat.le_refl _)
  by_cases hb : (0 ≤ th ∧ th < a9.length) ∧ ActG.right ⟨2, o, q, v⟩ a1 = true
  · obtain ⟨⟨b1, b2⟩, b3⟩ := hb
    obtain ⟨b4, b5⟩ := right_bounds (by decide) b3
    have r6 : ∀ x, ((Z2p StampG.row (cpL a3 a3.length)).set o.toNat x).getD o.toNat [] = x := fun x => by
      rw [List.getD_eq_getElem?_getD, List.getElem?_set_self (by rw [Z32, cpL_len]; omega)]; rfl
    have r8 : ∀ x, ((Z2p RatG.row (cpL a9 a9.length)).set th.toNat x).getD th.toNat [] = x := fun x => by
      rw [List.getD_eq_getElem?_getD, List.getElem?_set_self (by rw [Z32, cpL_len]; omega)]; rfl
    have c1 : (th < 0) = False := by simp; omega
    have c2 : ((a9.length : Int) ≤ th) = False := by simp; omega
    unfold V_hist_Do L_hist_Do R_hist_Do
    simp (maxSteps := 3000000) only [↓Z0h, ↓Z11, ↓Z03, ↓Z0p, ↓Z0f, ↓Z0c, ↓Z0a, ↓Z0o, ↓Z1p, ↓Z12, ↓Z2b, ↓Z0n, ↓Z1r, ↓Z0i, ↓Z0e, ↓Z1b, ↓Z0d, Z25, Z05, Z0r, Z14, Z18, Z17, evN, Z13, Z0m, Z16, Z20, Z0l, Z0b, Z0k, Z1v, Z1n, Z1x, Z0v, evT, Opd.ev, Z04, Z00, Z15, Z21, Z1d, Z1i, Z0u, Z0w, Z0t, Z09, Z1g, LOp.isNew, State.prune, Z1e, Z0y, AV.leaf, Heap.at, Z06, Z02, Z0s, Z07, Z08, Z01, RatG.row, Z2c, List.length_set, evLen, mkVec, drows, List.length_map, List.take_of_length_le, Z28, Z2v, Z2w, evUn, binT, binQ, chk, Z24, List.contains_cons, List.contains_nil, Bool.or_false, Bool.false_or, Bool.and_self, resQ, resV, resT, pickV, Z10, evTake, Z1o, fnOf, Z1l, isD, Z3h, buildQ, Z3k, Z37, Z34, putRow, Z2t, Z0q, Nat.le_refl, ↓reduceIte, Nat.reduceAdd, Nat.reduceBEq, List.length_cons, List.length_nil, List.replicate_succ, List.replicate_zero, List.nil_append, List.cons_append, List.append_nil, List.map_cons, List.map_nil, List.all_cons, List.all_nil, List.set_cons_zero, List.set_cons_succ, List.getD_cons_zero, List.getD_cons_succ, List.drop_zero, List.drop_succ_cons, List.take_succ_cons, List.take_zero, List.flatten_cons, List.flatten_nil, Bool.true_and, Bool.not_true, Bool.not_false, true_and, and_true, Option.bind_some, Option.map_some, decide_true, decide_false, and_self, Nat.reduceLT, Nat.reduceLeDiff, List.reverse_cons, List.reverse_nil, Nat.zero_add, Nat.add_zero, Bool.false_eq_true, MemG.av, StepG.av7, F1, G1, F2, G2, F3, G3, G4, F5, G5, F6, G6, F7, G7, G8, at_act_Right, at_plain, at_rat_Right, cp_eff, at_InsertE, insE_d, store_rowRat, inn_at, List.set_set, at_hist_at, at_rat_Cmp, at_rat_Least, Z02, Z01, Z32, cpL_len, List.length_set, Int.reduceEq, decide_true, decide_false, Bool.or_false, c1, c2, b3, r6, r8]
    have hpl : ((inn a3).getD o.toNat []).length ≤ 1000000 := hm.pasts _ (inn_get (L := a3) (i := o.toNat) (by omega))
    have hfl : ((inn a9).getD th.toNat []).length = a1.length := hm.frontsL _ (inn_get (L := a9) (i := th.toNat) (by omega))
    have hgood : goodQ (MemG.plain ⟨a1, a2, a3, a4, a5, a6, a7, a8, a9, a10⟩) ⟨th, ⟨2, o, q, v⟩, ⟨wn, wd⟩⟩ = Z2d wn wd := by
      have e1 : decide (th < 0) = false := decide_eq_false (by omega)
      have e2 : decide ((a9.length : Int) ≤ th) = false := decide_eq_false (by omega)
      simp [goodQ, MemG.plain, Z1u, isPl, Z33, b3, e1, e2]
    have hD : doErr (MemG.plain ⟨a1, a2, a3, a4, a5, a6, a7, a8, a9, a10⟩) ⟨th, ⟨2, o, q, v⟩, ⟨wn, wd⟩⟩ = if Z2d wn wd = false then 1 else (if bsHas ((inn a3).getD o.toNat []) ⟨wn, wd⟩ = true then 5 else if rat_cmp wn wd (((inn a9).getD th.toNat []).getD o.toNat default).num (((inn a9).getD th.toNat []).getD o.toNat default).den ≤ 0 then 6 else 0) := by
      unfold doErr
      rw [hgood]
      by_cases g : Z2d wn wd = false
      · rw [if_pos g, if_pos g]
      · rw [if_neg g, if_neg g, if_neg (by show ¬ (2 : Int) = 1; decide), if_pos (by show (2 : Int) = 2; rfl)]; rfl
    have hM : doMem (MemG.plain ⟨a1, a2, a3, a4, a5, a6, a7, a8, a9, a10⟩) ⟨th, ⟨2, o, q, v⟩, ⟨wn, wd⟩⟩ = ⟨a1, (inn a3).set o.toNat (insG ((inn a3).getD o.toNat []) (bsAt ((inn a3).getD o.toNat []) ⟨wn, wd⟩) ⟨⟨(Z2q wn wd).1, (Z2q wn wd).2⟩, v⟩), a5, inn a7, (inn a9).set th.toNat (((inn a9).getD th.toNat []).set o.toNat ⟨(Z2q wn wd).1, (Z2q wn wd).2⟩)⟩ := by
      unfold doMem
      rw [if_pos (by show (2 : Int) = 2; rfl)]; rfl
    have hft : List.take ((inn a9).getD th.toNat []).length (((inn a9).getD th.toNat []).set o.toNat ⟨(Z2q wn wd).1, (Z2q wn wd).2⟩) = ((inn a9).getD th.toNat []).set o.toNat ⟨(Z2q wn wd).1, (Z2q wn wd).2⟩ := List.take_of_length_le (by simp)
    have hcp' : CpOk ⟨o.toNat, th.toNat⟩ ⟨a1, a2, a3, a4, a5, a6, a7, a8, a9, a10⟩ := cp_okH hcp (by show o.toNat < a3.length; omega) (by show th.toNat < a9.length; omega)
    have hbl := bsAt_le ((inn a3).getD o.toNat []) ⟨wn, wd⟩
    subst hX
    refine ⟨fun g1 => ⟨hcp', ⟨by omega, by omega⟩, by omega, ⟨by omega, by omega⟩, by omega, by omega, fun g2 => ?_, fun g2 => ⟨⟨by omega, by omega⟩, by omega, fun g3 => ?_, fun g3 => ⟨⟨by omega, by omega⟩, by omega, ⟨hbl, Z1t (by omega) (by omega)⟩, ⟨by omega, by omega⟩, by omega, ⟨by omega, by omega⟩, by omega, ?_⟩⟩⟩, fun g1 => ?_⟩
    · exact end_err (by rw [hD, g1, if_neg (by simp), if_pos g2]) (by decide)
    · exact end_err (by rw [hD, g1, if_neg (by simp), g2, if_neg (by simp), if_pos g3]) (by decide)
    · exact end_ok (ids := [10, 13]) (by rw [hD, g1, if_neg (by simp), g2, if_neg (by simp), if_neg g3]) (by simp only [State.ices, State.ice, HO.data, iceEnv, Z3g, ice_vec, ice_dvec, ice_dead, ice_mkVec, AV.ice, AV.iceL, Z3l, iceRows_nil, iceRows_set, iceRows_rowsL, iceL_data, Heap.at, List.getD_cons_zero, List.getD_cons_succ, ↓reduceIte, Nat.reduceEqDiff, Option.map_some, Nat.zero_add, Nat.reduceAdd, Nat.reduceBEq, List.drop_zero, Z1j, List.take_length, List.length_map, List.length_set, Nat.le_refl, and_self, Bool.not_true, hft]; rfl) (by rw [hM]; exact ⟨rfl, mk_rowsL_set _ _ _, rfl, mk_rowsL _, mk_rowsL_set _ _ _⟩) (by rw [hM]) (by rw [hM]; simp [Z1u]) (by rw [hM]) (by rw [hM]; simp [Z1u]) (by rw [hM]; simp [Z1u])
    · exact end_err (by rw [hD, g1, if_pos rfl]) (by decide)
  · have hD : doErr (MemG.plain ⟨a1, a2, a3, a4, a5, a6, a7, a8, a9, a10⟩) ⟨th, ⟨2, o, q, v⟩, ⟨wn, wd⟩⟩ = 1 := by
      unfold doErr
      rw [if_pos]
      unfold goodQ
      have e : ((inn a9).length : Int) = a9.length := by rw [Z1u]
      show (!decide (th < 0) && !decide (((inn a9).length : Int) ≤ th) && ActG.right ⟨2, o, q, v⟩ a1 && _ && _) = false
      rw [e]
      by_cases c1 : th < 0
      · simp [c1]
      · by_cases c2 : (a9.length : Int) ≤ th
        · simp [c2]
        · have : ActG.right ⟨2, o, q, v⟩ a1 = false := by
            cases h : ActG.right ⟨2, o, q, v⟩ a1 with
            | false => rfl
            | true => exact absurd ⟨⟨by omega, by omega⟩, h⟩ hb
          simp [this]
    unfold V_hist_Do L_hist_Do R_hist_Do
    simp (maxSteps := 3000000) only [↓Z0h, ↓Z11, ↓Z03, ↓Z0p, ↓Z0f, ↓Z0c, ↓Z0a, ↓Z0o, ↓Z1p, ↓Z0n, ↓Z1r, ↓Z0i, ↓Z0e, ↓Z1b, ↓Z0d, Z25, Z05, Z14, Z18, Z17, evN, Z13, Z0m, Z16, Z20, Z0l, Z0b, Z0k, Z1v, Z1n, Z1x, Z0v, evT, Opd.ev, Z04, Z00, Z15, Z21, Z1d, Z1i, Z0u, Z0w, Z0t, Z09, Z1g, LOp.isNew, State.prune, Z1e, Z0y, AV.leaf, Heap.at, Z06, Z02, Z07, Z08, Z01, List.length_set, evLen, List.length_map, List.take_of_length_le, Z28, Z2v, Z2w, evUn, binT, binQ, Bool.false_or, Bool.and_self, resQ, resV, resT, pickV, Z10, Z1o, fnOf, Z1l, isD, Z3h, buildQ, Z3k, putRow, Z0q, Nat.le_refl, ↓reduceIte, Nat.reduceAdd, Nat.reduceBEq, List.length_cons, List.length_nil, List.replicate_succ, List.replicate_zero, List.nil_append, List.cons_append, List.append_nil, List.map_cons, List.map_nil, List.all_cons, List.all_nil, List.set_cons_zero, List.set_cons_succ, List.getD_cons_zero, List.getD_cons_succ, List.drop_zero, List.drop_succ_cons, List.take_succ_cons, List.take_zero, List.flatten_cons, List.flatten_nil, Bool.not_true, true_and, decide_true, decide_false, and_self, Nat.reduceLT, Nat.reduceLeDiff, Nat.zero_add, Nat.add_zero, Bool.false_eq_true, MemG.av, StepG.av7, F1, G1, F2, G2, F3, G3, G4, F5, G5, at_act_Right, at_plain, at_rat_Right, cp_eff, inn_at, Z02, Z01, Z32, cpL_len, List.length_set, Int.reduceEq, decide_true, decide_false]
    subst hX
    exact ⟨fun _ => end_err hD (by decide), fun g1 => ⟨fun _ => end_err hD (by decide), fun g2 => ⟨fun g3 => absurd ⟨⟨by omega, by omega⟩, g3⟩ hb, fun _ => end_err hD (by decide)⟩⟩⟩
end Go.Ago

/- hist.Do: its contract. Conditions: none. -/
set_option maxRecDepth 100000
set_option linter.unusedSimpArgs false
set_option linter.unusedVariables false
namespace Go.Ago
def NeN (a b : Nat) : Prop := (a == b) = false
theorem KnowsG.nextG {T : Tab} {g g' : FuncId} {e e' : List AV → Heap → Option Eff} (hn : (g == g') = false) (h : KnowsG T g e) : KnowsG (T.addG g' e') g e :=
  ⟨by have : ¬ g = g' := by simpa using hn
      simp [Tab.addG, this, h.G]⟩
theorem KnowsG.hit {T : Tab} {g : FuncId} {e : List AV → Heap → Option Eff} : KnowsG (T.addG g e) g e := ⟨by simp [Tab.addG]⟩
theorem at_Do (a1 : List LocG) (a2 : Bool) (a3 : List StampsF) (a4 : Bool) (a5 : List Int) (a6 : Bool) (a7 : List RatsF) (a8 : Bool) (a9 : List RatsF) (a10 : Bool) (t k o q v n d : Int) :
    sp_Do.at [.agg [.d (.list (a1.map LocG.row) a2), .d (.list (a3.map rowStamps) a4), .d (.list (a5.map rowI) a6), .d (.list (a7.map rowRats) a8), .d (.list (a9.map rowRats) a10)], .agg [.d (.int .i64 t), .d (.int .i64 k), .d (.int .i64 o), .d (.int .i64 q), .d (.int .i64 v), .d (.int .i64 n), .d (.int .i64 d)]] =
      .data ((MemG.plain ⟨a1, a2, a3, a4, a5, a6, a7, a8, a9, a10⟩).Wf 1000000) (.tup [(resM (MemG.plain ⟨a1, a2, a3, a4, a5, a6, a7, a8, a9, a10⟩) ⟨t, ⟨k, o, q, v⟩, ⟨n, d⟩⟩).av, .d (.int .i64 (doErr (MemG.plain ⟨a1, a2, a3, a4, a5, a6, a7, a8, a9, a10⟩) ⟨t, ⟨k, o, q, v⟩, ⟨n, d⟩⟩))]) false :=
  Sp.at_enc (s := sp_Do) (fun x y h => by
    obtain ⟨m, ⟨t, ⟨k, o, q, v⟩, n, d⟩⟩ := x; obtain ⟨m', ⟨t', ⟨k', o', q', v'⟩, n', d'⟩⟩ := y
    simp only [sp_Do, StepG.av7, List.cons.injEq, AV.agg.injEq, AV.d.injEq, DV.int.injEq, and_true, true_and] at h
    obtain ⟨h1, h2, h3, h4, h5, h6, h7, h8⟩ := h
    rw [MemG.av_inj _ _ h1, h2, h3, h4, h5, h6, h7, h8]) (⟨a1, a2, a3, a4, a5, a6, a7, a8, a9, a10⟩, ⟨t, ⟨k, o, q, v⟩, ⟨n, d⟩⟩)
theorem Do_ok {P : Program} {T : Tab} {n1 n2 n3 n4 n5 n6 n7 n8 n9 n10 : Nat} (hH : ∀ h, TabOK P (T.addG n4 (ef_copied h).at)) (h0 : TabOK P (T.addG n4 ef_copied0.at)) (k1 : Knows T n1 sp_act_Right) (k2 : Knows T n2 sp_plain) (k3 : Knows T n3 sp_rat_Right) (k5 : Knows T n5 sp_hist_at) (k6 : Knows T n6 sp_rat_Cmp) (k7 : Knows T n7 sp_rat_Least) (k8 : KnowsG T n8 ef_Insert.at) (k9 : Knows T n9 sp_join) (k10 : Knows T n10 (cloneS 2 16))
    (e1 : NeN n1 n4) (e2 : NeN n2 n4) (e3 : NeN n3 n4) (e5 : NeN n5 n4) (e6 : NeN n6 n4) (e7 : NeN n7 n4) (e8 : NeN n8 n4) (e9 : NeN n9 n4) (e10 : NeN n10 n4)
    {f : FuncId} {fn : Func} {c : Code} (hf : P.funcs[f]? = some fn) (hname : (fn.name == "runtime.NumGoroutine") = false) (hb : fn.body = some c) (hl : lowCode P fn.ntmps c = some (L_hist_Do n1 n2 n3 n4 n5 n6 n7 n8 n9 n10)) (hr : lowRess P fn.results.toList = some R_hist_Do)
    (ha : 2 ≤ fn.ntmps) : sp_Do.Ok P f := by
  rintro ⟨m, ⟨th, ⟨k, o, q, v⟩, w⟩⟩ hok
  have hok : m.plain.Wf 1000000 := hok
  have fin : ∀ {e : List AV → Heap → Option Eff}, TabOK P (T.addG n4 e) →
      (Knows (T.addG n4 e) n1 sp_act_Right → Knows (T.addG n4 e) n2 sp_plain → Knows (T.addG n4 e) n3 sp_rat_Right → KnowsG (T.addG n4 e) n4 e → Knows (T.addG n4 e) n5 sp_hist_at → Knows (T.addG n4 e) n6 sp_rat_Cmp → Knows (T.addG n4 e) n7 sp_rat_Least → KnowsG (T.addG n4 e) n8 ef_Insert.at → Knows (T.addG n4 e) n9 sp_join → Knows (T.addG n4 e) n10 (cloneS 2 16) →
        vck (T.addG n4 e) 0 V_hist_Do (L_hist_Do n1 n2 n3 n4 n5 n6 n7 n8 n9 n10) ⟨Z0t 0 [m.av, StepG.av7 ⟨th, ⟨k, o, q, v⟩, w⟩], []⟩ (retK R_hist_Do (SaysK (RetD (.tup [(resM m.plain ⟨th, ⟨k, o, q, v⟩, w⟩).av, .d (.int .i64 (doErr m.plain ⟨th, ⟨k, o, q, v⟩, w⟩))]))))) →
      ACalls P f [m.av, StepG.av7 ⟨th, ⟨k, o, q, v⟩, w⟩] [] (RetD (.tup [(resM m.plain ⟨th, ⟨k, o, q, v⟩, w⟩).av, .d (.int .i64 (doErr m.plain ⟨th, ⟨k, o, q, v⟩, w⟩))])) := fun hT hv =>
    ACalls.saysK (ACalls.of_vck hT V_hist_Do hf hname hb hl hr ha (hv (k1.nextG e1) (k2.nextG e2) (k3.nextG e3) .hit (k5.nextG e5) (k6.nextG e6) (k7.nextG e7) (k8.nextG e8) (k9.nextG e9) (k10.nextG e10)))
  have hA : ACalls P f [m.av, StepG.av7 ⟨th, ⟨k, o, q, v⟩, w⟩] [] (RetD (.tup [(resM m.plain ⟨th, ⟨k, o, q, v⟩, w⟩).av, .d (.int .i64 (doErr m.plain ⟨th, ⟨k, o, q, v⟩, w⟩))])) := by
    by_cases c2 : k = 2
    · subst c2
      exact fin (hH ⟨o.toNat, th.toNat⟩) fun k1 k2 k3 k4 k5 k6 k7 k8 k9 k10 => do_write k1 k2 k3 k4 k5 k6 k7 k8 k9 k10 m th o q v w hok rfl
    · refine fin h0 fun k1 k2 k3 k4 k5 k6 k7 k8 k9 k10 => ?_
      by_cases c1 : k = 1
      · subst c1; exact do_read k1 k2 k3 k4 k5 k6 k7 k8 k9 k10 m th o q v w hok
      · by_cases c3 : k = 3
        · subst c3; exact do_get k1 k2 k3 k4 k5 k6 k7 k8 k9 k10 m th o q v w hok
        · by_cases c4 : k = 4
          · subst c4; exact do_set k1 k2 k3 k4 k5 k6 k7 k8 k9 k10 m th o q v w hok
          · by_cases c5 : k = 5
            · subst c5; exact do_turn k1 k2 k3 k4 k5 k6 k7 k8 k9 k10 m th o q v w hok
            · exact do_other k1 k2 k3 k4 k5 k6 k7 k8 k9 k10 m th o q v w hok ⟨c1, c2, c3, c4, c5⟩
  exact ⟨AV.plain_spec _ rfl, hA.mono fun r H' e => ⟨(AV.frz_spec _ _ e).1, fun h => by cases h⟩⟩
end Go.Ago

/- hist.Sees and hist.New. Conditions: none. -/
set_option maxRecDepth 100000
set_option linter.unusedSimpArgs false
set_option linter.unusedVariables false
namespace Go.Ago
/-! ### Sees -/
end Go.Ago

/- hist.New. Conditions: none. -/
set_option maxRecDepth 100000
set_option linter.unusedSimpArgs false
set_option linter.unusedVariables false
namespace Go.Ago
def newErr (l : List LocG) (t : Int) : Int := if 16 < l.length ∨ t < 1 ∨ 3 < t then 1 else 0
def pastX (x : LocG) : StampsF := if x.atom then ([], true) else ([⟨⟨0, 1⟩, x.init⟩], false)
def valX (x : LocG) : Int := if x.atom then x.init else 0
def markX (n : Nat) (x : LocG) : RatsF := if x.atom then (startG n, false) else ([], true)
def frontX (n t : Nat) : List RatsF := List.replicate t (startG n, false)
def newM (l : List LocG) (t : Int) : MemG := if newErr l t = 0 then ⟨l, false, l.map pastX, false, l.map valX, false, l.map (markX l.length), false, frontX l.length t.toNat, false⟩ else .nil
def sp_New : Sp := ⟨List LocG × Bool × Int, fun x => [.d (.list (x.1.map LocG.row) x.2.1), .d (.int .i64 x.2.2)], fun x => .data (x.1.length ≤ maxLen) (.tup [(newM x.1 x.2.2).av, .d (.int .i64 (newErr x.1 x.2.2))]) false⟩
theorem at_New (l : List LocG) (f : Bool) (t : Int) : sp_New.at [.d (.list (l.map LocG.row) f), .d (.int .i64 t)] = .data (l.length ≤ maxLen) (.tup [(newM l t).av, .d (.int .i64 (newErr l t))]) false :=
  Sp.at_enc (s := sp_New) (fun x y h => by
    obtain ⟨l, f, t⟩ := x; obtain ⟨l', f', t'⟩ := y
    simp only [sp_New, List.cons.injEq, AV.d.injEq, DV.list.injEq, DV.int.injEq, and_true, true_and] at h
    rw [rows_inj LocG.row_inj h.1.1, h.1.2, h.2]) (l, f, t)
theorem mkVec_appd {sz : Nat} {L : List (List DV)} {x : DV} : mkVec sz (L.map (fun x => x.map AV.d) ++ [[.d x]]) = .dvec sz (L ++ [[x]]) := by
  have : L.map (fun x => x.map AV.d) ++ [[AV.d x]] = (L ++ [[x]]).map (·.map AV.d) := by simp
  rw [this]; exact mkVec_some (drows_d _)
theorem frontX_len (n k : Nat) : (frontX n k).length = k := List.length_replicate
theorem frontX_take (n k : Nat) : List.take k (frontX n k) = frontX n k := List.take_of_length_le (by rw [frontX_len]; exact Nat.le_refl _)
theorem frontX_succ (n k : Nat) : ((frontX n (k + 1)).map rowRats) = (frontX n k).map rowRats ++ [[.list ((startG n).map RatG.row) false]] := by
  unfold frontX; rw [List.replicate_succ', List.map_append]; rfl
def nobj : HO := .vec 5 [[.d (.list [] true), .d (.list [] true), .d (.list [] true), .d (.list [] true), .d (.list [] true)]]
def frSt0 (f : Bool) (t : Int) : Nat → State
  | 0 => ⟨[(0, .d (.list [] f)), (4, .ptr 0 5 0 0), (6, .ptr 2 5 0 0), (73, .d (.int .i64 t)), (74, .d (.int .i64 0))],
      [nobj, .dvec 2 [], .vec 5 [[.ref 1 2 0 0 true, .d (.list [] true), .d (.list [] true), .d (.list [] true), .d (.list [] true)]]]⟩
  | j + 1 => ⟨[(0, .d (.list [] f)), (4, .ptr 0 5 0 0), (6, .ptr 2 5 0 0), (73, .d (.int .i64 t)), (74, .d (.int .i64 ((j + 1 : Nat) : Int)))],
      [nobj, .dvec 2 [], .vec 5 [[.ref 1 2 0 0 true, .d (.list [] true), .d (.list [] true), .d (.list [] true), .ref 3 1 0 (j + 1) true]], .dvec 1 ((frontX 0 (j + 1)).map rowRats)]⟩
def frSt (l : List LocG) (f : Bool) (t : Int) : Nat → State
  | 0 => ⟨[(0, .d (.list (l.map LocG.row) f)), (4, .ptr 0 5 0 0), (6, .ptr 2 5 0 0), (73, .d (.int .i64 t)), (74, .d (.int .i64 0))],
      [nobj, .dvec 2 (l.map LocG.row), .vec 5 [[.ref 1 2 0 l.length true, .ref 3 1 0 l.length true, .ref 4 1 0 l.length true, .ref 5 1 0 l.length true, .d (.list [] true)]],
       .dvec 1 ((l.map pastX).map rowStamps), .dvec 1 ((l.map valX).map rowI), .dvec 1 ((l.map (markX l.length)).map rowRats)]⟩
  | j + 1 => ⟨[(0, .d (.list (l.map LocG.row) f)), (4, .ptr 0 5 0 0), (6, .ptr 2 5 0 0), (73, .d (.int .i64 t)), (74, .d (.int .i64 ((j + 1 : Nat) : Int)))],
      [nobj, .dvec 2 (l.map LocG.row), .vec 5 [[.ref 1 2 0 l.length true, .ref 3 1 0 l.length true, .ref 4 1 0 l.length true, .ref 5 1 0 l.length true, .ref 6 1 0 (j + 1) true]],
       .dvec 1 ((l.map pastX).map rowStamps), .dvec 1 ((l.map valX).map rowI), .dvec 1 ((l.map (markX l.length)).map rowRats), .dvec 1 ((frontX l.length (j + 1)).map rowRats)]⟩
def newSt (l : List LocG) (f : Bool) (t : Int) : Nat → State
  | 0 => ⟨[(0, .d (.list (l.map LocG.row) f)), (1, .d (.int .i64 t)), (4, .ptr 0 5 0 0), (24, .d (.list (l.map LocG.row) f)), (25, .d (.int .i64 l.length)), (26, .d (.int .i64 0)), (6, .ptr 2 5 0 0)],
      [.vec 5 [[.d (.list [] true), .d (.list [] true), .d (.list [] true), .d (.list [] true), .d (.list [] true)]], .dvec 2 (l.map LocG.row), .vec 5 [[.ref 1 2 0 l.length true, .d (.list [] true), .d (.list [] true), .d (.list [] true), .d (.list [] true)]]]⟩
  | i + 1 => ⟨[(0, .d (.list (l.map LocG.row) f)), (1, .d (.int .i64 t)), (4, .ptr 0 5 0 0), (24, .d (.list (l.map LocG.row) f)), (25, .d (.int .i64 l.length)), (26, .d (.int .i64 ((i + 1 : Nat) : Int))), (6, .ptr 2 5 0 0)],
      [.vec 5 [[.d (.list [] true), .d (.list [] true), .d (.list [] true), .d (.list [] true), .d (.list [] true)]], .dvec 2 (l.map LocG.row), .vec 5 [[.ref 1 2 0 l.length true, .ref 3 1 0 (i + 1) true, .ref 4 1 0 (i + 1) true, .ref 5 1 0 (i + 1) true, .d (.list [] true)]],
       .dvec 1 (((l.take (i + 1)).map pastX).map rowStamps), .dvec 1 (((l.take (i + 1)).map valX).map rowI), .dvec 1 (((l.take (i + 1)).map (markX l.length)).map rowRats)]⟩
set_option maxHeartbeats 4000000 in
theorem body_hist_New {T : Tab} {n1 n2 : Nat} (k1 : Knows T n1 (cloneS 2 16)) (k2 : Knows T n2 sp_begin) : sp_New.Body T V_hist_New (L_hist_New n1 n2) R_hist_New := by
  have F1 := k1.F; have G1 := k1.G; have F2 := k2.F; have G2 := k2.G
  rintro ⟨l, f, t⟩ hl
  refine ⟨rfl, ?_⟩
  have hl : l.length ≤ maxLen := hl
  show vck T 0 V_hist_New (L_hist_New n1 n2) ⟨Z0t 0 [.d (.list (l.map LocG.row) f), .d (.int .i64 t)], []⟩ (retK R_hist_New (RetD (.tup [(newM l t).av, .d (.int .i64 (newErr l t))])))
  generalize hX : RetD _ = X
  unfold V_hist_New L_hist_New R_hist_New
  simp (maxSteps := 3000000) only [↓Z0h, ↓Z11, ↓Z03, ↓Z0p, ↓Z0f, ↓Z0c, ↓Z1h, ↓Z0a, ↓Z0o, ↓Z1p, ↓Z0n, ↓Z1r, ↓Z0i, ↓Z0e, ↓Z0d, Z25, Z05, Z14, Z18, Z17, evN, Z13, Z0m, Z16, Z0l, Z0b, Z0k, Z1n, Z0v, evT, Opd.ev, Z04, Z00, Z15, Z21, Z1d, Z1i, Z0u, Z0w, Z0t, Z09, Z1g, LOp.isNew, State.prune, Z1e, Z0y, AV.leaf, Heap.at, Z06, Z02, Z08, Z01, evLen, List.length_map, List.take_of_length_le, Z28, Z2v, Z2w, binT, binQ, Bool.and_self, resQ, resV, resT, pickV, Z10, Z1o, fnOf, Z1l, Z3h, buildQ, Z3k, lens_Loc, putRow, Z0q, Nat.le_refl, ↓reduceIte, Nat.reduceAdd, Nat.reduceBEq, List.length_cons, List.length_nil, List.replicate_succ, List.replicate_zero, List.nil_append, List.cons_append, List.append_nil, List.map_cons, List.map_nil, List.all_cons, List.all_nil, List.set_cons_zero, List.set_cons_succ, List.getD_cons_zero, List.getD_cons_succ, List.drop_zero, List.drop_succ_cons, List.take_zero, List.flatten_cons, List.flatten_nil, true_and, and_true, true_or, and_self, Nat.reduceLT, Nat.reduceLeDiff, Nat.zero_add, Nat.add_zero, Bool.false_eq_true, F1, G1, at_clone, Z02, Z01]
  have err : ∀ {H}, (16 < l.length ∨ t < 1 ∨ 3 < t) → X (.tup [.agg [.d (.list [] true), .d (.list [] true), .d (.list [] true), .d (.list [] true), .d (.list [] true)], .d (.int .i64 1)]) H := fun {H} h => by
    have e1 : newErr l t = 1 := if_pos h
    have e2 : newM l t = .nil := by unfold newM; rw [if_neg (by rw [e1]; decide)]
    rw [← hX, e1, e2]; rfl
  refine ⟨fun c => err (.inl (by omega)), fun c1 => ⟨fun c => err (.inr (.inl c)), fun c2 => ⟨fun c => err (.inr (.inr c)), fun c3 => ⟨Z1t (by omega) (by omega), ?_⟩⟩⟩⟩
  have hl16 : l.length ≤ 16 := by omega
  have ok1 : newErr l t = 0 := if_neg (by omega)
  have ok2 : newM l t = ⟨l, false, l.map pastX, false, l.map valX, false, l.map (markX l.length), false, frontX l.length t.toNat, false⟩ := if_pos ok1
  refine Loop.fam [0, 1, 4, 24, 25, 26, 6] (newSt l f t) (fun i => i ≤ l.length) (fun i => l.length - i) 0 [0, 1, 2] (by simp) (by simp) (by simp only [State.can, AV.can, AV.canL, HO.can, Z0z, idx, Z04, Z00, Heap.at, Nat.reduceBEq, ↓reduceIte, Nat.reduceEqDiff, Option.getD_some, Option.map_some, List.map_cons, List.map_nil, List.getD_cons_zero, List.getD_cons_succ, newSt]) (Nat.zero_le _) ?_
  intro i hi
  have hi : i ≤ l.length := hi
  by_cases hin : i < l.length
  · have e : l.getD i default = l[i] := Z2x hin
    have etk : l.take (i + 1) = l.take i ++ [l[i]] := by rw [List.take_add_one, List.getElem?_eq_getElem hin]; rfl
    by_cases hat : (l.getD i default).atom = true
    · have ep : rowStamps (pastX l[i]) = [.list [] true] := by rw [← e]; unfold pastX; rw [hat]; rfl
      have ev : rowI (valX l[i]) = [.int .i64 (l.getD i default).init] := by rw [← e]; unfold valX; rw [hat]; rfl
      have em : rowRats (markX l.length l[i]) = [.list ((startG l.length).map RatG.row) false] := by rw [← e]; unfold markX; rw [hat]; rfl
      cases i with
      | zero =>
        simp (maxSteps := 3000000) only [↓Z0h, ↓Z1a, ↓Z03, ↓Z0p, ↓Z0f, ↓Z0c, ↓Z1h, ↓Z0a, ↓Z0o, ↓Z1q, ↓Z12, ↓Z19, ↓Z0n, ↓famK_n, ↓Z30, ↓Z0i, ↓Z0d, Z25, Z05, Z0r, Z14, Z17, evN, Z13, Z0m, Z16, Z20, Z0l, Z0b, Z0k, Z0v, evT, Opd.ev, Z04, Z00, Z15, Z21, Z1d, Z0u, Z0w, Z09, Z1g, LOp.isNew, State.prune, Z1e, Z0y, AV.leaf, Heap.at, Z06, Z0x, Z02, idx_Loc, Z08, Z01, LocG.row, Z2c, Int.toNat_natCast, Int.reduceToNat, evLen, Z1s, Z38, Src.all, Src.len, Src.leaf, joinV, mkVec, drows, List.length_map, List.take_of_length_le, Nat.sub_zero, Z28, Z2v, Z2w, binT, binQ, chk, Z24, List.contains_cons, List.contains_nil, Bool.or_false, Bool.and_self, Z10, Z1o, fnOf, Z1l, Z3h, Z37, Z34, List.mem_cons, List.not_mem_nil, or_false, forall_eq, putRow, Z2t, Z0q, Nat.le_refl, ↓reduceIte, Nat.reduceAdd, Nat.reduceBEq, List.length_cons, List.length_nil, List.replicate_succ, List.replicate_zero, List.nil_append, List.cons_append, List.append_nil, List.map_cons, List.map_nil, List.all_cons, List.all_nil, List.set_cons_zero, List.set_cons_succ, List.getD_cons_zero, List.getD_cons_succ, List.drop_zero, List.drop_succ_cons, List.take_succ_cons, List.take_zero, List.flatten_cons, List.flatten_nil, Bool.true_and, Bool.and_true, Bool.not_false, true_and, or_true, Option.bind_some, Option.map_some, false_implies, implies_true, and_self, Nat.reduceLT, Nat.reduceLeDiff, List.reverse_cons, List.reverse_nil, Nat.zero_add, Nat.add_zero, Bool.false_eq_true, newSt, F2, G2, at_begin, Z02, Z01, hat]
        refine ⟨fun c => ⟨⟨by omega, by omega⟩, Z1t (by omega) (by omega), Z1t (by omega) (by omega), ⟨by omega, by omega⟩, Z1t (by omega) (by omega), Z0g.mk [0, 1, 2, 5, 7, 10] 1 (by simp) (by simp) ?_ (by show 1 ≤ l.length; omega) (by show l.length - 1 < l.length; omega)⟩, fun c => absurd (by omega) c⟩
        simp only [State.can, AV.can, AV.canL, HO.can, Z0z, idx, Z04, Z00, Heap.at, Nat.reduceBEq, ↓reduceIte, Nat.reduceEqDiff, Option.getD_some, Option.map_some, List.map_cons, List.map_nil, List.getD_cons_zero, List.getD_cons_succ, newSt, etk, List.take_zero, List.nil_append, List.map_cons, List.map_nil, ep, ev, em]; rfl
      | succ i =>
        have hlt : (List.take (i + 1) l).length = i + 1 := by rw [List.length_take]; omega
        have ht : ∀ {β : Type} (g : LocG → β), List.take (i + 1) (List.map g (List.take (i + 1) l)) = List.map g (List.take (i + 1) l) := fun g => List.take_of_length_le (by rw [List.length_map, hlt]; omega)
        simp (maxSteps := 3000000) only [↓Z0h, ↓Z1a, ↓Z03, ↓Z0p, ↓Z0f, ↓Z0c, ↓Z1h, ↓Z0a, ↓Z0o, ↓Z1q, ↓Z12, ↓Z19, ↓Z0n, ↓famK_n, ↓Z30, ↓Z0i, ↓Z0d, Z25, Z05, Z0r, Z14, Z17, evN, Z13, Z0m, Z16, Z20, Z0l, Z0b, Z0k, Z0v, evT, Opd.ev, Z04, Z00, Z15, Z21, Z1d, Z0u, Z0w, Z09, Z1g, LOp.isNew, State.prune, Z1e, Z0y, AV.leaf, Heap.at, Z06, Z0x, Z02, idx_Loc, Z08, Z01, LocG.row, Z2c, app_rowI, Int.toNat_natCast, evLen, Z1s, Z38, Src.all, Src.len, Src.leaf, joinV, mkVec, drows, List.length_map, List.take_of_length_le, Z28, Z2v, Z2w, binT, binQ, chk, Z24, List.contains_cons, List.contains_nil, Bool.or_false, Bool.and_self, Z10, Z1o, fnOf, Z1l, Z3h, Z37, Z34, List.mem_cons, List.not_mem_nil, or_false, forall_eq, putRow, Z2t, Z0q, Nat.le_refl, ↓reduceIte, Nat.reduceAdd, Nat.reduceBEq, List.length_cons, List.length_nil, List.replicate_succ, List.replicate_zero, List.nil_append, List.cons_append, List.append_nil, List.map_cons, List.map_nil, List.all_cons, List.all_nil, List.set_cons_zero, List.set_cons_succ, List.getD_cons_zero, List.getD_cons_succ, List.drop_zero, List.drop_succ_cons, List.take_succ_cons, List.take_zero, List.flatten_cons, List.flatten_nil, Bool.true_and, Bool.and_true, Bool.not_false, true_and, Option.bind_some, Option.map_some, and_self, Nat.reduceLT, Nat.reduceLeDiff, List.reverse_cons, List.reverse_nil, Nat.zero_add, Nat.add_zero, Bool.false_eq_true, newSt, F2, G2, at_begin, Z02, Z01, hat, hlt]
        refine ⟨fun c => ⟨⟨by omega, by omega⟩, Z1t (by omega) (by omega), Z1t (by omega) (by omega), ⟨by omega, by omega⟩, Z1t (by omega) (by omega), ?_⟩, fun c => absurd (by omega) c⟩
        rw [Z2r hin (by unfold maxLen; omega)]
        refine Z0g.mk [0, 1, 2, 8, 10, 13] (i + 2) (by simp) (by simp) ?_ (by show i + 2 ≤ l.length; omega) (by show l.length - (i + 2) < l.length - (i + 1); omega)
        simp only [State.can, AV.can, AV.canL, HO.can, Z0z, idx, Z04, Z00, Heap.at, Nat.reduceBEq, ↓reduceIte, Nat.reduceEqDiff, Option.getD_some, Option.map_some, List.map_cons, List.map_nil, List.getD_cons_zero, List.getD_cons_succ, newSt, etk, List.map_append, List.map_cons, List.map_nil, ep, ev, em]; rfl
    · have hat : (l.getD i default).atom = false := by simpa using hat
      have ep : rowStamps (pastX l[i]) = [.list [[.int .i64 0, .int .i64 1, .int .i64 (l.getD i default).init]] false] := by rw [← e]; unfold pastX; rw [hat]; rfl
      have ev : rowI (valX l[i]) = [.int .i64 0] := by rw [← e]; unfold valX; rw [hat]; rfl
      have em : rowRats (markX l.length l[i]) = [.list [] true] := by rw [← e]; unfold markX; rw [hat]; rfl
      cases i with
      | zero =>
        simp (maxSteps := 3000000) only [↓Z0h, ↓Z1a, ↓Z03, ↓Z0p, ↓Z0f, ↓Z0c, ↓Z1h, ↓Z0a, ↓Z0o, ↓Z1q, ↓Z12, ↓Z19, ↓Z0n, ↓famK_n, ↓Z30, ↓Z0e, ↓Z0d, Z25, Z05, Z0r, Z14, Z17, evN, Z0m, Z16, Z20, Z0l, Z0b, Z0k, Z0v, evT, Opd.ev, Z04, Z00, Z15, Z21, Z1d, Z0u, Z0w, Z09, Z1g, LOp.isNew, State.prune, Z1e, Z0y, AV.leaf, Heap.at, Z06, Z0x, Z02, idx_Loc, Z08, Z01, LocG.row, Z2c, Int.reduceToNat, Z1s, Z38, Src.all, Src.len, Src.leaf, joinV, mkVec, drows, List.take_of_length_le, Nat.sub_zero, Z28, Z2v, Z2w, binT, binQ, chk, Z24, List.contains_cons, List.contains_nil, Bool.or_false, Bool.and_self, buildQ, Z3k, Z37, Z34, List.mem_cons, List.not_mem_nil, or_false, forall_eq, putRow, Z2t, Z0q, Nat.le_refl, ↓reduceIte, Nat.reduceAdd, Nat.reduceBEq, List.length_cons, List.length_nil, List.replicate_succ, List.replicate_zero, List.nil_append, List.cons_append, List.append_nil, List.map_cons, List.map_nil, List.all_cons, List.all_nil, List.set_cons_zero, List.set_cons_succ, List.getD_cons_zero, List.getD_cons_succ, List.drop_zero, List.drop_succ_cons, List.take_succ_cons, List.take_zero, Bool.true_and, Bool.and_true, Bool.not_false, true_and, or_true, Option.bind_some, Option.map_some, false_implies, implies_true, and_self, Nat.reduceLT, Nat.reduceLeDiff, List.reverse_cons, List.reverse_nil, Nat.zero_add, Nat.add_zero, Bool.false_eq_true, newSt, Z02, Z01, hat, Option.bind_none]
        refine ⟨fun c => ⟨⟨by omega, by omega⟩, Z1t (by omega) (by omega), Z1t (by omega) (by omega), Z1t (by omega) (by omega), Z0g.ices [4] (Z0g.thaw 0 (Z0g.thaw 2 (Z0g.mk [0, 1, 2, 6, 8, 10] 1 (by simp) (by simp [State.thaw, ices_len]) ?_ (by show 1 ≤ l.length; omega) (by show l.length - 1 < l.length; omega))))⟩, fun c => absurd (by omega) c⟩
        simp only [State.can, AV.can, AV.canL, HO.can, Z0z, idx, Z04, Z00, Heap.at, Nat.reduceBEq, ↓reduceIte, Nat.reduceEqDiff, Option.getD_some, Option.map_some, List.map_cons, List.map_nil, List.getD_cons_zero, List.getD_cons_succ, newSt, etk, List.take_zero, List.nil_append, List.map_cons, List.map_nil, ep, ev, em, State.ices, State.ice, HO.data, iceEnv, Z3g, HO.ice, AV.ice, AV.iceL, State.thaw, thaw_mkVec, Z3l, iceRows_nil, List.set_cons_zero, List.set_cons_succ, List.drop_zero, List.take_succ_cons, List.take_zero, List.length_cons, List.length_nil, Bool.not_true, Nat.zero_add, Nat.le_refl, and_self]; rfl
      | succ i =>
        have hlt : (List.take (i + 1) l).length = i + 1 := by rw [List.length_take]; omega
        have ht : ∀ {β : Type} (g : LocG → β), List.take (i + 1) (List.map g (List.take (i + 1) l)) = List.map g (List.take (i + 1) l) := fun g => List.take_of_length_le (by rw [List.length_map, hlt]; omega)
        simp (maxSteps := 3000000) only [↓Z0h, ↓Z1a, ↓Z03, ↓Z0p, ↓Z0f, ↓Z0c, ↓Z1h, ↓Z0a, ↓Z0o, ↓Z1q, ↓Z12, ↓Z19, ↓Z0n, ↓famK_n, ↓Z30, ↓Z0e, ↓Z0d, Z25, Z05, Z0r, Z14, Z17, evN, Z0m, Z16, Z20, Z0l, Z0b, Z0k, Z0v, evT, Opd.ev, Z04, Z00, Z15, Z21, Z1d, Z0u, Z0w, Z09, Z1g, LOp.isNew, State.prune, Z1e, Z0y, AV.leaf, Heap.at, Z06, Z0x, Z02, idx_Loc, Z08, Z01, LocG.row, Z2c, app_rowI, Int.toNat_natCast, Z1s, Z38, Src.all, Src.len, Src.leaf, joinV, mkVec, drows, List.length_map, List.take_of_length_le, Z28, Z2v, Z2w, binT, binQ, chk, Z24, List.contains_cons, List.contains_nil, Bool.or_false, Bool.and_self, buildQ, Z3k, Z37, Z34, List.mem_cons, List.not_mem_nil, or_false, forall_eq, putRow, Z2t, Z0q, Nat.le_refl, ↓reduceIte, Nat.reduceAdd, Nat.reduceBEq, List.length_cons, List.length_nil, List.replicate_succ, List.replicate_zero, List.nil_append, List.cons_append, List.append_nil, List.map_cons, List.map_nil, List.all_cons, List.all_nil, List.set_cons_zero, List.set_cons_succ, List.getD_cons_zero, List.getD_cons_succ, List.drop_zero, List.drop_succ_cons, List.take_succ_cons, List.take_zero, Bool.true_and, Bool.and_true, Bool.not_false, true_and, Option.bind_some, Option.map_some, and_self, Nat.reduceLT, Nat.reduceLeDiff, List.reverse_cons, List.reverse_nil, Nat.zero_add, Nat.add_zero, Bool.false_eq_true, newSt, Z02, Z01, hat, Option.bind_none, hlt]
        refine ⟨fun c => ⟨⟨by omega, by omega⟩, Z1t (by omega) (by omega), Z1t (by omega) (by omega), Z1t (by omega) (by omega), ?_⟩, fun c => absurd (by omega) c⟩
        rw [Z2r hin (by unfold maxLen; omega)]
        refine Z0g.ices [7] (Z0g.thaw 0 (Z0g.thaw 2 (Z0g.mk [0, 1, 2, 9, 11, 13] (i + 2) (by simp) (by simp [State.thaw, ices_len]) ?_ (by show i + 2 ≤ l.length; omega) (by show l.length - (i + 2) < l.length - (i + 1); omega))))
        simp only [State.can, AV.can, AV.canL, HO.can, Z0z, idx, Z04, Z00, Heap.at, Nat.reduceBEq, ↓reduceIte, Nat.reduceEqDiff, Option.getD_some, Option.map_some, List.map_cons, List.map_nil, List.getD_cons_zero, List.getD_cons_succ, newSt, etk, List.map_append, List.map_cons, List.map_nil, ep, ev, em, mkVec_appd, State.ices, State.ice, HO.data, iceEnv, Z3g, HO.ice, AV.ice, AV.iceL, State.thaw, thaw_mkVec, Z3l, iceRows_nil, iceRows_app, iceRows_d, List.set_cons_zero, List.set_cons_succ, List.drop_zero, List.take_succ_cons, List.take_zero, List.length_cons, List.length_nil, Bool.not_true, Nat.zero_add, Nat.le_refl, and_self]; rfl
  · have hil : i = l.length := by omega
    cases i with
    | zero =>
      have hl0 : l = [] := List.length_eq_zero_iff.1 hil.symm
      subst hl0
      simp (maxSteps := 3000000) only [↓Z0h, ↓Z1a, ↓Z03, ↓Z0p, ↓Z0f, ↓Z0c, ↓Z1h, ↓Z0a, ↓Z0o, ↓Z1q, ↓Z19, ↓Z0n, ↓Z30, ↓Z0d, Z25, Z05, Z14, Z17, evN, Z0m, Z16, Z0l, Z0k, Z0v, evT, Opd.ev, Z04, Z00, Z15, Z0u, Z0w, Z09, Z1g, LOp.isNew, State.prune, Nat.sub_zero, Z2w, binT, binQ, Z0q, ↓reduceIte, Nat.reduceAdd, Nat.reduceBEq, List.length_cons, List.length_nil, List.replicate_succ, List.replicate_zero, List.nil_append, List.cons_append, List.append_nil, List.map_cons, List.map_nil, true_and, Nat.zero_add, Nat.add_zero, Bool.false_eq_true, newSt]
      refine ⟨fun c => absurd c (by simp), fun _ => ?_⟩
      refine Loop.fam [0, 4, 6, 73, 74] (frSt0 f t) (fun j => (j : Int) ≤ t) (fun j => t.toNat - j) 0 [0, 1, 2] (by simp) (by simp) (by simp only [State.can, AV.can, AV.canL, HO.can, Z0z, idx, Z04, Z00, Heap.at, Nat.reduceBEq, ↓reduceIte, Nat.reduceEqDiff, Option.getD_some, Option.map_some, List.map_cons, List.map_nil, List.getD_cons_zero, List.getD_cons_succ, frSt0, nobj]) (by show (0 : Int) ≤ t; omega) ?_
      intro j hj
      have hj : (j : Int) ≤ t := hj
      cases j with
      | zero =>
        simp (maxSteps := 3000000) only [↓Z0h, ↓Z11, ↓Z1a, ↓Z03, ↓Z0p, ↓Z0f, ↓Z0c, ↓Z0a, ↓Z0o, ↓Z1q, ↓Z12, ↓Z19, ↓Z0n, ↓Z1r, ↓famK_n, ↓Z30, ↓Z0d, Z25, Z05, Z0r, Z14, Z17, evN, Z13, Z0m, Z16, Z20, Z0l, Z0b, Z0k, Z0v, evT, Opd.ev, Z04, Z00, Z15, Z21, Z1d, Z0u, Z0w, Z09, Z1g, LOp.isNew, State.prune, Z1e, Z0y, AV.leaf, Heap.at, Z06, Z02, Z08, Z01, Int.toNat_natCast, evLen, Z1s, Z38, Src.all, Src.len, Src.leaf, joinV, mkVec, drows, List.take_of_length_le, Nat.sub_zero, Z28, Z2v, Z2w, binT, binQ, chk, Z24, List.contains_cons, List.contains_nil, Bool.or_false, Bool.and_self, resQ, resV, resT, Z10, Z1o, fnOf, Z1l, Z3h, Z37, Z34, List.mem_cons, List.not_mem_nil, or_false, forall_eq, putRow, Z2t, Z0q, Nat.le_refl, ↓reduceIte, Nat.reduceAdd, Nat.reduceBEq, List.length_cons, List.length_nil, List.replicate_succ, List.replicate_zero, List.nil_append, List.cons_append, List.append_nil, List.map_cons, List.map_nil, List.all_cons, List.all_nil, List.set_cons_zero, List.set_cons_succ, List.getD_cons_zero, List.getD_cons_succ, List.drop_zero, List.drop_succ_cons, List.take_succ_cons, List.take_zero, List.flatten_cons, List.flatten_nil, Bool.true_and, Bool.not_false, true_and, or_true, Option.bind_some, Option.map_some, false_implies, implies_true, and_self, Nat.reduceLT, List.reverse_cons, List.reverse_nil, Nat.zero_add, Nat.add_zero, Bool.false_eq_true, frSt0, nobj, F2, G2, at_begin, Z02, Z01]
        refine ⟨fun c => ⟨⟨by omega, by omega⟩, Z1t (by omega) (by omega), Z0g.mk [0, 1, 2, 5] 1 (by simp) (by simp) (by simp only [State.can, AV.can, AV.canL, HO.can, Z0z, idx, Z04, Z00, Heap.at, Nat.reduceBEq, ↓reduceIte, Nat.reduceEqDiff, Option.getD_some, Option.map_some, List.map_cons, List.map_nil, List.getD_cons_zero, List.getD_cons_succ, frSt0, nobj]; rfl) (by show ((1 : Nat) : Int) ≤ t; omega) (by show t.toNat - 1 < t.toNat; omega)⟩, fun c => absurd (by omega) c⟩
      | succ j =>
        simp (maxSteps := 3000000) only [↓Z0h, ↓Z11, ↓Z1a, ↓Z03, ↓Z0p, ↓Z0f, ↓Z0c, ↓Z0a, ↓Z0o, ↓Z1q, ↓Z12, ↓Z19, ↓Z0n, ↓Z1r, ↓famK_n, ↓Z30, ↓Z0d, Z25, Z05, Z0r, Z14, Z17, evN, Z13, Z0m, Z16, Z20, Z0l, Z0b, Z0k, Z0v, evT, Opd.ev, Z04, Z00, Z15, Z21, Z1d, Z0u, Z0w, Z09, Z1g, LOp.isNew, State.prune, Z1e, Z0y, AV.leaf, Heap.at, Z06, Z02, Z08, Z01, Int.toNat_natCast, evLen, Z1s, Z38, Src.all, Src.len, Src.leaf, joinV, mkVec, drows, List.length_map, List.take_of_length_le, Z28, Z2v, Z2w, binT, binQ, chk, Z24, List.contains_cons, List.contains_nil, Bool.or_false, Bool.and_self, resQ, resV, resT, Z10, Z1o, fnOf, Z1l, Z3h, Z37, Z34, List.mem_cons, List.not_mem_nil, or_false, forall_eq, putRow, Z2t, Z0q, Nat.le_refl, ↓reduceIte, Nat.reduceAdd, Nat.reduceBEq, List.length_cons, List.length_nil, List.replicate_succ, List.replicate_zero, List.nil_append, List.cons_append, List.append_nil, List.map_cons, List.map_nil, List.all_cons, List.all_nil, List.set_cons_zero, List.set_cons_succ, List.getD_cons_zero, List.getD_cons_succ, List.drop_zero, List.drop_succ_cons, List.take_succ_cons, List.take_zero, List.flatten_cons, List.flatten_nil, Bool.true_and, Bool.not_false, true_and, Option.bind_some, Option.map_some, and_self, Nat.reduceLT, List.reverse_cons, List.reverse_nil, Nat.zero_add, Nat.add_zero, Bool.false_eq_true, frSt0, nobj, F2, G2, at_begin, Z02, Z01, frontX_len]
        have ew : IntKind.i64.wrap (((j + 1 : Nat) : Int) + 1) = ((j + 2 : Nat) : Int) := by
          have := @Z2r (j + 1) 4 (by omega) (by unfold maxLen; omega)
          exact this
        refine ⟨fun c => ⟨⟨by omega, by omega⟩, Z1t (by omega) (by omega), ?_⟩, fun c => ?_⟩
        · rw [ew]
          refine Z0g.mk [0, 1, 2, 6] (j + 2) (by simp) (by simp) ?_ (by show ((j + 2 : Nat) : Int) ≤ t; omega) (by show t.toNat - (j + 2) < t.toNat - (j + 1); omega)
          simp only [State.can, AV.can, AV.canL, HO.can, Z0z, idx, Z04, Z00, Heap.at, Nat.reduceBEq, ↓reduceIte, Nat.reduceEqDiff, Option.getD_some, Option.map_some, List.map_cons, List.map_nil, List.getD_cons_zero, List.getD_cons_succ, frSt0, nobj, frontX_succ 0 (j + 1)]
        · have et : t.toNat = j + 1 := by omega
          rw [← hX, ok1, ok2, et]
          simp only [RetD, AV.frz, AV.frzL, Heap.at, List.getD_cons_zero, List.getD_cons_succ, Nat.zero_add, Nat.le_refl, List.length_map, List.length_nil, frontX_len, and_self, if_true, List.drop_zero, Z1j, List.take_length, Nat.le_zero_eq, frontX_take]
          rfl
    | succ i =>
      have hlt : List.take (i + 1) l = l := by rw [hil]; exact List.take_length
      have htk : ∀ {β : Type} (g : LocG → β), List.take l.length (List.map g l) = List.map g l := fun g => List.take_of_length_le (by rw [List.length_map]; omega)
      simp (maxSteps := 3000000) only [↓Z0h, ↓Z1a, ↓Z03, ↓Z0p, ↓Z0f, ↓Z0c, ↓Z1h, ↓Z0a, ↓Z0o, ↓Z1q, ↓Z19, ↓Z0n, ↓Z30, ↓Z0d, Z25, Z05, Z14, Z17, evN, Z0m, Z16, Z20, Z0l, Z0b, Z0k, Z0v, evT, Opd.ev, Z04, Z00, Z15, Z21, Z1d, Z0u, Z0w, Z09, Z1g, LOp.isNew, State.prune, Z1e, Z0y, AV.leaf, Heap.at, Z06, Z0x, Z02, idx_Loc, Z08, Z01, LocG.row, Z2c, Int.toNat_natCast, Z1s, Z38, Src.all, Src.len, Src.leaf, joinV, mkVec, drows, List.length_map, Z1j, List.take_of_length_le, Z28, Z2v, Z2w, binT, binQ, Bool.and_self, buildQ, Z3k, Z37, Z34, putRow, Z2t, Z0q, Nat.le_refl, ↓reduceIte, Nat.reduceAdd, Nat.reduceBEq, List.length_cons, List.length_nil, List.replicate_succ, List.replicate_zero, List.nil_append, List.cons_append, List.append_nil, List.map_cons, List.map_nil, List.all_cons, List.all_nil, List.set_cons_zero, List.set_cons_succ, List.getD_cons_zero, List.getD_cons_succ, List.drop_zero, List.drop_succ_cons, List.take_succ_cons, List.take_zero, true_and, Option.bind_some, Option.map_some, and_self, Nat.reduceLT, Nat.reduceLeDiff, Nat.zero_add, Nat.add_zero, Bool.false_eq_true, newSt, Z02, Z01, Option.bind_none, hlt]
      refine ⟨fun c => absurd c (by omega), fun _ => ?_⟩
      refine Loop.fam [0, 4, 6, 73, 74] (frSt l f t) (fun j => (j : Int) ≤ t) (fun j => t.toNat - j) 0 [0, 1, 2, 3, 4, 5] (by simp) (by simp) (by simp only [State.can, AV.can, AV.canL, HO.can, Z0z, idx, Z04, Z00, Heap.at, Nat.reduceBEq, ↓reduceIte, Nat.reduceEqDiff, Option.getD_some, Option.map_some, List.map_cons, List.map_nil, List.getD_cons_zero, List.getD_cons_succ, frSt, nobj, hil]) (by show (0 : Int) ≤ t; omega) ?_
      intro j hj
      have hj : (j : Int) ≤ t := hj
      cases j with
      | zero =>
        simp (maxSteps := 3000000) only [↓Z0h, ↓Z11, ↓Z1a, ↓Z03, ↓Z0p, ↓Z0f, ↓Z0c, ↓Z0a, ↓Z0o, ↓Z1q, ↓Z12, ↓Z19, ↓Z0n, ↓Z1r, ↓famK_n, ↓Z30, ↓Z0d, Z25, Z05, Z0r, Z14, Z17, evN, Z13, Z0m, Z16, Z20, Z0l, Z0b, Z0k, Z0v, evT, Opd.ev, Z04, Z00, Z15, Z21, Z1d, Z0u, Z0w, Z09, Z1g, LOp.isNew, State.prune, Z1e, Z0y, AV.leaf, Heap.at, Z06, Z02, Z08, Z01, Int.toNat_natCast, evLen, Z1s, Z38, Src.all, Src.len, Src.leaf, joinV, mkVec, drows, List.length_map, List.take_of_length_le, Nat.sub_zero, Z28, Z2v, Z2w, binT, binQ, chk, Z24, List.contains_cons, List.contains_nil, Bool.or_false, Bool.and_self, resQ, resV, resT, Z10, Z1o, fnOf, Z1l, Z3h, Z37, Z34, List.mem_cons, List.not_mem_nil, or_false, forall_eq, putRow, Z2t, Z0q, Nat.le_refl, ↓reduceIte, Nat.reduceAdd, Nat.reduceBEq, List.length_cons, List.length_nil, List.replicate_succ, List.replicate_zero, List.nil_append, List.cons_append, List.append_nil, List.map_cons, List.map_nil, List.all_cons, List.all_nil, List.set_cons_zero, List.set_cons_succ, List.getD_cons_zero, List.getD_cons_succ, List.drop_zero, List.drop_succ_cons, List.take_succ_cons, List.take_zero, List.flatten_cons, List.flatten_nil, Bool.true_and, Bool.not_false, true_and, or_true, Option.bind_some, Option.map_some, false_implies, implies_true, and_self, Nat.reduceLT, List.reverse_cons, List.reverse_nil, Nat.zero_add, Nat.add_zero, Bool.false_eq_true, frSt, nobj, F2, G2, at_begin, Z02, Z01]
        refine ⟨fun c => ⟨⟨by omega, by omega⟩, Z1t (by omega) (by omega), Z0g.mk [0, 1, 2, 3, 4, 5, 8] 1 (by simp) (by simp) (by simp only [State.can, AV.can, AV.canL, HO.can, Z0z, idx, Z04, Z00, Heap.at, Nat.reduceBEq, ↓reduceIte, Nat.reduceEqDiff, Option.getD_some, Option.map_some, List.map_cons, List.map_nil, List.getD_cons_zero, List.getD_cons_succ, frSt, nobj]; rfl) (by show ((1 : Nat) : Int) ≤ t; omega) (by show t.toNat - 1 < t.toNat; omega)⟩, fun c => absurd (by omega) c⟩
      | succ j =>
        simp (maxSteps := 3000000) only [↓Z0h, ↓Z11, ↓Z1a, ↓Z03, ↓Z0p, ↓Z0f, ↓Z0c, ↓Z0a, ↓Z0o, ↓Z1q, ↓Z12, ↓Z19, ↓Z0n, ↓Z1r, ↓famK_n, ↓Z30, ↓Z0d, Z25, Z05, Z0r, Z14, Z17, evN, Z13, Z0m, Z16, Z20, Z0l, Z0b, Z0k, Z0v, evT, Opd.ev, Z04, Z00, Z15, Z21, Z1d, Z0u, Z0w, Z09, Z1g, LOp.isNew, State.prune, Z1e, Z0y, AV.leaf, Heap.at, Z06, Z02, Z08, Z01, Int.toNat_natCast, evLen, Z1s, Z38, Src.all, Src.len, Src.leaf, joinV, mkVec, drows, List.length_map, List.take_of_length_le, Z28, Z2v, Z2w, binT, binQ, chk, Z24, List.contains_cons, List.contains_nil, Bool.or_false, Bool.and_self, resQ, resV, resT, Z10, Z1o, fnOf, Z1l, Z3h, Z37, Z34, List.mem_cons, List.not_mem_nil, or_false, forall_eq, putRow, Z2t, Z0q, Nat.le_refl, ↓reduceIte, Nat.reduceAdd, Nat.reduceBEq, List.length_cons, List.length_nil, List.replicate_succ, List.replicate_zero, List.nil_append, List.cons_append, List.append_nil, List.map_cons, List.map_nil, List.all_cons, List.all_nil, List.set_cons_zero, List.set_cons_succ, List.getD_cons_zero, List.getD_cons_succ, List.drop_zero, List.drop_succ_cons, List.take_succ_cons, List.take_zero, List.flatten_cons, List.flatten_nil, Bool.true_and, Bool.not_false, true_and, Option.bind_some, Option.map_some, and_self, Nat.reduceLT, List.reverse_cons, List.reverse_nil, Nat.zero_add, Nat.add_zero, Bool.false_eq_true, frSt, nobj, F2, G2, at_begin, Z02, Z01, frontX_len]
        have ew : IntKind.i64.wrap (((j + 1 : Nat) : Int) + 1) = ((j + 2 : Nat) : Int) := by
          have := @Z2r (j + 1) 4 (by omega) (by unfold maxLen; omega)
          exact this
        refine ⟨fun c => ⟨⟨by omega, by omega⟩, Z1t (by omega) (by omega), ?_⟩, fun c => ?_⟩
        · rw [ew]
          refine Z0g.mk [0, 1, 2, 3, 4, 5, 9] (j + 2) (by simp) (by simp) ?_ (by show ((j + 2 : Nat) : Int) ≤ t; omega) (by show t.toNat - (j + 2) < t.toNat - (j + 1); omega)
          simp only [State.can, AV.can, AV.canL, HO.can, Z0z, idx, Z04, Z00, Heap.at, Nat.reduceBEq, ↓reduceIte, Nat.reduceEqDiff, Option.getD_some, Option.map_some, List.map_cons, List.map_nil, List.getD_cons_zero, List.getD_cons_succ, frSt, nobj, frontX_succ l.length (j + 1)]
        · have et : t.toNat = j + 1 := by omega
          rw [← hX, ok1, ok2, et]
          simp only [RetD, AV.frz, AV.frzL, Heap.at, List.getD_cons_zero, List.getD_cons_succ, Nat.zero_add, Nat.le_refl, List.length_map, List.length_nil, frontX_len, and_self, if_true, List.drop_zero, Z1j, List.take_length, Nat.le_zero_eq, frontX_take, htk]
          rfl
end Go.Ago

/- Memories in plain words: what a step Z1g. Conditions: none. -/
set_option maxRecDepth 100000
set_option linter.unusedSimpArgs false
set_option linter.unusedVariables false
namespace Go.Ago
/-! ### Moments -/
theorem rightQ_iff {a : RatG} : Z33 a = true ↔ 1 ≤ a.den ∧ a.den ≤ 1024 ∧ -1048576 ≤ a.num ∧ a.num ≤ 1048576 := right_iff
theorem cmpQ_eq {a b : RatG} (h1 : Z33 a = true) (h2 : Z33 b = true) : cmpQ' a b = sgn (a.num * b.den - b.num * a.den) := cmp_eq h1 h2
theorem cmpQ_anti (a b : RatG) : cmpQ' b a = - cmpQ' a b := cmp_swap _ _ _ _
theorem cmpQ_self (a : RatG) : cmpQ' a a = 0 := by have := cmpQ_anti a a; omega
theorem cmpQ_le {a b : RatG} (h1 : Z33 a = true) (h2 : Z33 b = true) : cmpQ' a b ≤ 0 ↔ a.num * b.den ≤ b.num * a.den := by
  rw [cmpQ_eq h1 h2, sgn_nonpos]; omega
theorem cmpQ_trans {a b c : RatG} (h1 : Z33 a = true) (h2 : Z33 b = true) (h3 : Z33 c = true) (h : cmpQ' a b ≤ 0) (h' : cmpQ' b c ≤ 0) : cmpQ' a c ≤ 0 := by
  rw [cmpQ_le h1 h2] at h; rw [cmpQ_le h2 h3] at h'; rw [cmpQ_le h1 h3]
  have r1 := rightQ_iff.1 h1; have r2 := rightQ_iff.1 h2; have r3 := rightQ_iff.1 h3
  exact cross (by omega) (by omega) (by omega) h h'
theorem cmpQ_lt_le {a b c : RatG} (h1 : Z33 a = true) (h2 : Z33 b = true) (h3 : Z33 c = true) (h : cmpQ' a b < 0) (h' : cmpQ' b c ≤ 0) : cmpQ' a c < 0 := by
  by_cases hc : cmpQ' a c < 0
  · exact hc
  · have := cmpQ_trans h2 h3 h1 h' (by rw [cmpQ_anti]; omega)
    rw [cmpQ_anti] at this; omega
theorem cmpQ_le_lt {a b c : RatG} (h1 : Z33 a = true) (h2 : Z33 b = true) (h3 : Z33 c = true) (h : cmpQ' a b ≤ 0) (h' : cmpQ' b c < 0) : cmpQ' a c < 0 := by
  by_cases hc : cmpQ' a c < 0
  · exact hc
  · have := cmpQ_trans h3 h1 h2 (by rw [cmpQ_anti]; omega) h
    rw [cmpQ_anti] at this; omega
theorem leastQ_right {a : RatG} (h : Z33 a = true) : Z33 (leastQ a) = true := least_right h
theorem leastQ_cmp {a : RatG} (h : Z33 a = true) : cmpQ' (leastQ a) a = 0 := least_cmp h
theorem cmpQ_alike {a b c : RatG} (h1 : Z33 a = true) (h2 : Z33 b = true) (h3 : Z33 c = true) (h : cmpQ' a b = 0) : cmpQ' a c = cmpQ' b c := cmp_alike h1 h2 h3 h
theorem cmpQ_alike' {a b c : RatG} (h1 : Z33 a = true) (h2 : Z33 b = true) (h3 : Z33 c = true) (h : cmpQ' a b = 0) : cmpQ' c a = cmpQ' c b := by
  rw [cmpQ_anti, cmpQ_anti b c, cmpQ_alike h1 h2 h3 h]
theorem ratMaxG_eq (x y : RatG) : ratMaxG x y = if cmpQ' x y < 0 then y else x := by
  unfold ratMaxG rat_max cmpQ'; split <;> rfl
theorem ratMaxG_right {x y : RatG} (h1 : Z33 x = true) (h2 : Z33 y = true) : Z33 (ratMaxG x y) = true := by rw [ratMaxG_eq]; split <;> assumption
/-! ### Stamps by rising moments -/
structure Rising (l : List StampG) : Prop where
  right : ∀ s ∈ l, Z33 s.when = true
  rise : l.Pairwise fun s t => cmpQ' s.when t.when < 0
theorem bsGo_split {p : Nat → Bool} {n : Nat} (hp : ∀ i j, i ≤ j → j < n → p j = true → p i = true) : ∀ (f i j : Nat), i ≤ j → j ≤ n → j - i ≤ f → (∀ k, k < i → p k = true) → (∀ k, j ≤ k → k < n → p k = false) →
    (∀ k, k < bsGo p f i j → p k = true) ∧ (∀ k, bsGo p f i j ≤ k → k < n → p k = false) := by
  intro f
  induction f with
  | zero =>
    intro i j hij hjn hf h1 h2
    have : i = j := by omega
    subst this
    exact ⟨h1, h2⟩
  | succ f ih =>
    intro i j hij hjn hf h1 h2
    simp only [bsGo]
    split
    · rename_i hlt
      split
      · rename_i hm
        refine ih _ _ (by omega) hjn (by omega) (fun k hk => ?_) h2
        exact hp k _ (by omega) (by omega) hm
      · rename_i hm
        refine ih _ _ (by omega) (by omega) (by omega) h1 (fun k hk hn => ?_)
        by_cases hk2 : p k = true
        · exact absurd (hp _ _ hk hn hk2) hm
        · simpa using hk2
    · have : i = j := by omega
      subst this
      exact ⟨h1, h2⟩
theorem Rising.get {l : List StampG} (h : Rising l) {i : Nat} (hi : i < l.length) : Z33 (l.getD i default).when = true := by
  rw [Z2x hi]; exact h.right _ (List.getElem_mem _)
theorem Rising.lt {l : List StampG} (h : Rising l) {i j : Nat} (hij : i < j) (hj : j < l.length) : cmpQ' (l.getD i default).when (l.getD j default).when < 0 := by
  rw [Z2x hj, Z2x (by omega : i < l.length)]
  exact List.pairwise_iff_getElem.1 h.rise i j (by omega) hj hij
theorem bs_split {l : List StampG} {w : RatG} (h : Rising l) (hw : Z33 w = true) : (∀ k, k < bsAt l w → cmpQ' (l.getD k default).when w < 0) ∧ (∀ k, bsAt l w ≤ k → k < l.length → 0 ≤ cmpQ' (l.getD k default).when w) := by
  have hs : ∀ k, stampLess l w k = decide (cmpQ' (l.getD k default).when w < 0) := fun _ => rfl
  have := bsGo_split (p := stampLess l w) (n := l.length) (fun i j hij hj hp => by
    rw [hs] at hp ⊢
    simp only [decide_eq_true_eq] at hp ⊢
    rcases Nat.lt_or_eq_of_le hij with h' | h'
    · exact cmpQ_lt_le (h.get (by omega)) (h.get hj) hw (h.lt h' hj) (by omega)
    · rw [h']; exact hp) l.length 0 l.length (by omega) (by omega) (by omega) (by omega) (by omega)
  refine ⟨fun k hk => ?_, fun k hk hk2 => ?_⟩
  · have := this.1 k hk
    rw [hs] at this; simpa using this
  · have := this.2 k hk hk2
    rw [hs] at this; simpa using this
theorem bsHas_true {l : List StampG} {w : RatG} (hb : bsHas l w = true) : bsAt l w < l.length ∧ cmpQ' (l.getD (bsAt l w) default).when w = 0 := by
  unfold bsHas at hb
  simp only [Bool.and_eq_true, decide_eq_true_eq] at hb
  exact hb
theorem bsHas_of {l : List StampG} {w : RatG} (h : Rising l) (hw : Z33 w = true) {k : Nat} (hk : k < l.length) (hc : cmpQ' (l.getD k default).when w = 0) : bsHas l w = true ∧ bsAt l w = k := by
  obtain ⟨h1, h2⟩ := bs_split h hw
  have hle : bsAt l w ≤ k := by
    by_cases hlt : k < bsAt l w
    · have := h1 k hlt; omega
    · omega
  have he : bsAt l w = k := by
    rcases Nat.lt_or_eq_of_le hle with hlt | he
    · have g1 := h2 _ (Nat.le_refl _) (by omega)
      have g2 := cmpQ_lt_le (h.get (by omega)) (h.get hk) hw (h.lt hlt hk) (by omega)
      omega
    · exact he
  refine ⟨?_, he⟩
  unfold bsHas
  rw [he]
  simp only [Bool.and_eq_true, decide_eq_true_eq]
  exact ⟨hk, hc⟩
theorem bsHas_false {l : List StampG} {w : RatG} (h : Rising l) (hw : Z33 w = true) (hb : bsHas l w = false) {k : Nat} (hk : k < l.length) : cmpQ' (l.getD k default).when w ≠ 0 := fun hc => by
  rw [(bsHas_of h hw hk hc).1] at hb; cases hb
theorem mem_getD {α : Type} [Inhabited α] {l : List α} {x : α} (h : x ∈ l) : ∃ k, k < l.length ∧ l.getD k default = x := by
  obtain ⟨k, hk, rfl⟩ := List.getElem_of_mem h
  exact ⟨k, hk, Z2x hk⟩
theorem ins_rising {l : List StampG} {w : RatG} {v : Int} (h : Rising l) (hw : Z33 w = true) (hb : bsHas l w = false) : Rising (insG l (bsAt l w) ⟨leastQ w, v⟩) := by
  obtain ⟨h1, h2⟩ := bs_split h hw
  have hl := leastQ_right hw
  have hc := leastQ_cmp hw
  have hle := bsAt_le l w
  have pre : ∀ s ∈ l.take (bsAt l w), Z33 s.when = true ∧ cmpQ' s.when (leastQ w) < 0 := fun s hs => by
    obtain ⟨k, hk, rfl⟩ := mem_getD hs
    rw [List.length_take] at hk
    have e : (List.take (bsAt l w) l).getD k default = l.getD k default := by
      rw [Z2x (by rw [List.length_take]; exact hk), Z2x (by omega : k < l.length), List.getElem_take]
    rw [e]
    have r := h.get (show k < l.length by omega)
    exact ⟨r, by rw [cmpQ_alike' hl hw r hc]; exact h1 k (by omega)⟩
  have post : ∀ s ∈ l.drop (bsAt l w), Z33 s.when = true ∧ cmpQ' (leastQ w) s.when < 0 := fun s hs => by
    obtain ⟨k, hk, rfl⟩ := mem_getD hs
    rw [List.length_drop] at hk
    have e : (List.drop (bsAt l w) l).getD k default = l.getD (bsAt l w + k) default := by
      rw [Z2x (by rw [List.length_drop]; exact hk), Z2x (by omega : bsAt l w + k < l.length), List.getElem_drop]
    rw [e]
    have hk' : bsAt l w + k < l.length := by omega
    have r := h.get hk'
    have g1 := h2 _ (Nat.le_add_right _ k) hk'
    have g2 := bsHas_false h hw hb hk'
    exact ⟨r, by rw [cmpQ_alike hl hw r hc, cmpQ_anti]; omega⟩
  refine ⟨fun s hs => ?_, ?_⟩
  · unfold insG at hs
    rcases List.mem_append.1 hs with hs | hs
    · exact (pre s hs).1
    · rcases List.mem_cons.1 hs with rfl | hs
      · exact hl
      · exact (post s hs).1
  · unfold insG
    rw [List.pairwise_append]
    refine ⟨h.rise.sublist (List.take_sublist _ _), List.pairwise_cons.2 ⟨fun s hs => (post s hs).2, h.rise.sublist (List.drop_sublist _ _)⟩, fun a ha b hb' => ?_⟩
    rcases List.mem_cons.1 hb' with rfl | hb'
    · exact (pre a ha).2
    · exact cmpQ_lt_le (pre a ha).1 hl (post b hb').1 (pre a ha).2 (Int.le_of_lt (post b hb').2)
/-! ### Memories in order -/
structure Mem.Good (b : Nat) (m : Mem) : Prop where
  wf : m.Wf b
  rising : ∀ r ∈ m.past, Rising r
  frontsR : ∀ r ∈ m.fronts, ∀ q ∈ r, Z33 q = true
  marksR : ∀ r ∈ m.marks, ∀ q ∈ r, Z33 q = true
theorem Mem.Wf.mono {b b' : Nat} {m : Mem} (h : m.Wf b) (hb : b ≤ b') : m.Wf b' := ⟨h.locs, h.past, h.vals, h.marks, h.fronts, fun r hr => Nat.le_trans (h.pasts r hr) hb, h.marksL, h.marksA, h.frontsL⟩
theorem Mem.Good.mono {b b' : Nat} {m : Mem} (h : m.Good b) (hb : b ≤ b') : m.Good b' := ⟨h.wf.mono hb, h.rising, h.frontsR, h.marksR⟩
theorem good_iff {m : Mem} {s : StepG} : goodQ m s = true ↔ 0 ≤ s.thread ∧ s.thread < m.fronts.length ∧ s.act.right m.locs = true ∧ (isPl s.act.kind = true → Z33 s.when = true) ∧ (isPl s.act.kind = false → s.when = ⟨0, 0⟩) := by
  unfold goodQ
  cases h : isPl s.act.kind <;> simp [and_assoc]
theorem doErr_good {m : Mem} {s : StepG} (h : doErr m s = 0) : goodQ m s = true := by
  unfold doErr at h
  split at h
  · cases h
  · rename_i hg; simpa using hg
theorem joinG_get {a b : List RatG} {k : Nat} (h : k < a.length) : (joinG a b).getD k default = ratMaxG (a.getD k default) (b.getD k default) := by
  rw [Z2x (by rw [joinG_len]; exact h)]; unfold joinG; simp
theorem joinG_right {a b : List RatG} (hl : a.length ≤ b.length) (ha : ∀ q ∈ a, Z33 q = true) (hb : ∀ q ∈ b, Z33 q = true) : ∀ q ∈ joinG a b, Z33 q = true := by
  intro q hq
  obtain ⟨k, hk, rfl⟩ := mem_getD hq
  rw [joinG_len] at hk
  rw [joinG_get hk, Z2x hk, Z2x (by omega : k < b.length)]
  exact ratMaxG_right (ha _ (List.getElem_mem _)) (hb _ (List.getElem_mem _))
theorem right_locQ {k o q v : Int} {l : List LocG} (hk : isPl k = true ∨ isAt k = true) (h : ActG.right ⟨k, o, q, v⟩ l = true) : 0 ≤ o ∧ o < l.length :=
  right_bounds (by rintro rfl; rcases hk with hk | hk <;> revert hk <;> decide) h
theorem mem_set {α : Type} {l : List α} {i : Nat} {x y : α} (h : y ∈ l.set i x) : y ∈ l ∨ (y = x ∧ i < l.length) := by
  rcases List.mem_or_eq_of_mem_set h with h' | rfl
  · exact .inl h'
  · by_cases hi : i < l.length
    · exact .inr ⟨rfl, hi⟩
    · rw [List.set_eq_of_length_le (by omega)] at h; exact .inl h
theorem getD_mem {α : Type} {l : List α} {i : Nat} {d : α} (h : i < l.length) : l.getD i d ∈ l := by
  rw [List.getD_eq_getElem?_getD, List.getElem?_eq_getElem h]; exact List.getElem_mem _
theorem getD_setQ {α : Type} {l : List α} {i j : Nat} {d x : α} : (l.set i x).getD j d = if i = j ∧ j < l.length then x else l.getD j d := by
  rw [List.getD_eq_getElem?_getD, List.getElem?_set, List.getD_eq_getElem?_getD]
  by_cases h : i = j
  · subst h
    by_cases hl : i < l.length
    · simp [hl]
    · simp [hl]
  · simp [h]
theorem isPl_iff {k : Int} : isPl k = true ↔ k = 1 ∨ k = 2 := by unfold isPl; simp
theorem isAt_iff {k : Int} : isAt k = true ↔ k = 3 ∨ k = 4 ∨ k = 5 := by unfold isAt; simp [or_assoc]
/-- What a step that is taken leaves, said part by part. -/
theorem doMem_locs (m : Mem) (s : StepG) : (doMem m s).locs = m.locs := by unfold doMem; split; rfl; split; (try split) <;> rfl; rfl
/-- What is known of a step that is taken. -/
structure Taken (m : Mem) (s : StepG) : Prop where
  t0 : 0 ≤ s.thread
  t1 : s.thread < m.fronts.length
  right : s.act.right m.locs = true
  loc : isPl s.act.kind = true ∨ isAt s.act.kind = true → 0 ≤ s.act.loc ∧ s.act.loc < m.locs.length
  when : isPl s.act.kind = true → Z33 s.when = true
  write : s.act.kind = 2 → bsHas (pastOf m s) s.when = false ∧ 0 < cmpQ' s.when ((frontOf m s).getD s.act.loc.toNat default)
  read : s.act.kind = 1 → bsHas (pastOf m s) s.when = true ∧ 0 ≤ cmpQ' s.when ((frontOf m s).getD s.act.loc.toNat default) ∧ ((pastOf m s).getD (bsAt (pastOf m s) s.when) default).val = s.act.old
theorem taken {m : Mem} {s : StepG} (h : doErr m s = 0) : Taken m s := by
  have hg := good_iff.1 (doErr_good h)
  refine ⟨hg.1, hg.2.1, hg.2.2.1, fun hk => ?_, hg.2.2.2.1, fun hk => ?_, fun hk => ?_⟩
  · obtain ⟨t, ⟨k, o, q, v⟩, w⟩ := s
    exact right_locQ hk hg.2.2.1
  · unfold doErr at h
    rw [if_neg (by rw [doErr_good (by unfold doErr; exact h)]; simp), if_neg (by omega), if_pos hk] at h
    split at h
    · cases h
    · split at h
      · cases h
      · rename_i g1 g2; exact ⟨by simpa using g1, by omega⟩
  · unfold doErr at h
    rw [if_neg (by rw [doErr_good (by unfold doErr; exact h)]; simp), if_pos hk] at h
    split at h
    · cases h
    · split at h
      · cases h
      · split at h
        · cases h
        · rename_i g1 g2 g3; exact ⟨by simpa using g1, by omega, by simpa using g3⟩
theorem doMem_good {m : Mem} {s : StepG} {b : Nat} (h : m.Good b) (he : doErr m s = 0) : (doMem m s).Good (b + 1) := by
  have ht := taken he
  have t0 := ht.t0
  have t1 := ht.t1
  have hfm : frontOf m s ∈ m.fronts := getD_mem (by omega)
  have hfl : (frontOf m s).length = m.locs.length := h.wf.frontsL _ hfm
  have hfr := h.frontsR _ hfm
  unfold doMem
  split
  · rename_i hk
    have hl := ht.loc (.inl (by rw [hk]; rfl))
    have hw := ht.when (by rw [hk]; rfl)
    obtain ⟨hb, hf⟩ := ht.write hk
    have hpm : pastOf m s ∈ m.past := getD_mem (by rw [h.wf.past]; omega)
    have hpr := h.rising _ hpm
    refine ⟨⟨h.wf.locs, by simpa using h.wf.past, h.wf.vals, h.wf.marks, by simpa using h.wf.fronts, fun r hr => ?_, h.wf.marksL, h.wf.marksA, fun r hr => ?_⟩, fun r hr => ?_, fun r hr => ?_, h.marksR⟩
    · rcases mem_set hr with hr | ⟨rfl, -⟩
      · exact Nat.le_succ_of_le (h.wf.pasts r hr)
      · rw [insG_len (bsAt_le _ _)]; exact Nat.succ_le_succ (h.wf.pasts _ hpm)
    · rcases mem_set hr with hr | ⟨rfl, -⟩
      · exact h.wf.frontsL r hr
      · rw [List.length_set]; exact hfl
    · rcases mem_set hr with hr | ⟨rfl, -⟩
      · exact h.rising r hr
      · exact ins_rising hpr hw hb
    · rcases mem_set hr with hr | ⟨rfl, -⟩
      · exact h.frontsR r hr
      · intro q hq
        rcases mem_set hq with hq | ⟨rfl, -⟩
        · exact hfr q hq
        · exact leastQ_right hw
  · split
    · rename_i hk2 hk
      have hl := ht.loc (.inr hk)
      have hmm : markOf m s ∈ m.marks := getD_mem (by rw [h.wf.marks]; omega)
      have hml : (markOf m s).length = m.locs.length := h.wf.marksA _ (by omega) (by
        have := ht.right
        obtain ⟨t, ⟨k, o, q, v⟩, w⟩ := s
        exact right_atom hk this)
      have hbl : (joinG (frontOf m s) (markOf m s)).length = m.locs.length := by rw [joinG_len]; exact hfl
      have hbr := joinG_right (show (frontOf m s).length ≤ (markOf m s).length by omega) hfr (h.marksR _ hmm)
      have F1 : ∀ r ∈ m.fronts.set s.thread.toNat (joinG (frontOf m s) (markOf m s)), r.length = m.locs.length := fun r hr => by
        rcases mem_set hr with hr | ⟨rfl, -⟩
        · exact h.wf.frontsL r hr
        · exact hbl
      have F2 : ∀ r ∈ m.fronts.set s.thread.toNat (joinG (frontOf m s) (markOf m s)), ∀ q ∈ r, Z33 q = true := fun r hr => by
        rcases mem_set hr with hr | ⟨rfl, -⟩
        · exact h.frontsR r hr
        · exact hbr
      split
      · exact ⟨⟨h.wf.locs, h.wf.past, h.wf.vals, h.wf.marks, by simpa using h.wf.fronts, fun r hr => Nat.le_succ_of_le (h.wf.pasts r hr), h.wf.marksL, h.wf.marksA, F1⟩, h.rising, F2, h.marksR⟩
      · refine ⟨⟨h.wf.locs, h.wf.past, by simpa using h.wf.vals, by simpa using h.wf.marks, by simpa using h.wf.fronts, fun r hr => Nat.le_succ_of_le (h.wf.pasts r hr), fun r hr => ?_, fun i hi ha => ?_, F1⟩, h.rising, F2, fun r hr => ?_⟩
        · rcases mem_set hr with hr | ⟨rfl, -⟩
          · exact h.wf.marksL r hr
          · exact Nat.le_of_eq hbl
        · show ((m.marks.set _ _).getD i []).length = _
          rw [getD_setQ]
          split
          · exact hbl
          · exact h.wf.marksA i hi ha
        · rcases mem_set hr with hr | ⟨rfl, -⟩
          · exact h.marksR r hr
          · exact hbr
    · exact h.mono (Nat.le_succ b)
theorem inn_map {α β : Type} (f : β → List α × Bool) (l : List β) : inn (l.map f) = l.map fun x => (f x).1 := by unfold inn; rw [List.map_map]; rfl
theorem newM_good {l : List LocG} {t : Int} (h : newErr l t = 0) : (newM l t).plain.Good 1 := by
  have hb : l.length ≤ 16 ∧ 1 ≤ t ∧ t ≤ 3 := by unfold newErr at h; split at h; cases h; omega
  have z : Z33 ⟨0, 1⟩ = true := by decide
  unfold newM
  rw [if_pos h]
  have s0 : ∀ q ∈ startG l.length, Z33 q = true := fun q hq => by rw [(List.mem_replicate.1 hq).2]; exact z
  have sl : (startG l.length).length = l.length := List.length_replicate
  refine ⟨⟨hb.1, by simp [MemG.plain, Z1u], by simp [MemG.plain], by simp [MemG.plain, Z1u], ?_, fun r hr => ?_, fun r hr => ?_, fun i hi ha => ?_, fun r hr => ?_⟩, fun r hr => ?_, fun r hr => ?_, fun r hr => ?_⟩
  · show (inn (frontX l.length t.toNat)).length ≤ 3
    rw [Z1u, frontX_len]; omega
  · have hr : r ∈ inn (l.map pastX) := hr
    rw [inn_map] at hr
    obtain ⟨x, -, rfl⟩ := List.mem_map.1 hr
    unfold pastX; split <;> simp
  · have hr : r ∈ inn (l.map (markX l.length)) := hr
    rw [inn_map] at hr
    obtain ⟨x, -, rfl⟩ := List.mem_map.1 hr
    show _ ≤ l.length
    unfold markX; split <;> simp [sl]
  · have hi : i < l.length := hi
    have ha : (l.getD i default).atom = true := ha
    show ((inn (l.map (markX l.length))).getD i []).length = l.length
    rw [inn_map, List.getD_eq_getElem?_getD, List.getElem?_map, List.getElem?_eq_getElem hi]
    rw [Z2x hi] at ha
    show (markX l.length l[i]).1.length = _
    unfold markX; rw [if_pos ha]; exact sl
  · have hr : r ∈ inn (frontX l.length t.toNat) := hr
    unfold frontX inn at hr
    rw [List.map_replicate] at hr
    rw [(List.mem_replicate.1 hr).2]; exact sl
  · have hr : r ∈ inn (l.map pastX) := hr
    rw [inn_map] at hr
    obtain ⟨x, -, rfl⟩ := List.mem_map.1 hr
    unfold pastX; split
    · exact ⟨by simp, List.Pairwise.nil⟩
    · exact ⟨fun s hs => by rw [List.mem_singleton.1 hs]; exact z, List.pairwise_singleton _ _⟩
  · have hr : r ∈ inn (frontX l.length t.toNat) := hr
    unfold frontX inn at hr
    rw [List.map_replicate] at hr
    rw [(List.mem_replicate.1 hr).2]; exact s0
  · have hr : r ∈ inn (l.map (markX l.length)) := hr
    rw [inn_map] at hr
    obtain ⟨x, -, rfl⟩ := List.mem_map.1 hr
    unfold markX; split
    · exact s0
    · simp
end Go.Ago

/- Law 20: awake, done, onward. Conditions: none. -/
set_option maxRecDepth 100000
set_option linter.unusedSimpArgs false
set_option linter.unusedVariables false
namespace Go.Ago
theorem plain_av (m : Mem) : m.av.plain = m := by
  have h : ∀ {α : Type} (L : List (List α)), inn (L.map (·, false)) = L := fun L => by rw [inn_map]; exact List.map_id _
  unfold Mem.av MemG.plain
  simp only [h]
theorem at_DoM (m : MemG) (s : StepG) :
    sp_Do.at [.agg [.d (.list (m.locs.map LocG.row) m.lf), .d (.list (m.past.map rowStamps) m.pf), .d (.list (m.vals.map rowI) m.vf), .d (.list (m.marks.map rowRats) m.mf), .d (.list (m.fronts.map rowRats) m.ff)], .agg [.d (.int .i64 s.thread), .d (.int .i64 s.act.kind), .d (.int .i64 s.act.loc), .d (.int .i64 s.act.old), .d (.int .i64 s.act.new), .d (.int .i64 s.when.num), .d (.int .i64 s.when.den)]] =
      .data (m.plain.Wf 1000000) (.tup [(resM m.plain s).av, .d (.int .i64 (doErr m.plain s))]) false := at_Do _ _ _ _ _ _ _ _ _ _ _ _ _ _ _ _ _
theorem wfM {m : MemG} {b : Nat} (h : m.plain.Good b) (hb : b ≤ 1000000) : m.plain.Wf 1000000 := h.wf.mono hb
def stepM (m : MemG) (s : StepG) : MemG := if doErr m.plain s = 0 then (doMem m.plain s).av else m
theorem stepM_good {m : MemG} {s : StepG} {b : Nat} (h : m.plain.Good b) : (stepM m s).plain.Good (b + 1) := by
  unfold stepM
  split
  · rename_i he; rw [plain_av]; exact doMem_good h he
  · exact h.mono (Nat.le_succ b)
def goM (m : MemG) (ss : List StepG) (n : Nat) : MemG := (ss.take n).foldl stepM m
theorem goM_succ (m : MemG) {ss : List StepG} {n : Nat} (h : n < ss.length) : goM m ss (n + 1) = stepM (goM m ss n) (ss.getD n default) := by
  unfold goM; rw [List.take_add_one, List.getElem?_eq_getElem h, List.foldl_append, Z2x h]; rfl
theorem goM_good {m : MemG} {b : Nat} (h : m.plain.Good b) (ss : List StepG) : ∀ n, (goM m ss n).plain.Good (b + n) := by
  intro n
  induction n with
  | zero => exact h
  | succ n ih =>
    by_cases hn : n < ss.length
    · rw [goM_succ m hn]; exact stepM_good ih
    · have : goM m ss (n + 1) = goM m ss n := by unfold goM; rw [List.take_of_length_le (by omega), List.take_of_length_le (by omega)]
      rw [this]; exact ih.mono (Nat.le_succ _)
def MemG.row (m : MemG) : List AV := [.d (.list (m.locs.map LocG.row) m.lf), .d (.list (m.past.map rowStamps) m.pf), .d (.list (m.vals.map rowI) m.vf), .d (.list (m.marks.map rowRats) m.mf), .d (.list (m.fronts.map rowRats) m.ff)]
/-! ### onward -/
/-! ### awake -/
end Go.Ago

/- Words of 64 bits: rows of them, the operations on them, and sets of bits. Conditions: none. -/
set_option linter.unusedSimpArgs false
set_option linter.unusedVariables false
namespace Go.Ago

abbrev W := BitVec 64
theorem W.inj {x y : W} (h : (x.toNat : Int) = (y.toNat : Int)) : x = y := BitVec.eq_of_toNat_eq (by omega)
/-! ### Operations -/
/-! ### Sets of bits -/
end Go.Ago

/- Contracts of package rel: its small functions, and two relations laid together. Conditions: none. -/
set_option maxRecDepth 100000
set_option linter.unusedSimpArgs false
set_option linter.unusedVariables false
namespace Go.Ago

/-! ### Relations -/
def szR (R : List W) : Nat := min R.length 64
def hasN (R : List W) (i k : Nat) : Bool := decide (i < szR R) && decide (k < szR R) && (R.getD i 0#64).getLsbD k
theorem hasN_lt {R : List W} {i k : Nat} (h : hasN R i k = true) : i < szR R ∧ k < szR R := by
  simp only [hasN, Bool.and_eq_true, decide_eq_true_eq] at h; exact h.1
/-! ### size, all, row, Has -/
/-! ### TrailingZeros64 -/
/-! ### Laid together -/
def fstW (x _ : W) : W := x
end Go.Ago

/- Contracts of package rel: Union, Inter, Minus, Then, Back. Conditions: none. -/
set_option maxRecDepth 100000
set_option linter.unusedSimpArgs false
set_option linter.unusedVariables false
namespace Go.Ago

/-! ### Then -/
theorem beq_of_iff {a b : Bool} (h : a = true ↔ b = true) : a = b := by cases a <;> cases b <;> simp_all

end Go.Ago

/- Contracts of package rel: Back, Plus, Star, Ring. Conditions: none. -/
set_option maxRecDepth 100000
set_option linter.unusedSimpArgs false
set_option linter.unusedVariables false
namespace Go.Ago

/-! ### Back -/
/-! ### Plus -/
/-- Ways whose places between are ahead of m. -/
def way (p : Nat → Nat → Bool) : Nat → Nat → Nat → Bool
  | 0, i, k => p i k
  | m + 1, i, k => way p m i k || way p m i m && way p m m k
/-! Where no other function is laid: -/
def hs1 (n : Nat) : Nat → Option (W → W → W) := fun g => if g = n then some fstW else none
end Go.Ago

/- Contracts of package rel: Star, Ring, Of, Order. Conditions: none. -/
set_option maxRecDepth 100000
set_option linter.unusedSimpArgs false
set_option linter.unusedVariables false
namespace Go.Ago

/-! ### Star, Ring -/
/-! ### Of pairs -/
/-! ### Order -/
end Go.Ago

/- Package race: runs that are played, and their order. Conditions: none. -/
set_option maxRecDepth 100000
set_option linter.unusedSimpArgs false
set_option linter.unusedVariables false
namespace Go.Ago
/-! ### plain, atomic -/
def isSet (k : Int) : Bool := decide (k = 4) || decide (k = 5)
/-! ### played -/
end Go.Ago

/- Package race: the order of a run. Conditions: none. -/
set_option maxRecDepth 100000
set_option linter.unusedSimpArgs false
set_option linter.unusedVariables false
namespace Go.Ago
/-! ### Pairs -/
/-! ### ordered -/
end Go.Ago

/- Package race: Order and Races. Conditions: none. -/
set_option maxRecDepth 100000
set_option linter.unusedSimpArgs false
set_option linter.unusedVariables false
namespace Go.Ago
/-! ### Order -/
/-! ### Races -/
end Go.Ago

/- Package race: Weak. Conditions: none. -/
set_option maxRecDepth 100000
set_option linter.unusedSimpArgs false
set_option linter.unusedVariables false
namespace Go.Ago
instance : Inhabited MemG := ⟨⟨[], false, [], false, [], false, [], false, [], false⟩⟩
end Go.Ago

/- Contracts of the reference of layer 2: its small functions, Put, Of, Lay, Then, Back. Conditions: none. -/
set_option maxRecDepth 100000
set_option linter.unusedSimpArgs false
set_option linter.unusedVariables false
namespace Go.Ago

/-! ### Put -/
end Go.Ago

/- Contracts of the reference of layer 2: most, Copy, Same, Of, Lay, Then, Back. Conditions: none. -/
set_option maxRecDepth 100000
set_option linter.unusedSimpArgs false
set_option linter.unusedVariables false
namespace Go.Ago

end Go.Ago

/- Contracts of the reference of layer 2: Lay, Then, Back. Conditions: none. -/
set_option maxRecDepth 100000
set_option linter.unusedSimpArgs false
set_option linter.unusedVariables false
namespace Go.Ago

/-! Row by row, place by place: what lies ahead of (i, k). -/
/-! ### Lay -/
/-! ### Back -/
/-! ### Then -/
end Go.Ago

/- Ways: what is reached from where. Conditions: none. -/
set_option linter.unusedSimpArgs false
set_option linter.unusedVariables false
namespace Go.Ago

section
variable {p : Nat → Nat → Bool}
/-- The least that is closed. -/
theorem way_min {V : Nat → Bool} (hc : ∀ b c, V b = true → p b c = true → V c = true) {m i : Nat} (hs : ∀ b, p i b = true → V b = true) : ∀ {k : Nat}, way p m i k = true → V k = true := by
  suffices h : ∀ m a k, (V a = true ∨ a = i) → way p m a k = true → V k = true from fun {k} hk => h m i k (.inr rfl) hk
  intro m
  induction m with
  | zero =>
    intro a k ha hk
    simp only [way] at hk
    rcases ha with ha | ha
    · exact hc a k ha hk
    · subst ha; exact hs k hk
  | succ m ih =>
    intro a k ha hk
    simp only [way, Bool.or_eq_true, Bool.and_eq_true] at hk
    rcases hk with hk | ⟨h1, h2⟩
    · exact ih a k ha hk
    · exact ih m k (.inl (ih a m ha h1)) h2
end

/-- What the search for all that is reached from i Z1g: T is still to be looked at; of the one that is looked at, the first k are done. -/
structure Seek (A : List W) (n i : Nat) (V : Nat → Bool) (T : List Nat) (q : Nat → Nat → Prop) : Prop where
  sound : ∀ b, V b = true → b < n ∧ way (hasN A) n i b = true
  start : ∀ b, hasN A i b = true → V b = true
  todo : ∀ b ∈ T, V b = true
  done : ∀ b c, V b = true → hasN A b c = true → b ∈ T ∨ V c = true ∨ q b c

theorem Seek.end {A : List W} {n i : Nat} {V : Nat → Bool} (h : Seek A n i V [] fun _ _ => False) (b : Nat) : V b = way (hasN A) n i b := by
  apply beq_of_iff
  refine ⟨fun hv => (h.sound b hv).2, fun hw => way_min (V := V) (fun b c hb hc => ?_) h.start hw⟩
  rcases h.done b c hb hc with h1 | h1 | h1
  · simp at h1
  · exact h1
  · exact h1.elim

theorem Seek.skip {A : List W} {n i j k : Nat} {V : Nat → Bool} {T : List Nat} (h : Seek A n i V T fun b c => b = j ∧ k ≤ c) (hk : hasN A j k = false ∨ V k = true) : Seek A n i V T fun b c => b = j ∧ k + 1 ≤ c :=
  ⟨h.sound, h.start, h.todo, fun b c h1 h2 => by
    rcases h.done b c h1 h2 with h3 | h3 | ⟨h3, h4⟩
    · exact .inl h3
    · exact .inr (.inl h3)
    · by_cases e : c = k
      · subst e; subst h3
        rcases hk with hk | hk
        · rw [hk] at h2; cases h2
        · exact .inr (.inl hk)
      · exact .inr (.inr ⟨h3, by omega⟩)⟩
theorem Seek.rest {A : List W} {n i j : Nat} {V : Nat → Bool} {T : List Nat} (h : Seek A n i V T fun b c => b = j ∧ n ≤ c) (hn : szR A ≤ n) : Seek A n i V T fun _ _ => False :=
  ⟨h.sound, h.start, h.todo, fun b c h1 h2 => by
    rcases h.done b c h1 h2 with h3 | h3 | ⟨h3, h4⟩
    · exact .inl h3
    · exact .inr (.inl h3)
    · have := (hasN_lt h2).2; omega⟩
end Go.Ago

/- Law 22: awake, raced, and RaceOrder. Conditions: none. -/
set_option maxRecDepth 100000
set_option linter.unusedSimpArgs false
set_option linter.unusedVariables false
namespace Go.Ago
/-! ### The order -/
/-! ### awake -/
/-! ### RaceOrder -/
end Go.Ago

/- HistSwap: two plain acts of unlike threads on unlike locations change places. Conditions: none. -/
set_option maxRecDepth 100000
set_option linter.unusedSimpArgs false
set_option linter.unusedVariables false
namespace Go.Ago
end Go.Ago

/- HistOwn: a thread reads what it wrote itself, or what stands later. Conditions: none. -/
set_option maxRecDepth 100000
set_option linter.unusedSimpArgs false
set_option linter.unusedVariables false
namespace Go.Ago
end Go.Ago

/- HistOnward: fronts and marks never go back, and what was written stays. Conditions: none. -/
set_option maxRecDepth 100000
set_option linter.unusedSimpArgs false
set_option linter.unusedVariables false
namespace Go.Ago
end Go.Ago

/- HistSees: a thread may read just what it is told that it sees. Conditions: none. -/
set_option maxRecDepth 100000
set_option linter.unusedSimpArgs false
set_option linter.unusedVariables false
namespace Go.Ago
theorem at_DoX (m : MemG) (t k o q v n d : Int) :
    sp_Do.at [.agg [.d (.list (m.locs.map LocG.row) m.lf), .d (.list (m.past.map rowStamps) m.pf), .d (.list (m.vals.map rowI) m.vf), .d (.list (m.marks.map rowRats) m.mf), .d (.list (m.fronts.map rowRats) m.ff)], .agg [.d (.int .i64 t), .d (.int .i64 k), .d (.int .i64 o), .d (.int .i64 q), .d (.int .i64 v), .d (.int .i64 n), .d (.int .i64 d)]] =
      .data (m.plain.Wf 1000000) (.tup [(resM m.plain ⟨t, ⟨k, o, q, v⟩, ⟨n, d⟩⟩).av, .d (.int .i64 (doErr m.plain ⟨t, ⟨k, o, q, v⟩, ⟨n, d⟩⟩))]) false := at_Do _ _ _ _ _ _ _ _ _ _ _ _ _ _ _ _ _
theorem right_plain {s : StepG} {l : List LocG} (hk : isPl s.act.kind = true) (h : s.act.right l = true) : (l.getD s.act.loc.toNat default).atom = false := by
  rw [isPl_iff] at hk
  unfold ActG.right at h
  rw [if_neg (by omega)] at h
  simp only [Bool.and_eq_true, beq_iff_eq] at h
  rw [h.1.1.2]
  unfold ActG.isA
  simp; omega
def StepG.cells (z : StepG) : List AV := [.d (.int .i64 z.thread), .d (.int .i64 z.act.kind), .d (.int .i64 z.act.loc), .d (.int .i64 z.act.old), .d (.int .i64 z.act.new), .d (.int .i64 z.when.num), .d (.int .i64 z.when.den)]
end Go.Ago

/- Runs of a memory: what is carried along the order. Conditions: none. -/
set_option maxRecDepth 100000
set_option linter.unusedSimpArgs false
set_option linter.unusedVariables false
namespace Go.Ago
theorem doMem_fronts (m : Mem) (s : StepG) : (doMem m s).fronts.length = m.fronts.length := by
  unfold doMem
  split
  · simp
  · split
    · split <;> simp
    · rfl
def frAt (m : Mem) (u x : Nat) : RatG := (m.fronts.getD u []).getD x default
def mkAt (m : Mem) (y x : Nat) : RatG := (m.marks.getD y []).getD x default
def paAt (m : Mem) (x : Nat) : List StampG := m.past.getD x []
section
variable {m : Mem} {s : StepG} {b x : Nat}
theorem fr_len (h : m.Good b) {u : Nat} (hu : u < m.fronts.length) : (m.fronts.getD u []).length = m.locs.length := h.wf.frontsL _ (getD_mem hu)
theorem fr_right (h : m.Good b) {u : Nat} (hu : u < m.fronts.length) (hx : x < m.locs.length) : Z33 (frAt m u x) = true :=
  h.frontsR _ (getD_mem hu) _ (getD_mem (by rw [fr_len h hu]; exact hx))
theorem mk_right (h : m.Good b) {y : Nat} (hy : y < m.locs.length) (ha : (m.locs.getD y default).atom = true) (hx : x < m.locs.length) : Z33 (mkAt m y x) = true :=
  h.marksR _ (getD_mem (by rw [h.wf.marks]; exact hy)) _ (getD_mem (by rw [h.wf.marksA y hy ha]; exact hx))
theorem take_u (he : doErr m s = 0) : s.thread.toNat < m.fronts.length := by have := taken he; have := this.t0; have := (taken he).t1; omega
theorem fr_write (h : m.Good b) (he : doErr m s = 0) (hk : s.act.kind = 2) (hx : s.act.loc.toNat = x) : frAt (doMem m s) s.thread.toNat x = leastQ s.when := by
  have hu := take_u he
  have hl := (taken he).loc (.inl (by rw [hk]; rfl))
  unfold doMem frAt
  rw [if_pos hk]
  show ((m.fronts.set _ _).getD _ []).getD _ _ = _
  rw [getD_setQ, if_pos ⟨rfl, hu⟩, getD_setQ, if_pos ⟨hx, by show x < (m.fronts.getD _ []).length; rw [fr_len h hu]; omega⟩]
theorem fr_atom (h : m.Good b) (he : doErr m s = 0) (hk : isAt s.act.kind = true) (hx : x < m.locs.length) : frAt (doMem m s) s.thread.toNat x = ratMaxG (frAt m s.thread.toNat x) (mkAt m s.act.loc.toNat x) := by
  have hu := take_u he
  have h2 : ¬ s.act.kind = 2 := by rw [isAt_iff] at hk; omega
  have e : (joinG (frontOf m s) (markOf m s)).getD x default = ratMaxG (frAt m s.thread.toNat x) (mkAt m s.act.loc.toNat x) := joinG_get (by show x < (m.fronts.getD _ []).length; rw [fr_len h hu]; exact hx)
  unfold doMem
  rw [if_neg h2, if_pos hk]
  split
  · show ((m.fronts.set _ _).getD _ []).getD _ _ = _
    rw [getD_setQ, if_pos ⟨rfl, hu⟩, e]
  · show ((m.fronts.set _ _).getD _ []).getD _ _ = _
    rw [getD_setQ, if_pos ⟨rfl, hu⟩, e]
theorem take_at (he : doErr m s = 0) (hk : isAt s.act.kind = true) : s.act.loc.toNat < m.locs.length ∧ (m.locs.getD s.act.loc.toNat default).atom = true := by
  have ht := taken he
  have hl := ht.loc (.inr hk)
  refine ⟨by omega, ?_⟩
  have := ht.right
  obtain ⟨t, ⟨k, o, q, v⟩, w⟩ := s
  exact right_atom hk this
theorem isAt_set {k : Int} (h : isSet k = true) : isAt k = true := by
  unfold isSet at h; rw [isAt_iff]; simp at h; omega
theorem mk_set (h : m.Good b) (he : doErr m s = 0) (hk : isSet s.act.kind = true) (hx : x < m.locs.length) : mkAt (doMem m s) s.act.loc.toNat x = ratMaxG (frAt m s.thread.toNat x) (mkAt m s.act.loc.toNat x) := by
  have ha := isAt_set hk
  have hu := take_u he
  obtain ⟨hy, -⟩ := take_at he ha
  have h2 : ¬ s.act.kind = 2 := by rw [isAt_iff] at ha; omega
  have h3 : ¬ s.act.kind = 3 := by unfold isSet at hk; simp at hk; omega
  have e : (joinG (frontOf m s) (markOf m s)).getD x default = ratMaxG (frAt m s.thread.toNat x) (mkAt m s.act.loc.toNat x) := joinG_get (by show x < (m.fronts.getD _ []).length; rw [fr_len h hu]; exact hx)
  unfold doMem
  rw [if_neg h2, if_pos ha]
  simp only [if_neg h3]
  show ((m.marks.set _ _).getD _ []).getD _ _ = _
  rw [getD_setQ, if_pos ⟨rfl, by rw [h.wf.marks]; exact hy⟩, e]
theorem pa_same (hn : ¬ (s.act.kind = 2 ∧ s.act.loc.toNat = x)) : paAt (doMem m s) x = paAt m x := by
  unfold doMem paAt
  split
  · rename_i hk
    show (m.past.set _ _).getD _ [] = _
    rw [getD_setQ, if_neg (fun e => hn ⟨hk, e.1⟩)]
  · split
    · split <;> rfl
    · rfl
theorem pa_write (h : m.Good b) (he : doErr m s = 0) (hk : s.act.kind = 2) (hx : s.act.loc.toNat = x) : paAt (doMem m s) x = insG (paAt m x) (bsAt (paAt m x) s.when) ⟨leastQ s.when, s.act.new⟩ := by
  have hl := (taken he).loc (.inl (by rw [hk]; rfl))
  unfold doMem paAt
  rw [if_pos hk]
  show (m.past.set _ _).getD _ [] = _
  rw [getD_setQ, if_pos ⟨hx, by rw [h.wf.past]; omega⟩]
  unfold pastOf
  rw [hx]
end
/-! ### What is carried -/
section
variable {m : Nat → Mem} {s : Nat → StepG} {n x : Nat}
end
/-! ### What was written last -/
def isW (s : StepG) (x : Nat) : Bool := decide (s.act.kind = 2) && decide (s.act.loc.toNat = x)
theorem bs_end {L : List StampG} {w : RatG} (h : Rising L) (hw : Z33 w = true) (ha : ∀ k, k < L.length → cmpQ' (L.getD k default).when w < 0) : bsAt L w = L.length := by
  have h1 := bsAt_le L w
  have h2 := (bs_split h hw).2
  rcases Nat.lt_or_eq_of_le h1 with h3 | h3
  · have := h2 (bsAt L w) (Nat.le_refl _) h3
    have := ha _ h3
    omega
  · exact h3
theorem insG_end {L : List StampG} {v : StampG} : insG L L.length v = L ++ [v] := by unfold insG; simp
theorem getD_last {P : List StampG} {e : StampG} : (P ++ [e]).getD P.length default = e := by simp
theorem pa_rising {m : Mem} {b x : Nat} (h : m.Good b) (hx : x < m.locs.length) : Rising (paAt m x) := h.rising _ (getD_mem (by rw [h.wf.past]; exact hx))
theorem top_lt {L P : List StampG} {e : StampG} {w : RatG} (hL : L = P ++ [e]) (h : Rising L) (hw : Z33 w = true) (he : cmpQ' e.when w < 0) : ∀ k, k < L.length → cmpQ' (L.getD k default).when w < 0 := by
  subst hL
  intro k hk
  have hlen : (P ++ [e]).length = P.length + 1 := by simp
  by_cases hkp : k = P.length
  · subst hkp; rw [getD_last]; exact he
  · have h1 := h.lt (i := k) (j := P.length) (by omega) (by omega)
    rw [getD_last] at h1
    have he0 := h.get (i := P.length) (by omega)
    rw [getD_last] at he0
    exact cmpQ_lt_le (h.get hk) he0 hw h1 (by omega)
/-- At the beginning. -/
theorem new_past {l : List LocG} {t : Int} (h : newErr l t = 0) {x : Nat} (hx : x < l.length) (ha : (l.getD x default).atom = false) : paAt (newM l t).plain x = [⟨⟨0, 1⟩, (l.getD x default).init⟩] := by
  unfold newM
  rw [if_pos h]
  show (inn (l.map pastX)).getD x [] = _
  rw [inn_map, List.getD_eq_getElem?_getD, List.getElem?_map, List.getElem?_eq_getElem hx]
  rw [Z2x hx] at ha ⊢
  show (pastX l[x]).1 = _
  unfold pastX; rw [ha]; rfl
theorem new_front {l : List LocG} {t : Int} (h : newErr l t = 0) {u x : Nat} (hu : u < (newM l t).plain.fronts.length) (hx : x < l.length) : frAt (newM l t).plain u x = ⟨0, 1⟩ := by
  unfold newM at hu ⊢
  rw [if_pos h] at hu ⊢
  have hu : u < (inn (frontX l.length t.toNat)).length := hu
  show ((inn (frontX l.length t.toNat)).getD u []).getD x default = _
  rw [Z2x hu]
  unfold frontX inn startG
  simp [hx]
theorem new_locs {l : List LocG} {t : Int} (h : newErr l t = 0) : (newM l t).plain.locs = l := by unfold newM; rw [if_pos h]; rfl
end Go.Ago

/- The reference of layer 20: one more step. Conditions: none. -/
set_option maxRecDepth 100000
set_option linter.unusedSimpArgs false
set_option linter.unusedVariables false
namespace Go.Ago

end Go.Ago

/- A memory, and the steps that it comes from: they say the same. Conditions: none. -/
set_option maxRecDepth 100000
set_option linter.unusedSimpArgs false
set_option linter.unusedVariables false
namespace Go.Ago
/-! ### What a step leaves -/
section
variable {m : Mem} {s : StepG} {b x : Nat}
theorem fr_do (h : m.Good b) (he : doErr m s = 0) {u : Nat} (hu : u < m.fronts.length) (hx : x < m.locs.length) : frAt (doMem m s) u x =
    if s.act.kind = 2 ∧ u = s.thread.toNat ∧ s.act.loc.toNat = x then leastQ s.when
    else if isAt s.act.kind = true ∧ u = s.thread.toNat then ratMaxG (frAt m u x) (mkAt m s.act.loc.toNat x) else frAt m u x := by
  by_cases hk : s.act.kind = 2
  · have hna : ¬ isAt s.act.kind = true := by rw [isAt_iff]; omega
    rw [if_neg (fun e : isAt s.act.kind = true ∧ u = s.thread.toNat => hna e.1)]
    by_cases hc : u = s.thread.toNat ∧ s.act.loc.toNat = x
    · rw [if_pos ⟨hk, hc⟩, hc.1]
      exact fr_write h he hk hc.2
    · rw [if_neg (fun e => hc e.2)]
      unfold doMem frAt
      rw [if_pos hk]
      show ((m.fronts.set _ _).getD u []).getD x _ = _
      rw [getD_setQ]
      split
      · rename_i e
        rw [getD_setQ, if_neg (fun e2 => hc ⟨e.1.symm, e2.1⟩)]
        unfold frontOf; rw [e.1]
      · rfl
  · rw [if_neg (fun e => hk e.1)]
    by_cases hc : isAt s.act.kind = true ∧ u = s.thread.toNat
    · rw [if_pos hc, hc.2]
      exact fr_atom h he hc.1 hx
    · rw [if_neg hc]
      unfold doMem
      rw [if_neg hk]
      split
      · rename_i ha
        have hne : ¬ s.thread.toNat = u := fun e => hc ⟨ha, e.symm⟩
        split
        · unfold frAt
          show ((m.fronts.set _ _).getD u []).getD x _ = _
          rw [getD_setQ, if_neg (fun e => hne e.1)]
        · unfold frAt
          show ((m.fronts.set _ _).getD u []).getD x _ = _
          rw [getD_setQ, if_neg (fun e => hne e.1)]
      · rfl
theorem mk_do (h : m.Good b) (he : doErr m s = 0) {y : Nat} (hx : x < m.locs.length) : mkAt (doMem m s) y x =
    if isSet s.act.kind = true ∧ y = s.act.loc.toNat then ratMaxG (frAt m s.thread.toNat x) (mkAt m y x) else mkAt m y x := by
  by_cases hc : isSet s.act.kind = true ∧ y = s.act.loc.toNat
  · rw [if_pos hc, hc.2]
    exact mk_set h he hc.1 hx
  · rw [if_neg hc]
    unfold doMem
    split
    · rfl
    · split
      · rename_i h2 ha
        split
        · rfl
        · rename_i h3
          have hs : isSet s.act.kind = true := by rw [isAt_iff] at ha; unfold isSet; simp; omega
          unfold mkAt
          show ((m.marks.set _ _).getD y []).getD x _ = _
          rw [getD_setQ, if_neg (fun e => hc ⟨hs, e.1.symm⟩)]
      · rfl
theorem val_do (h : m.Good b) (he : doErr m s = 0) {y : Nat} (hy : y < m.locs.length) : (doMem m s).vals.getD y 0 = if isSet s.act.kind = true ∧ y = s.act.loc.toNat then s.act.new else m.vals.getD y 0 := by
  unfold doMem
  split
  · rename_i hk
    rw [if_neg]
    intro e
    unfold isSet at e
    simp at e
    omega
  · split
    · rename_i h2 ha
      split
      · rename_i h3
        rw [if_neg]
        intro e
        unfold isSet at e
        simp at e
        omega
      · rename_i h3
        have hs : isSet s.act.kind = true := by rw [isAt_iff] at ha; unfold isSet; simp; omega
        show (m.vals.set _ _).getD y 0 = _
        rw [getD_setQ]
        by_cases e : y = s.act.loc.toNat
        · rw [if_pos ⟨e.symm, by rw [h.wf.vals]; exact hy⟩, if_pos ⟨hs, e⟩]
        · rw [if_neg (fun h => e h.1.symm), if_neg (fun h => e h.2)]
    · rename_i h2 ha
      rw [if_neg]
      intro e
      exact ha (isAt_set e.1)
end
/-! ### Fronts, told by the steps -/
/-- A memory is what its steps say. -/
structure AsPast (l : List LocG) (t : Int) (s : List StepG) (m : Mem) : Prop where
  locs : m.locs = l
  thr : (m.fronts.length : Int) = t
  fronts : ∀ u x, u < m.fronts.length → x < l.length → frAt m u x = frontG s s.length u x
  marks : ∀ y x, y < l.length → (l.getD y default).atom = true → x < l.length → mkAt m y x = frontG s s.length (-1 - (y : Int)) x
  vals : ∀ y, y < l.length → (l.getD y default).atom = true → m.vals.getD y 0 = valueG l s y
  past : ∀ x, x < l.length → (l.getD x default).atom = false → ∀ e, e ∈ paAt m x ↔ e ∈ writesG l s x
  lf : ∀ u x, u < m.fronts.length → x < l.length → leastQ (frAt m u x) = frAt m u x
  lm : ∀ y x, y < l.length → (l.getD y default).atom = true → x < l.length → leastQ (mkAt m y x) = mkAt m y x
theorem like_new {l : List LocG} {t : Int} (h : newErr l t = 0) : AsPast l t [] (newM l t).plain := by
  have hb : l.length ≤ 16 ∧ 1 ≤ t ∧ t ≤ 3 := by unfold newErr at h; split at h; cases h; omega
  have hl := new_locs h
  have hf : (newM l t).plain.fronts.length = t.toNat := by
    unfold newM; rw [if_pos h]
    show (inn (frontX l.length t.toNat)).length = _
    rw [Z1u, frontX_len]
  have z : leastQ ⟨0, 1⟩ = ⟨0, 1⟩ := by decide
  have hm : ∀ y x, y < l.length → (l.getD y default).atom = true → x < l.length → mkAt (newM l t).plain y x = ⟨0, 1⟩ := fun y x hy ha hx => by
    unfold newM; rw [if_pos h]
    have e0 : (inn (l.map (markX l.length))).getD y [] = (markX l.length l[y]).1 := by
      rw [inn_map, List.getD_eq_getElem?_getD, List.getElem?_map, List.getElem?_eq_getElem hy]; rfl
    show ((inn (l.map (markX l.length))).getD y []).getD x default = _
    rw [e0]
    rw [Z2x hy] at ha
    unfold markX
    rw [if_pos ha]
    show (startG l.length).getD x default = _
    unfold startG
    rw [Z2x (by simpa using hx)]; simp
  refine ⟨hl, by omega, fun u x hu hx => new_front h hu hx, fun y x hy ha hx => hm y x hy ha hx, fun y hy ha => ?_, fun x hx ha e => ?_, fun u x hu hx => by rw [new_front h hu hx]; exact z, fun y x hy ha hx => by rw [hm y x hy ha hx]; exact z⟩
  · have : (newM l t).plain.vals = l.map valX := by unfold newM; rw [if_pos h]; rfl
    rw [this, List.getD_eq_getElem?_getD, List.getElem?_map, List.getElem?_eq_getElem hy]
    show valX l[y] = (l.getD (y : Int).toNat default).init
    rw [Int.toNat_natCast]
    rw [Z2x hy] at ha ⊢
    unfold valX; rw [if_pos ha]
  · rw [new_past h hx ha]
    show _ ↔ e ∈ [(⟨⟨0, 1⟩, (l.getD (x : Int).toNat default).init⟩ : StampG)]
    rw [Int.toNat_natCast]
/-! ### One more step -/
end Go.Ago

/- Package seq: Lift, and its reference. Conditions: none. -/
set_option maxRecDepth 100000
set_option linter.unusedSimpArgs false
set_option linter.unusedVariables false
namespace Go.Ago
/-- How many writes of a location there are among the first acts. -/
def cntW (as : Nat → ActG) (x : Int) : Nat → Nat
  | 0 => 0
  | k + 1 => cntW as x k + (if (as k).kind = 2 ∧ (as k).loc = x then 1 else 0)
theorem cntW_le {as : Nat → ActG} {x : Int} : ∀ {k : Nat}, cntW as x k ≤ k := by
  intro k
  induction k with
  | zero => exact Nat.le_refl _
  | succ k ih => unfold cntW; split <;> omega
def whenG (as : Nat → ActG) (i : Nat) : RatG := if (as i).kind = 1 ∨ (as i).kind = 2 then ⟨(cntW as (as i).loc (i + 1) : Nat), 1⟩ else ⟨0, 0⟩
def actAt (as : List ActG) (i : Nat) : ActG := as.getD i default
/-! ### When -/
def sp_When21 : Sp := ⟨List ActG × Bool × Int, fun x => [.d (.list (x.1.map ActG.row) x.2.1), .d (.int .i64 x.2.2)],
  fun x => .data (x.1.length ≤ 1048576 ∧ 0 ≤ x.2.2 ∧ x.2.2 < x.1.length) (.agg [.d (.int .i64 (whenG (actAt x.1) x.2.2.toNat).num), .d (.int .i64 (whenG (actAt x.1) x.2.2.toNat).den)]) true⟩
theorem at_When21 (as : List ActG) (g : Bool) (i : Int) : sp_When21.at [.d (.list (as.map ActG.row) g), .d (.int .i64 i)] =
    .data (as.length ≤ 1048576 ∧ 0 ≤ i ∧ i < as.length) (.agg [.d (.int .i64 (whenG (actAt as) i.toNat).num), .d (.int .i64 (whenG (actAt as) i.toNat).den)]) true :=
  Sp.at_enc (s := sp_When21) (fun x y h => by
    obtain ⟨a, b, c⟩ := x; obtain ⟨a', b', c'⟩ := y
    simp only [sp_When21, List.cons.injEq, AV.d.injEq, DV.list.injEq, DV.int.injEq, and_true, true_and] at h
    obtain ⟨⟨h1, h2⟩, h3⟩ := h
    rw [rows_inj ActG.row_inj h1, h2, h3]) (as, g, i)
set_option maxHeartbeats 4000000 in
theorem body_ref21_When {T : Tab} : sp_When21.Body T V_ref21_When L_ref21_When R_ref21_When := by
  rintro ⟨as, g, i⟩ ⟨hn, hi0, hi1⟩
  have hn : as.length ≤ 1048576 := hn
  have hi1 : i < as.length := hi1
  obtain ⟨i, rfl⟩ := Int.eq_ofNat_of_zero_le hi0
  refine .inl ⟨rfl, ?_⟩
  unfold V_ref21_When L_ref21_When R_ref21_When
  simp (maxSteps := 3000000) only [↓Z0h, ↓Z11, ↓Z1a, ↓Z03, ↓Z36, ↓Z35, nilG_d, nilG_r, ↓Z0p, ↓Z0f, ↓Z0c, ↓Z1h, ↓Z0a, ↓Z0o, ↓Z1q, ↓Z1p, ↓Z12, ↓Z19, ↓blockK_o, ↓Z2b, ↓Z0n, ↓Z1r, ↓retK_n, ↓loopV_n, ↓loopV_x, ↓loopV_r, ↓famK_n, ↓Z30, ↓famK_r, ↓Z0i, ↓Z0e, ↓Z1b, ↓Z0d, ↓Z22, Z25, Z05, Z0r, Z14, Z18, Z17, evN, Z13, Z0m, Z16, Z20, Z0l, Z0b, Z0k, stepK_no, Z1v, Z1n, Z1x, Z0v, evT, Opd.ev, Z04, Z00, Z15, Z21, Z1d, Z1i, Z39, Z0u, Z0w, knowO_c, Z0t, Z09, Z1g, LOp.isNew, State.prune, Z1e, Z0y, AV.leaf, Heap.at, Z06, Z0x, Z02, Z1z, Z0s, idx_I, idx_U, idx_Rat, idx_Loc, idx_Act, idx_Step, Z31, Z07, Z08, Z01, Z0j, Z2z, rowI, rowU, RatG.row, LocG.row, ActG.row, StepG.row, StampG.row, ActG.av, ActG.eta, RatG.eta, LocG.eta, beq_true, beq_false, Z2c, Z3j, set_rowU, app_rowI, app_rowU, rep_rowI, rep_rowU, Z2a, Z2g, Z29, Z2o, Z2f, Z2e, Z1w, List.length_set, List.length_replicate, Int.toNat_natCast, Int.reduceToNat, evLen, Z1s, Z38, Src.all, Src.len, Src.leaf, Src.leafN, evApart, aliveQ, joinV, Z26, Z27, Z2h, Z2i, Z2j, Z2k, Z2l, Z2m, mkVec, drows, evMk, List.length_map, Z1j, drop_mapF, List.take_length, List.take_left, List.length_append, Nat.le_add_right, ite_self, List.take_of_length_le, evSlice, intOr, intOpd, Option.isSome_none, Option.isSome_some, Nat.sub_zero, Z28, Z2v, Z2w, evUn, binT, binQ, chk, Z24, List.contains_cons, List.contains_nil, Bool.or_false, Bool.false_or, Bool.and_self, resQ, resV, resT, pickV, Z10, evTake, Z1o, fnOf, Z1l, isD, HO.drow, Z3h, evInt2, evEq, eqV, eqK, eqC1, buildQ, Z3k, Z37, Z34, lens_I, lensA_I, lens_U, lensA_U, Z2y, Z3c, lens_Loc, Z3b, lens_Act, Z3a, Z3d, Z2n, Z23, Z1y, List.mem_cons, List.not_mem_nil, or_false, forall_eq, putRow, Z2t, Z0q, RetS, RetF, RetD, AV.frz, AV.frzL, AV.freshP, AV.freshL, DV.less, scal_int, Z3e, scal_nil, Z2u, Z3f, Z1c, Z1k, Option.some.injEq, AV.tup.injEq, AV.agg.injEq, List.cons.injEq, DV.list.injEq, List.isEmpty_nil, Nat.le_refl, AV.d.injEq, DV.int.injEq, DV.bool.injEq, ↓reduceIte, Nat.reduceEqDiff, Nat.reduceAdd, Nat.reduceBEq, List.length_cons, List.length_nil, List.replicate_succ, List.replicate_zero, List.nil_append, List.cons_append, List.append_nil, List.foldl_cons, List.foldl_nil, List.map_cons, List.map_nil, List.all_cons, List.all_nil, List.set_cons_zero, List.set_cons_succ, List.getD_cons_zero, List.getD_cons_succ, List.drop_zero, List.drop_succ_cons, List.take_succ_cons, List.take_zero, List.flatten_cons, List.flatten_nil, Bool.true_and, Bool.and_true, Bool.not_true, Bool.not_false, true_and, and_true, true_or, or_true, Option.bind_some, Option.map_some, decide_true, decide_false, beq_self_eq_true, true_implies, false_implies, implies_true, not_true_eq_false, not_false_eq_true, and_self, Bool.and_false, Bool.false_and, Nat.reduceLT, Nat.reduceLeDiff, List.reverse_cons, List.reverse_nil, Nat.zero_add, Nat.add_zero, Bool.false_eq_true, List.getElem?_cons_zero, sp_When21, Z02, Z01]
  have hb : (0 : Int) ≤ i ∧ (i : Int) < as.length := ⟨by omega, hi1⟩
  have hw : ((as.getD i default).kind = 1 ∨ (as.getD i default).kind = 2) → whenG (actAt as) i = ⟨(cntW (actAt as) (as.getD i default).loc (i + 1) : Nat), 1⟩ := fun h => if_pos h
  have hw2 : ¬ (as.getD i default).kind = 1 → ¬ (as.getD i default).kind = 2 → whenG (actAt as) i = ⟨0, 0⟩ := fun h1 h2 => if_neg (fun h => by rcases h with h | h; exact h1 h; exact h2 h)
  refine ⟨hb, fun c => ?_, fun c => ⟨hb, fun c2 => ?_, fun c2 => by rw [hw2 c c2]; exact ⟨rfl, rfl⟩⟩⟩
  case' refine_1 => have hy := hw (.inl c)
  case' refine_2 => have hy := hw (.inr c2)
  all_goals
    rw [hy]
    refine Loop.fam [0, 1, 4, 5, 6] (fun k : Nat => ⟨[(0, .d (.list (as.map ActG.row) g)), (1, .d (.int .i64 i)), (4, .ptr 0 2 0 0), (5, .d (.int .i64 (cntW (actAt as) (as.getD i default).loc k : Nat))), (6, .d (.int .i64 k))], [.vec 2 [[.d (.int .i64 0), .d (.int .i64 0)]]]⟩) (fun k => k ≤ i + 1) (fun k => i + 1 - k) 0 [0] (by simp) (by simp) (by simp only [State.can, AV.can, AV.canL, HO.can, Z0z, idx, Z04, Z00, Heap.at, Nat.reduceBEq, ↓reduceIte, Nat.reduceEqDiff, Option.getD_some, Option.map_some, List.map_cons, List.map_nil, List.getD_cons_zero, List.getD_cons_succ]; rfl) (Nat.zero_le _) ?_
    intro k hk
    have hk : k ≤ i + 1 := hk
    have hle := cntW_le (as := actAt as) (x := (as.getD i default).loc) (k := k)
    have hnx : cntW (actAt as) (as.getD i default).loc (k + 1) = cntW (actAt as) (as.getD i default).loc k + (if (as.getD k default).kind = 2 ∧ (as.getD k default).loc = (as.getD i default).loc then 1 else 0) := rfl
    generalize hC : cntW (actAt as) (as.getD i default).loc k = C at *
    simp (maxSteps := 3000000) only [↓Z0h, ↓Z11, ↓Z1a, ↓Z03, ↓Z36, ↓Z35, nilG_d, nilG_r, ↓Z0p, ↓Z0f, ↓Z0c, ↓Z1h, ↓Z0a, ↓Z0o, ↓Z1q, ↓Z1p, ↓Z12, ↓Z19, ↓blockK_o, ↓Z2b, ↓Z0n, ↓Z1r, ↓retK_n, ↓loopV_n, ↓loopV_x, ↓loopV_r, ↓famK_n, ↓Z30, ↓famK_r, ↓Z0i, ↓Z0e, ↓Z1b, ↓Z0d, ↓Z22, Z25, Z05, Z0r, Z14, Z18, Z17, evN, Z13, Z0m, Z16, Z20, Z0l, Z0b, Z0k, stepK_no, Z1v, Z1n, Z1x, Z0v, evT, Opd.ev, Z04, Z00, Z15, Z21, Z1d, Z1i, Z39, Z0u, Z0w, knowO_c, Z0t, Z09, Z1g, LOp.isNew, State.prune, Z1e, Z0y, AV.leaf, Heap.at, Z06, Z0x, Z02, Z1z, Z0s, idx_I, idx_U, idx_Rat, idx_Loc, idx_Act, idx_Step, Z31, Z07, Z08, Z01, Z0j, Z2z, rowI, rowU, RatG.row, LocG.row, ActG.row, StepG.row, StampG.row, ActG.av, ActG.eta, RatG.eta, LocG.eta, beq_true, beq_false, Z2c, Z3j, set_rowU, app_rowI, app_rowU, rep_rowI, rep_rowU, Z2a, Z2g, Z29, Z2o, Z2f, Z2e, Z1w, List.length_set, List.length_replicate, Int.toNat_natCast, Int.reduceToNat, evLen, Z1s, Z38, Src.all, Src.len, Src.leaf, Src.leafN, evApart, aliveQ, joinV, Z26, Z27, Z2h, Z2i, Z2j, Z2k, Z2l, Z2m, mkVec, drows, evMk, List.length_map, Z1j, drop_mapF, List.take_length, List.take_left, List.length_append, Nat.le_add_right, ite_self, List.take_of_length_le, evSlice, intOr, intOpd, Option.isSome_none, Option.isSome_some, Nat.sub_zero, Z28, Z2v, Z2w, evUn, binT, binQ, chk, Z24, List.contains_cons, List.contains_nil, Bool.or_false, Bool.false_or, Bool.and_self, resQ, resV, resT, pickV, Z10, evTake, Z1o, fnOf, Z1l, isD, HO.drow, Z3h, evInt2, evEq, eqV, eqK, eqC1, buildQ, Z3k, Z37, Z34, lens_I, lensA_I, lens_U, lensA_U, Z2y, Z3c, lens_Loc, Z3b, lens_Act, Z3a, Z3d, Z2n, Z23, Z1y, List.mem_cons, List.not_mem_nil, or_false, forall_eq, putRow, Z2t, Z0q, RetS, RetF, RetD, AV.frz, AV.frzL, AV.freshP, AV.freshL, DV.less, scal_int, Z3e, scal_nil, Z2u, Z3f, Z1c, Z1k, Option.some.injEq, AV.tup.injEq, AV.agg.injEq, List.cons.injEq, DV.list.injEq, List.isEmpty_nil, Nat.le_refl, AV.d.injEq, DV.int.injEq, DV.bool.injEq, ↓reduceIte, Nat.reduceEqDiff, Nat.reduceAdd, Nat.reduceBEq, List.length_cons, List.length_nil, List.replicate_succ, List.replicate_zero, List.nil_append, List.cons_append, List.append_nil, List.foldl_cons, List.foldl_nil, List.map_cons, List.map_nil, List.all_cons, List.all_nil, List.set_cons_zero, List.set_cons_succ, List.getD_cons_zero, List.getD_cons_succ, List.drop_zero, List.drop_succ_cons, List.take_succ_cons, List.take_zero, List.flatten_cons, List.flatten_nil, Bool.true_and, Bool.and_true, Bool.not_true, Bool.not_false, true_and, and_true, true_or, or_true, Option.bind_some, Option.map_some, decide_true, decide_false, beq_self_eq_true, true_implies, false_implies, implies_true, not_true_eq_false, not_false_eq_true, and_self, Bool.and_false, Bool.false_and, Nat.reduceLT, Nat.reduceLeDiff, List.reverse_cons, List.reverse_nil, Nat.zero_add, Nat.add_zero, Bool.false_eq_true, List.getElem?_cons_zero, Z02, Z01]
    refine ⟨fun c3 => ⟨⟨by omega, by omega⟩, fun c4 => ⟨⟨by omega, by omega⟩, hb, fun c5 => ?_, fun c5 => ?_⟩, fun c4 => ?_⟩, fun c3 => ?_⟩
    · rw [if_pos ⟨c4, c5⟩] at hnx
      exact Z0g.mk [0] (k + 1) (by simp) (by simp) (by simp only [State.can, AV.can, AV.canL, HO.can, Z0z, idx, Z04, Z00, Heap.at, Nat.reduceBEq, ↓reduceIte, Nat.reduceEqDiff, Option.getD_some, Option.map_some, List.map_cons, List.map_nil, List.getD_cons_zero, List.getD_cons_succ, Z2r (show k < i + 1 by omega) (show i + 1 ≤ maxLen by unfold maxLen; omega), Z2r (show C < i + 2 by omega) (show i + 2 ≤ maxLen by unfold maxLen; omega), hnx]) (by show k + 1 ≤ i + 1; omega) (by show i + 1 - (k + 1) < i + 1 - k; omega)
    · rw [if_neg (fun h => c5 h.2)] at hnx
      exact Z0g.mk [0] (k + 1) (by simp) (by simp) (by simp only [State.can, AV.can, AV.canL, HO.can, Z0z, idx, Z04, Z00, Heap.at, Nat.reduceBEq, ↓reduceIte, Nat.reduceEqDiff, Option.getD_some, Option.map_some, List.map_cons, List.map_nil, List.getD_cons_zero, List.getD_cons_succ, Z2r (show k < i + 1 by omega) (show i + 1 ≤ maxLen by unfold maxLen; omega), hnx, Nat.add_zero]) (by show k + 1 ≤ i + 1; omega) (by show i + 1 - (k + 1) < i + 1 - k; omega)
    · rw [if_neg (fun h => c4 h.1)] at hnx
      exact Z0g.mk [0] (k + 1) (by simp) (by simp) (by simp only [State.can, AV.can, AV.canL, HO.can, Z0z, idx, Z04, Z00, Heap.at, Nat.reduceBEq, ↓reduceIte, Nat.reduceEqDiff, Option.getD_some, Option.map_some, List.map_cons, List.map_nil, List.getD_cons_zero, List.getD_cons_succ, Z2r (show k < i + 1 by omega) (show i + 1 ≤ maxLen by unfold maxLen; omega), hnx, Nat.add_zero]) (by show k + 1 ≤ i + 1; omega) (by show i + 1 - (k + 1) < i + 1 - k; omega)
    · have hki : k = i + 1 := by omega
      rw [← hC, hki]
/-! ### Lift -/
def liftG (as : Nat → ActG) (ss : List StepG) (n : Nat) : List StepG := (List.range n).map fun i => { ss.getD i default with when := whenG as i }
def acN (ss : List StepG) (i : Nat) : List ActG := (List.range i).map fun j => (ss.getD j default).act
def stAct (ss : List StepG) (i : Nat) : ActG := (ss.getD i default).act
theorem acN_len {ss : List StepG} {i : Nat} : (acN ss i).length = i := by simp [acN]
theorem acN_take {ss : List StepG} {i : Nat} : List.take i (acN ss i) = acN ss i := List.take_of_length_le (by rw [acN_len]; omega)
theorem acN_succ {ss : List StepG} {i : Nat} : acN ss (i + 1) = acN ss i ++ [(ss.getD i default).act] := by unfold acN; rw [List.range_succ, List.map_append]; rfl
theorem acN_all {ss : List StepG} : acN ss ss.length = ss.map (·.act) := by
  apply List.ext_getElem
  · simp [acN]
  · intro i h1 h2
    have : i < ss.length := by simpa using h2
    simp only [acN, List.getElem_map, List.getElem_range]
    exact congrArg StepG.act (Z2x this)
theorem liftG_zero {as : Nat → ActG} {ss : List StepG} : liftG as ss 0 = [] := rfl
theorem liftG_len {as : Nat → ActG} {ss : List StepG} {n : Nat} : (liftG as ss n).length = n := by simp [liftG]
theorem liftG_take {as : Nat → ActG} {ss : List StepG} {n : Nat} : List.take n (liftG as ss n) = liftG as ss n := List.take_of_length_le (by rw [liftG_len]; omega)
theorem liftG_succ {as : Nat → ActG} {ss : List StepG} {n : Nat} : liftG as ss (n + 1) = liftG as ss n ++ [{ ss.getD n default with when := whenG as n }] := by unfold liftG; rw [List.range_succ, List.map_append]; rfl
def liftErr (l : List LocG) (ss : List StepG) : Int := (seqRun l (ss.map (·.act))).2.2
def liftL (l : List LocG) (ss : List StepG) : List StepG := if liftErr l ss = 0 then liftG (stAct ss) ss ss.length else []
def sp_Lift : Sp := ⟨List LocG × Bool × List StepG × Bool, fun x => [.d (.list (x.1.map LocG.row) x.2.1), .d (.list (x.2.2.1.map StepG.row) x.2.2.2)],
  fun x => .data (x.1.length ≤ 1000 ∧ x.2.2.1.length ≤ 1000) (.tup [.d (.list ((liftL x.1 x.2.2.1).map StepG.row) false), .d (.int .i64 (liftErr x.1 x.2.2.1))]) false⟩
theorem at_Lift (l : List LocG) (f : Bool) (ss : List StepG) (g : Bool) : sp_Lift.at [.d (.list (l.map LocG.row) f), .d (.list (ss.map StepG.row) g)] =
    .data (l.length ≤ 1000 ∧ ss.length ≤ 1000) (.tup [.d (.list ((liftL l ss).map StepG.row) false), .d (.int .i64 (liftErr l ss))]) false :=
  Sp.at_enc (s := sp_Lift) (fun x y h => by
    obtain ⟨l, f, ss, g⟩ := x; obtain ⟨l', f', ss', g'⟩ := y
    simp only [sp_Lift, List.cons.injEq, AV.d.injEq, DV.list.injEq, and_true, true_and] at h
    obtain ⟨⟨h1, h2⟩, h3, h4⟩ := h
    rw [rows_inj LocG.row_inj h1, h2, rows_inj StepG.row_inj h3, h4]) (l, f, ss, g)
theorem at_seq_RunE (l : List LocG) (f g : Bool) : sp_seq_Run.at [.d (.list (l.map LocG.row) f), .d (.list [] g)] =
    .data (l.length ≤ 1048576 ∧ 0 ≤ 1048576) (.tup [.d (.list ((l.map LocG.init).map rowI) false), .d (.int .i64 0), .d (.int .i64 0)]) false := at_seq_Run l f [] g
def liSt1 (l : List LocG) (f : Bool) (ss : List StepG) (g : Bool) : Nat → State
  | 0 => ⟨[(0, .d (.list (l.map LocG.row) f)), (1, .d (.list (ss.map StepG.row) g)), (6, .d (.list [] true)), (19, .d (.list (ss.map StepG.row) g)), (20, .d (.int .i64 ss.length)), (21, .d (.int .i64 0))], []⟩
  | i + 1 => ⟨[(0, .d (.list (l.map LocG.row) f)), (1, .d (.list (ss.map StepG.row) g)), (6, .ref 0 4 0 (i + 1) true), (19, .d (.list (ss.map StepG.row) g)), (20, .d (.int .i64 ss.length)), (21, .d (.int .i64 ((i + 1 : Nat) : Int)))], [.dvec 4 ((acN ss (i + 1)).map ActG.row)]⟩
def liSt2 (L : Nat) (ss : List StepG) (g : Bool) (i : Nat) : State :=
  ⟨[(1, .d (.list (ss.map StepG.row) g)), (12, .ref 0 2 0 L true), (45, .d (.int .i64 L)), (46, .d (.int .i64 i))], [.dvec 2 ((startG i ++ zeroG (L - i)).map RatG.row)]⟩
/-- The latest moments. -/
def lastN (as : Nat → ActG) (L k : Nat) : List RatG := (List.range L).map fun (x : Nat) => ⟨(cntW as x k : Nat), 1⟩
theorem lastN_len {as : Nat → ActG} {L k : Nat} : (lastN as L k).length = L := by simp [lastN]
theorem lastN_zero {as : Nat → ActG} {L : Nat} : lastN as L 0 = startG L := by
  apply List.ext_getElem
  · simp [lastN, startG]
  · intro x h1 h2
    simp [lastN, startG, cntW]
theorem lastN_get {as : Nat → ActG} {L k x : Nat} (h : x < L) : (lastN as L k).getD x default = ⟨(cntW as x k : Nat), 1⟩ := by
  rw [Z2x (by rw [lastN_len]; exact h)]; simp [lastN]
theorem lastN_same {as : Nat → ActG} {L k : Nat} (h : ¬ (as k).kind = 2) : lastN as L (k + 1) = lastN as L k := by
  unfold lastN
  apply List.map_congr_left
  intro x _
  show (⟨((cntW as x k + (if (as k).kind = 2 ∧ (as k).loc = x then 1 else 0) : Nat) : Int), 1⟩ : RatG) = _
  rw [if_neg (fun e => h e.1)]; rfl
theorem lastN_set {as : Nat → ActG} {L k : Nat} (h : (as k).kind = 2) (h0 : 0 ≤ (as k).loc) : (lastN as L k).set (as k).loc.toNat ⟨((cntW as (as k).loc k + 1 : Nat) : Int), 1⟩ = lastN as L (k + 1) := by
  apply List.ext_getElem
  · simp [lastN]
  · intro x h1 h2
    rw [List.getElem_set]
    split
    · rename_i e
      subst e
      simp only [lastN, List.getElem_map, List.getElem_range]
      have : cntW as ((as k).loc.toNat : Nat) (k + 1) = cntW as (as k).loc k + 1 := by
        rw [show (((as k).loc.toNat : Nat) : Int) = (as k).loc by omega]
        show cntW as (as k).loc k + (if (as k).kind = 2 ∧ (as k).loc = (as k).loc then 1 else 0) = _
        rw [if_pos ⟨h, rfl⟩]
      rw [this]
    · rename_i e
      simp only [lastN, List.getElem_map, List.getElem_range]
      show _ = (⟨((cntW as x k + (if (as k).kind = 2 ∧ (as k).loc = x then 1 else 0) : Nat) : Int), 1⟩ : RatG)
      rw [if_neg (fun h => e (by omega))]; rfl
theorem after_nat {n : Nat} (h : n ≤ 1000) : rat_after n 1 = some (((n + 1 : Nat) : Int), 1) := by
  unfold rat_after
  have r1 : Z2d n 1 = true := by unfold Z2d; simp; omega
  have r2 : Z2d ((n : Int).fdiv 1 + 1) 1 = true := by unfold Z2d; simp; omega
  rw [if_pos r1, if_pos r2]
  simp
def liSt3 (L : Nat) (ss : List StepG) (g : Bool) : Nat → State
  | 0 => ⟨[(12, .ref 0 2 0 L true), (14, .d (.list [] true)), (54, .d (.list (ss.map StepG.row) g)), (55, .d (.int .i64 ss.length)), (56, .d (.int .i64 0))], [.dvec 2 ((lastN (stAct ss) L 0).map RatG.row)]⟩
  | k + 1 => ⟨[(12, .ref 0 2 0 L true), (14, .ref 1 7 0 (k + 1) true), (54, .d (.list (ss.map StepG.row) g)), (55, .d (.int .i64 ss.length)), (56, .d (.int .i64 ((k + 1 : Nat) : Int)))], [.dvec 2 ((lastN (stAct ss) L (k + 1)).map RatG.row), .dvec 7 ((liftG (stAct ss) ss (k + 1)).map StepG.row)]⟩
theorem seqErr_right {l : List LocG} {v : List Int} {a : ActG} (h : seqErr l v a = 0) : a.right l = true := by
  unfold seqErr at h
  split at h
  · split at h
    · assumption
    · cases h
  · cases h
theorem seqGo_right {l : List LocG} : ∀ (as : List ActG) (v : List Int), (seqGo l v as).2.2 = 0 → ∀ a ∈ as, a.right l = true := by
  intro as
  induction as with
  | nil => intro v _ a h; cases h
  | cons b as ih =>
    intro v h a ha
    simp only [seqGo] at h
    split at h
    · rename_i e
      rcases List.mem_cons.1 ha with rfl | ha
      · exact seqErr_right e
      · exact ih _ h a ha
    · rename_i e; exact absurd h e
theorem seqRun_right {l : List LocG} {ss : List StepG} (h : liftErr l ss = 0) : ∀ i, i < ss.length → (ss.getD i default).act.right l = true := fun i hi =>
  seqGo_right _ _ h _ (by rw [Z2x hi]; exact List.mem_map_of_mem (List.getElem_mem hi))
set_option maxHeartbeats 4000000 in
theorem body_seq_Lift {T : Tab} {n1 n2 : Nat} (k1 : Knows T n1 sp_seq_Run) (k2 : Knows T n2 sp_rat_After) : sp_Lift.Body T V_seq_Lift (L_seq_Lift n1 n2) R_seq_Lift := by
  have F1 := k1.F; have G1 := k1.G; have F2 := k2.F; have G2 := k2.G
  rintro ⟨l, f, ss, g⟩ ⟨hl, hs⟩
  have hl : l.length ≤ 1000 := hl
  have hs : ss.length ≤ 1000 := hs
  refine ⟨rfl, ?_⟩
  unfold V_seq_Lift L_seq_Lift R_seq_Lift
  simp (maxSteps := 3000000) only [↓Z0h, ↓Z11, ↓Z1a, ↓Z03, ↓Z36, ↓Z35, nilG_d, nilG_r, ↓Z0p, ↓Z0f, ↓Z0c, ↓Z1h, ↓Z0a, ↓Z0o, ↓Z1q, ↓Z1p, ↓Z12, ↓Z19, ↓blockK_o, ↓Z2b, ↓Z0n, ↓Z1r, ↓retK_n, ↓loopV_n, ↓loopV_x, ↓loopV_r, ↓famK_n, ↓Z30, ↓famK_r, ↓Z0i, ↓Z0e, ↓Z1b, ↓Z0d, ↓Z22, Z25, Z05, Z0r, Z14, Z18, Z17, evN, Z13, Z0m, Z16, Z20, Z0l, Z0b, Z0k, stepK_no, Z1v, Z1n, Z1x, Z0v, evT, Opd.ev, Z04, Z00, Z15, Z21, Z1d, Z1i, Z39, Z0u, Z0w, knowO_c, Z0t, Z09, Z1g, LOp.isNew, State.prune, Z1e, Z0y, AV.leaf, Heap.at, Z06, Z0x, Z02, Z1z, Z0s, idx_I, idx_U, idx_Rat, idx_Loc, idx_Act, idx_Step, Z31, Z07, Z08, Z01, Z0j, Z2z, rowI, rowU, RatG.row, LocG.row, ActG.row, StepG.row, StampG.row, ActG.av, ActG.eta, RatG.eta, LocG.eta, beq_true, beq_false, Z2c, Z3j, set_rowU, app_rowI, app_rowU, rep_rowI, rep_rowU, Z2a, Z2g, Z29, Z2o, Z2f, Z2e, Z1w, List.length_set, List.length_replicate, Int.toNat_natCast, Int.reduceToNat, evLen, Z1s, Z38, Src.all, Src.len, Src.leaf, Src.leafN, evApart, aliveQ, joinV, Z26, Z27, Z2h, Z2i, Z2j, Z2k, Z2l, Z2m, mkVec, drows, evMk, List.length_map, Z1j, drop_mapF, List.take_length, List.take_left, List.length_append, Nat.le_add_right, ite_self, List.take_of_length_le, evSlice, intOr, intOpd, Option.isSome_none, Option.isSome_some, Nat.sub_zero, Z28, Z2v, Z2w, evUn, binT, binQ, chk, Z24, List.contains_cons, List.contains_nil, Bool.or_false, Bool.false_or, Bool.and_self, resQ, resV, resT, pickV, Z10, evTake, Z1o, fnOf, Z1l, isD, HO.drow, Z3h, evInt2, evEq, eqV, eqK, eqC1, buildQ, Z3k, Z37, Z34, lens_I, lensA_I, lens_U, lensA_U, Z2y, Z3c, lens_Loc, Z3b, lens_Act, Z3a, Z3d, Z2n, Z23, Z1y, List.mem_cons, List.not_mem_nil, or_false, forall_eq, putRow, Z2t, Z0q, RetS, RetF, RetD, AV.frz, AV.frzL, AV.freshP, AV.freshL, DV.less, scal_int, Z3e, scal_nil, Z2u, Z3f, Z1c, Z1k, Option.some.injEq, AV.tup.injEq, AV.agg.injEq, List.cons.injEq, DV.list.injEq, List.isEmpty_nil, Nat.le_refl, AV.d.injEq, DV.int.injEq, DV.bool.injEq, ↓reduceIte, Nat.reduceEqDiff, Nat.reduceAdd, Nat.reduceBEq, List.length_cons, List.length_nil, List.replicate_succ, List.replicate_zero, List.nil_append, List.cons_append, List.append_nil, List.foldl_cons, List.foldl_nil, List.map_cons, List.map_nil, List.all_cons, List.all_nil, List.set_cons_zero, List.set_cons_succ, List.getD_cons_zero, List.getD_cons_succ, List.drop_zero, List.drop_succ_cons, List.take_succ_cons, List.take_zero, List.flatten_cons, List.flatten_nil, Bool.true_and, Bool.and_true, Bool.not_true, Bool.not_false, true_and, and_true, true_or, or_true, Option.bind_some, Option.map_some, decide_true, decide_false, beq_self_eq_true, true_implies, false_implies, implies_true, not_true_eq_false, not_false_eq_true, and_self, Bool.and_false, Bool.false_and, Nat.reduceLT, Nat.reduceLeDiff, List.reverse_cons, List.reverse_nil, Nat.zero_add, Nat.add_zero, Bool.false_eq_true, List.getElem?_cons_zero, sp_Lift, F1, G1, F2, G2, at_seq_Run, at_rat_After, Z02, Z01]
  refine Loop.fam [0, 1, 6, 19, 20, 21] (liSt1 l f ss g) (fun i => i ≤ ss.length) (fun i => ss.length - i) 0 [] (by simp) (by simp) (by simp only [State.can, AV.can, AV.canL, HO.can, Z0z, idx, Z04, Z00, Heap.at, Nat.reduceBEq, ↓reduceIte, Nat.reduceEqDiff, Option.getD_some, Option.map_some, List.map_cons, List.map_nil, List.getD_cons_zero, List.getD_cons_succ, liSt1]) (Nat.zero_le _) ?_
  intro i hi
  have hi : i ≤ ss.length := hi
  have herr : i = ss.length → (seqRun l (acN ss i)).2.2 = liftErr l ss := fun e => by subst e; unfold liftErr; rw [acN_all]
  have hno : ¬ liftErr l ss = 0 → [] = List.map StepG.row (liftL l ss) := fun h => by unfold liftL; rw [if_neg h]; rfl
  have hm : maxLen = 9223372036854775807 := rfl
  rcases i with _ | i
  case' zero =>
    simp (maxSteps := 3000000) only [↓Z0h, ↓Z11, ↓Z1a, ↓Z03, ↓Z36, ↓Z35, nilG_d, nilG_r, ↓Z0p, ↓Z0f, ↓Z0c, ↓Z1h, ↓Z0a, ↓Z0o, ↓Z1q, ↓Z1p, ↓Z12, ↓Z19, ↓blockK_o, ↓Z2b, ↓Z0n, ↓Z1r, ↓retK_n, ↓loopV_n, ↓loopV_x, ↓loopV_r, ↓famK_n, ↓Z30, ↓famK_r, ↓Z0i, ↓Z0e, ↓Z1b, ↓Z0d, ↓Z22, Z25, Z05, Z0r, Z14, Z18, Z17, evN, Z13, Z0m, Z16, Z20, Z0l, Z0b, Z0k, stepK_no, Z1v, Z1n, Z1x, Z0v, evT, Opd.ev, Z04, Z00, Z15, Z21, Z1d, Z1i, Z39, Z0u, Z0w, knowO_c, Z0t, Z09, Z1g, LOp.isNew, State.prune, Z1e, Z0y, AV.leaf, Heap.at, Z06, Z0x, Z02, Z1z, Z0s, idx_I, idx_U, idx_Rat, idx_Loc, idx_Act, idx_Step, Z31, Z07, Z08, Z01, Z0j, Z2z, rowI, rowU, RatG.row, LocG.row, ActG.row, StepG.row, StampG.row, ActG.av, ActG.eta, RatG.eta, LocG.eta, beq_true, beq_false, Z2c, Z3j, set_rowU, app_rowI, app_rowU, rep_rowI, rep_rowU, Z2a, Z2g, Z29, Z2o, Z2f, Z2e, Z1w, List.length_set, List.length_replicate, Int.toNat_natCast, Int.reduceToNat, evLen, Z1s, Z38, Src.all, Src.len, Src.leaf, Src.leafN, evApart, aliveQ, joinV, Z26, Z27, Z2h, Z2i, Z2j, Z2k, Z2l, Z2m, mkVec, drows, evMk, List.length_map, Z1j, drop_mapF, List.take_length, List.take_left, List.length_append, Nat.le_add_right, ite_self, List.take_of_length_le, evSlice, intOr, intOpd, Option.isSome_none, Option.isSome_some, Nat.sub_zero, Z28, Z2v, Z2w, evUn, binT, binQ, chk, Z24, List.contains_cons, List.contains_nil, Bool.or_false, Bool.false_or, Bool.and_self, resQ, resV, resT, pickV, Z10, evTake, Z1o, fnOf, Z1l, isD, HO.drow, Z3h, evInt2, evEq, eqV, eqK, eqC1, buildQ, Z3k, Z37, Z34, lens_I, lensA_I, lens_U, lensA_U, Z2y, Z3c, lens_Loc, Z3b, lens_Act, Z3a, Z3d, Z2n, Z23, Z1y, List.mem_cons, List.not_mem_nil, or_false, forall_eq, putRow, Z2t, Z0q, RetS, RetF, RetD, AV.frz, AV.frzL, AV.freshP, AV.freshL, DV.less, scal_int, Z3e, scal_nil, Z2u, Z3f, Z1c, Z1k, Option.some.injEq, AV.tup.injEq, AV.agg.injEq, List.cons.injEq, DV.list.injEq, List.isEmpty_nil, Nat.le_refl, AV.d.injEq, DV.int.injEq, DV.bool.injEq, ↓reduceIte, Nat.reduceEqDiff, Nat.reduceAdd, Nat.reduceBEq, List.length_cons, List.length_nil, List.replicate_succ, List.replicate_zero, List.nil_append, List.cons_append, List.append_nil, List.foldl_cons, List.foldl_nil, List.map_cons, List.map_nil, List.all_cons, List.all_nil, List.set_cons_zero, List.set_cons_succ, List.getD_cons_zero, List.getD_cons_succ, List.drop_zero, List.drop_succ_cons, List.take_succ_cons, List.take_zero, List.flatten_cons, List.flatten_nil, Bool.true_and, Bool.and_true, Bool.not_true, Bool.not_false, true_and, and_true, true_or, or_true, Option.bind_some, Option.map_some, decide_true, decide_false, beq_self_eq_true, true_implies, false_implies, implies_true, not_true_eq_false, not_false_eq_true, and_self, Bool.and_false, Bool.false_and, Nat.reduceLT, Nat.reduceLeDiff, List.reverse_cons, List.reverse_nil, Nat.zero_add, Nat.add_zero, Bool.false_eq_true, List.getElem?_cons_zero, liSt1, F1, G1, F2, G2, at_seq_RunE, at_rat_After, Z02, Z01]
    refine ⟨fun c => ⟨⟨by omega, by omega⟩, Z1t (by decide) (by decide), Z0g.mk [2] 1 (by simp) (by simp) (by simp only [State.can, AV.can, AV.canL, HO.can, Z0z, idx, Z04, Z00, Heap.at, Nat.reduceBEq, ↓reduceIte, Nat.reduceEqDiff, Option.getD_some, Option.map_some, List.map_cons, List.map_nil, List.getD_cons_zero, List.getD_cons_succ, liSt1]; rfl) (by show 1 ≤ _; omega) (by show _ - 1 < _; omega)⟩, fun c => ?_⟩
    refine ⟨by omega, ⟨by omega, by omega, Z1t (by omega) (by decide)⟩, ?_⟩
  case' succ =>
    simp (maxSteps := 3000000) only [↓Z0h, ↓Z11, ↓Z1a, ↓Z03, ↓Z36, ↓Z35, nilG_d, nilG_r, ↓Z0p, ↓Z0f, ↓Z0c, ↓Z1h, ↓Z0a, ↓Z0o, ↓Z1q, ↓Z1p, ↓Z12, ↓Z19, ↓blockK_o, ↓Z2b, ↓Z0n, ↓Z1r, ↓retK_n, ↓loopV_n, ↓loopV_x, ↓loopV_r, ↓famK_n, ↓Z30, ↓famK_r, ↓Z0i, ↓Z0e, ↓Z1b, ↓Z0d, ↓Z22, Z25, Z05, Z0r, Z14, Z18, Z17, evN, Z13, Z0m, Z16, Z20, Z0l, Z0b, Z0k, stepK_no, Z1v, Z1n, Z1x, Z0v, evT, Opd.ev, Z04, Z00, Z15, Z21, Z1d, Z1i, Z39, Z0u, Z0w, knowO_c, Z0t, Z09, Z1g, LOp.isNew, State.prune, Z1e, Z0y, AV.leaf, Heap.at, Z06, Z0x, Z02, Z1z, Z0s, idx_I, idx_U, idx_Rat, idx_Loc, idx_Act, idx_Step, Z31, Z07, Z08, Z01, Z0j, Z2z, rowI, rowU, RatG.row, LocG.row, ActG.row, StepG.row, StampG.row, ActG.av, ActG.eta, RatG.eta, LocG.eta, beq_true, beq_false, Z2c, Z3j, set_rowU, app_rowI, app_rowU, rep_rowI, rep_rowU, Z2a, Z2g, Z29, Z2o, Z2f, Z2e, Z1w, List.length_set, List.length_replicate, Int.toNat_natCast, Int.reduceToNat, evLen, Z1s, Z38, Src.all, Src.len, Src.leaf, Src.leafN, evApart, aliveQ, joinV, Z26, Z27, Z2h, Z2i, Z2j, Z2k, Z2l, Z2m, mkVec, drows, evMk, List.length_map, Z1j, drop_mapF, List.take_length, List.take_left, List.length_append, Nat.le_add_right, ite_self, List.take_of_length_le, evSlice, intOr, intOpd, Option.isSome_none, Option.isSome_some, Nat.sub_zero, Z28, Z2v, Z2w, evUn, binT, binQ, chk, Z24, List.contains_cons, List.contains_nil, Bool.or_false, Bool.false_or, Bool.and_self, resQ, resV, resT, pickV, Z10, evTake, Z1o, fnOf, Z1l, isD, HO.drow, Z3h, evInt2, evEq, eqV, eqK, eqC1, buildQ, Z3k, Z37, Z34, lens_I, lensA_I, lens_U, lensA_U, Z2y, Z3c, lens_Loc, Z3b, lens_Act, Z3a, Z3d, Z2n, Z23, Z1y, List.mem_cons, List.not_mem_nil, or_false, forall_eq, putRow, Z2t, Z0q, RetS, RetF, RetD, AV.frz, AV.frzL, AV.freshP, AV.freshL, DV.less, scal_int, Z3e, scal_nil, Z2u, Z3f, Z1c, Z1k, Option.some.injEq, AV.tup.injEq, AV.agg.injEq, List.cons.injEq, DV.list.injEq, List.isEmpty_nil, Nat.le_refl, AV.d.injEq, DV.int.injEq, DV.bool.injEq, ↓reduceIte, Nat.reduceEqDiff, Nat.reduceAdd, Nat.reduceBEq, List.length_cons, List.length_nil, List.replicate_succ, List.replicate_zero, List.nil_append, List.cons_append, List.append_nil, List.foldl_cons, List.foldl_nil, List.map_cons, List.map_nil, List.all_cons, List.all_nil, List.set_cons_zero, List.set_cons_succ, List.getD_cons_zero, List.getD_cons_succ, List.drop_zero, List.drop_succ_cons, List.take_succ_cons, List.take_zero, List.flatten_cons, List.flatten_nil, Bool.true_and, Bool.and_true, Bool.not_true, Bool.not_false, true_and, and_true, true_or, or_true, Option.bind_some, Option.map_some, decide_true, decide_false, beq_self_eq_true, true_implies, false_implies, implies_true, not_true_eq_false, not_false_eq_true, and_self, Bool.and_false, Bool.false_and, Nat.reduceLT, Nat.reduceLeDiff, List.reverse_cons, List.reverse_nil, Nat.zero_add, Nat.add_zero, Bool.false_eq_true, List.getElem?_cons_zero, liSt1, F1, G1, F2, G2, at_seq_Run, at_rat_After, Z02, Z01, acN_len, acN_take]
    refine ⟨fun c => ⟨⟨by omega, by omega⟩, Z1t (by omega) (by decide), Z0g.mk [3] (i + 2) (by simp) (by simp) (by simp only [State.can, AV.can, AV.canL, HO.can, Z0z, idx, Z04, Z00, Heap.at, Nat.reduceBEq, ↓reduceIte, Nat.reduceEqDiff, Option.getD_some, Option.map_some, List.map_cons, List.map_nil, List.getD_cons_zero, List.getD_cons_succ, liSt1, acN_succ (i := i + 1), Z2r (show i + 1 < ss.length by omega) (by omega)]) (by show i + 2 ≤ _; omega) (by show _ - (i + 2) < _ - (i + 1); omega)⟩, fun c => ⟨⟨by omega, by omega⟩, fun he => ⟨⟨by omega, by omega, Z1t (by omega) (by decide)⟩, ?_⟩, fun he => ?_⟩⟩
  case succ.refine_2 =>
    have e := herr (by omega)
    rw [e] at he ⊢
    exact ⟨hno he, rfl⟩
  case' zero =>
    have e0 : (seqRun l (acN ss 0)).2.2 = 0 := rfl
    have he : liftErr l ss = 0 := by rw [← herr (by omega)]; exact e0
    refine Loop.fam [1, 12, 45, 46] (liSt2 l.length ss g) (fun i => i ≤ l.length) (fun i => l.length - i) 0 [0] (by simp) (by simp) (by simp only [State.can, AV.can, AV.canL, HO.can, Z0z, idx, Z04, Z00, Heap.at, Nat.reduceBEq, ↓reduceIte, Nat.reduceEqDiff, Option.getD_some, Option.map_some, List.map_cons, List.map_nil, List.getD_cons_zero, List.getD_cons_succ, liSt2]; simp [startG, zeroG]) (Nat.zero_le _) ?_
  case' succ.refine_1 =>
    have he : liftErr l ss = 0 := by rw [← herr (by omega)]; exact he
    refine Loop.fam [1, 12, 45, 46] (liSt2 l.length ss g) (fun i => i ≤ l.length) (fun i => l.length - i) 0 [1] (by simp) (by simp) (by simp only [State.can, AV.can, AV.canL, HO.can, Z0z, idx, Z04, Z00, Heap.at, Nat.reduceBEq, ↓reduceIte, Nat.reduceEqDiff, Option.getD_some, Option.map_some, List.map_cons, List.map_nil, List.getD_cons_zero, List.getD_cons_succ, liSt2]; simp [startG, zeroG]) (Nat.zero_le _) ?_
  all_goals
    have hr := seqRun_right he
    intro q hq
    have hq : q ≤ l.length := hq
    have ls : (startG q).length = q := by simp [startG]
    have lz : (zeroG (l.length - q)).length = l.length - q := by simp [zeroG]
    simp (maxSteps := 3000000) only [↓Z0h, ↓Z11, ↓Z1a, ↓Z03, ↓Z36, ↓Z35, nilG_d, nilG_r, ↓Z0p, ↓Z0f, ↓Z0c, ↓Z1h, ↓Z0a, ↓Z0o, ↓Z1q, ↓Z1p, ↓Z12, ↓Z19, ↓blockK_o, ↓Z2b, ↓Z0n, ↓Z1r, ↓retK_n, ↓loopV_n, ↓loopV_x, ↓loopV_r, ↓famK_n, ↓Z30, ↓famK_r, ↓Z0i, ↓Z0e, ↓Z1b, ↓Z0d, ↓Z22, Z25, Z05, Z0r, Z14, Z18, Z17, evN, Z13, Z0m, Z16, Z20, Z0l, Z0b, Z0k, stepK_no, Z1v, Z1n, Z1x, Z0v, evT, Opd.ev, Z04, Z00, Z15, Z21, Z1d, Z1i, Z39, Z0u, Z0w, knowO_c, Z0t, Z09, Z1g, LOp.isNew, State.prune, Z1e, Z0y, AV.leaf, Heap.at, Z06, Z0x, Z02, Z1z, Z0s, idx_I, idx_U, idx_Rat, idx_Loc, idx_Act, idx_Step, Z31, Z07, Z08, Z01, Z0j, Z2z, rowI, rowU, RatG.row, LocG.row, ActG.row, StepG.row, StampG.row, ActG.av, ActG.eta, RatG.eta, LocG.eta, beq_true, beq_false, Z2c, Z3j, set_rowU, app_rowI, app_rowU, rep_rowI, rep_rowU, Z2a, Z2g, Z29, Z2o, Z2f, Z2e, Z1w, List.length_set, List.length_replicate, Int.toNat_natCast, Int.reduceToNat, evLen, Z1s, Z38, Src.all, Src.len, Src.leaf, Src.leafN, evApart, aliveQ, joinV, Z26, Z27, Z2h, Z2i, Z2j, Z2k, Z2l, Z2m, mkVec, drows, evMk, List.length_map, Z1j, drop_mapF, List.take_length, List.take_left, List.length_append, Nat.le_add_right, ite_self, List.take_of_length_le, evSlice, intOr, intOpd, Option.isSome_none, Option.isSome_some, Nat.sub_zero, Z28, Z2v, Z2w, evUn, binT, binQ, chk, Z24, List.contains_cons, List.contains_nil, Bool.or_false, Bool.false_or, Bool.and_self, resQ, resV, resT, pickV, Z10, evTake, Z1o, fnOf, Z1l, isD, HO.drow, Z3h, evInt2, evEq, eqV, eqK, eqC1, buildQ, Z3k, Z37, Z34, lens_I, lensA_I, lens_U, lensA_U, Z2y, Z3c, lens_Loc, Z3b, lens_Act, Z3a, Z3d, Z2n, Z23, Z1y, List.mem_cons, List.not_mem_nil, or_false, forall_eq, putRow, Z2t, Z0q, RetS, RetF, RetD, AV.frz, AV.frzL, AV.freshP, AV.freshL, DV.less, scal_int, Z3e, scal_nil, Z2u, Z3f, Z1c, Z1k, Option.some.injEq, AV.tup.injEq, AV.agg.injEq, List.cons.injEq, DV.list.injEq, List.isEmpty_nil, Nat.le_refl, AV.d.injEq, DV.int.injEq, DV.bool.injEq, ↓reduceIte, Nat.reduceEqDiff, Nat.reduceAdd, Nat.reduceBEq, List.length_cons, List.length_nil, List.replicate_succ, List.replicate_zero, List.nil_append, List.cons_append, List.append_nil, List.foldl_cons, List.foldl_nil, List.map_cons, List.map_nil, List.all_cons, List.all_nil, List.set_cons_zero, List.set_cons_succ, List.getD_cons_zero, List.getD_cons_succ, List.drop_zero, List.drop_succ_cons, List.take_succ_cons, List.take_zero, List.flatten_cons, List.flatten_nil, Bool.true_and, Bool.and_true, Bool.not_true, Bool.not_false, true_and, and_true, true_or, or_true, Option.bind_some, Option.map_some, decide_true, decide_false, beq_self_eq_true, true_implies, false_implies, implies_true, not_true_eq_false, not_false_eq_true, and_self, Bool.and_false, Bool.false_and, Nat.reduceLT, Nat.reduceLeDiff, List.reverse_cons, List.reverse_nil, Nat.zero_add, Nat.add_zero, Bool.false_eq_true, List.getElem?_cons_zero, liSt2, F1, G1, F2, G2, at_rat_After, Z02, Z01]
    refine ⟨fun c2 => ⟨⟨by omega, by omega⟩, by omega, ?_⟩, fun c2 => ?_⟩
    · have h' : q < l.length := by omega
      have e : zeroG (l.length - q) = ⟨0, 0⟩ :: zeroG (l.length - (q + 1)) := by
        unfold zeroG
        rw [show l.length - q = (l.length - (q + 1)) + 1 by omega, List.replicate_succ]
      have e2 : startG (q + 1) = startG q ++ [⟨0, 1⟩] := by unfold startG; rw [List.replicate_succ']
      rw [e, get_mid ls, set_mid ls]
      exact Z0g.mk [0] (q + 1) (by simp) (by simp) (by simp only [State.can, AV.can, AV.canL, HO.can, Z0z, idx, Z04, Z00, Heap.at, Nat.reduceBEq, ↓reduceIte, Nat.reduceEqDiff, Option.getD_some, Option.map_some, List.map_cons, List.map_nil, List.getD_cons_zero, List.getD_cons_succ, liSt2, e2, Z2r h' (by omega), List.append_assoc, List.cons_append, List.nil_append]) (by show q + 1 ≤ _; omega) (by show _ - (q + 1) < _ - q; omega)
    have hql : q = l.length := by omega
    have hLz : startG q ++ zeroG (l.length - q) = lastN (stAct ss) l.length 0 := by
      subst hql
      rw [Nat.sub_self]
      show startG l.length ++ zeroG 0 = _
      rw [show zeroG 0 = [] from rfl, List.append_nil]
      exact lastN_zero.symm
    rw [hLz]
    refine Loop.fam [12, 14, 54, 55, 56] (liSt3 l.length ss g) (fun k => k ≤ ss.length) (fun k => ss.length - k) 0 [0] (by simp) (by simp) (by simp only [State.can, AV.can, AV.canL, HO.can, Z0z, idx, Z04, Z00, Heap.at, Nat.reduceBEq, ↓reduceIte, Nat.reduceEqDiff, Option.getD_some, Option.map_some, List.map_cons, List.map_nil, List.getD_cons_zero, List.getD_cons_succ, liSt3]) (Nat.zero_le _) ?_
    intro k hk
    have hk : k ≤ ss.length := hk
    have hloc : k < ss.length → ((ss.getD k default).act.kind = 1 ∨ (ss.getD k default).act.kind = 2) → 0 ≤ (ss.getD k default).act.loc ∧ (ss.getD k default).act.loc < l.length := fun h1 h2 => right_loc (hr k h1) (by omega)
    have hget : k < ss.length → ((ss.getD k default).act.kind = 1 ∨ (ss.getD k default).act.kind = 2) → (lastN (stAct ss) l.length k).getD (ss.getD k default).act.loc.toNat default = ⟨(cntW (stAct ss) (ss.getD k default).act.loc k : Nat), 1⟩ := fun h1 h2 => by
      have := hloc h1 h2
      rw [lastN_get (by omega), show (((ss.getD k default).act.loc.toNat : Nat) : Int) = (ss.getD k default).act.loc by omega]
    have hcle := cntW_le (as := stAct ss) (x := (ss.getD k default).act.loc) (k := k)
    have haf : k < ss.length → rat_after (cntW (stAct ss) (ss.getD k default).act.loc k : Nat) 1 = some (((cntW (stAct ss) (ss.getD k default).act.loc k + 1 : Nat) : Int), 1) := fun h => after_nat (by omega)
    have hnW : k < ss.length → ¬ (ss.getD k default).act.kind = 2 → lastN (stAct ss) l.length (k + 1) = lastN (stAct ss) l.length k := fun h1 h2 => lastN_same (by exact h2)
    have hW : k < ss.length → (ss.getD k default).act.kind = 2 → (lastN (stAct ss) l.length k).set (ss.getD k default).act.loc.toNat ⟨((cntW (stAct ss) (ss.getD k default).act.loc k + 1 : Nat) : Int), 1⟩ = lastN (stAct ss) l.length (k + 1) := fun h1 h2 => lastN_set h2 (hloc h1 (.inr h2)).1
    have hend : k = ss.length → List.map StepG.row (liftG (stAct ss) ss k) = List.map StepG.row (liftL l ss) ∧ 0 = liftErr l ss := fun e => by
      subst e; unfold liftL; rw [if_pos he]; exact ⟨rfl, he.symm⟩
    by_cases hkn : k < ss.length
    · have hll := fun h => hloc hkn h
      by_cases hk2 : (ss.getD k default).act.kind = 2
      · have g1 := hget hkn (.inr hk2)
        have g2 := haf hkn
        have g3 := hW hkn hk2
        have g4 : whenG (stAct ss) k = ⟨((cntW (stAct ss) (ss.getD k default).act.loc k + 1 : Nat) : Int), 1⟩ := by
          unfold whenG
          rw [if_pos (show (stAct ss k).kind = 1 ∨ (stAct ss k).kind = 2 from .inr hk2)]
          show (⟨((cntW (stAct ss) (ss.getD k default).act.loc k + (if (stAct ss k).kind = 2 ∧ (stAct ss k).loc = (ss.getD k default).act.loc then 1 else 0) : Nat) : Int), 1⟩ : RatG) = _
          rw [if_pos (show (stAct ss k).kind = 2 ∧ (stAct ss k).loc = (ss.getD k default).act.loc from ⟨hk2, rfl⟩)]
        have hl2 := hll (.inr hk2)
        rcases k with _ | k
        · simp (maxSteps := 3000000) only [↓Z0h, ↓Z11, ↓Z1a, ↓Z03, ↓Z36, ↓Z35, nilG_d, nilG_r, ↓Z0p, ↓Z0f, ↓Z0c, ↓Z1h, ↓Z0a, ↓Z0o, ↓Z1q, ↓Z1p, ↓Z12, ↓Z19, ↓blockK_o, ↓Z2b, ↓Z0n, ↓Z1r, ↓retK_n, ↓loopV_n, ↓loopV_x, ↓loopV_r, ↓famK_n, ↓Z30, ↓famK_r, ↓Z0i, ↓Z0e, ↓Z1b, ↓Z0d, ↓Z22, Z25, Z05, Z0r, Z14, Z18, Z17, evN, Z13, Z0m, Z16, Z20, Z0l, Z0b, Z0k, stepK_no, Z1v, Z1n, Z1x, Z0v, evT, Opd.ev, Z04, Z00, Z15, Z21, Z1d, Z1i, Z39, Z0u, Z0w, knowO_c, Z0t, Z09, Z1g, LOp.isNew, State.prune, Z1e, Z0y, AV.leaf, Heap.at, Z06, Z0x, Z02, Z1z, Z0s, idx_I, idx_U, idx_Rat, idx_Loc, idx_Act, idx_Step, Z31, Z07, Z08, Z01, Z0j, Z2z, rowI, rowU, RatG.row, LocG.row, ActG.row, StepG.row, StampG.row, ActG.av, ActG.eta, RatG.eta, LocG.eta, beq_true, beq_false, Z2c, Z3j, set_rowU, app_rowI, app_rowU, rep_rowI, rep_rowU, Z2a, Z2g, Z29, Z2o, Z2f, Z2e, Z1w, List.length_set, List.length_replicate, Int.toNat_natCast, Int.reduceToNat, evLen, Z1s, Z38, Src.all, Src.len, Src.leaf, Src.leafN, evApart, aliveQ, joinV, Z26, Z27, Z2h, Z2i, Z2j, Z2k, Z2l, Z2m, mkVec, drows, evMk, List.length_map, Z1j, drop_mapF, List.take_length, List.take_left, List.length_append, Nat.le_add_right, ite_self, List.take_of_length_le, evSlice, intOr, intOpd, Option.isSome_none, Option.isSome_some, Nat.sub_zero, Z28, Z2v, Z2w, evUn, binT, binQ, chk, Z24, List.contains_cons, List.contains_nil, Bool.or_false, Bool.false_or, Bool.and_self, resQ, resV, resT, pickV, Z10, evTake, Z1o, fnOf, Z1l, isD, HO.drow, Z3h, evInt2, evEq, eqV, eqK, eqC1, buildQ, Z3k, Z37, Z34, lens_I, lensA_I, lens_U, lensA_U, Z2y, Z3c, lens_Loc, Z3b, lens_Act, Z3a, Z3d, Z2n, Z23, Z1y, List.mem_cons, List.not_mem_nil, or_false, forall_eq, putRow, Z2t, Z0q, RetS, RetF, RetD, AV.frz, AV.frzL, AV.freshP, AV.freshL, DV.less, scal_int, Z3e, scal_nil, Z2u, Z3f, Z1c, Z1k, Option.some.injEq, AV.tup.injEq, AV.agg.injEq, List.cons.injEq, DV.list.injEq, List.isEmpty_nil, Nat.le_refl, AV.d.injEq, DV.int.injEq, DV.bool.injEq, ↓reduceIte, Nat.reduceEqDiff, Nat.reduceAdd, Nat.reduceBEq, List.length_cons, List.length_nil, List.replicate_succ, List.replicate_zero, List.nil_append, List.cons_append, List.append_nil, List.foldl_cons, List.foldl_nil, List.map_cons, List.map_nil, List.all_cons, List.all_nil, List.set_cons_zero, List.set_cons_succ, List.getD_cons_zero, List.getD_cons_succ, List.drop_zero, List.drop_succ_cons, List.take_succ_cons, List.take_zero, List.flatten_cons, List.flatten_nil, Bool.true_and, Bool.and_true, Bool.not_true, Bool.not_false, true_and, and_true, true_or, or_true, Option.bind_some, Option.map_some, decide_true, decide_false, beq_self_eq_true, true_implies, false_implies, implies_true, not_true_eq_false, not_false_eq_true, and_self, Bool.and_false, Bool.false_and, Nat.reduceLT, Nat.reduceLeDiff, List.reverse_cons, List.reverse_nil, Nat.zero_add, Nat.add_zero, Bool.false_eq_true, List.getElem?_cons_zero, liSt3, F2, G2, at_rat_After, Z02, Z01, liftG_len, liftG_take, mo, store_rowRat, lastN_len, hk2, g1, g2, g3]
          exact ⟨fun c3 => ⟨⟨by omega, by omega⟩, hl2, by omega, hl2, by omega, Z1t (by decide) (by decide), Z0g.mk [0, 4] (1) (by simp) (by simp) (by simp only [State.can, AV.can, AV.canL, HO.can, Z0z, idx, Z04, Z00, Heap.at, Nat.reduceBEq, ↓reduceIte, Nat.reduceEqDiff, Option.getD_some, Option.map_some, List.map_cons, List.map_nil, List.getD_cons_zero, List.getD_cons_succ, liSt3, liftG_succ, liftG_zero, List.map_append, List.nil_append, StepG.row, g4, hk2]; rfl) (by show 1 ≤ ss.length; omega) (by show ss.length - (1) < ss.length; omega)⟩, fun c3 => absurd (by omega) c3⟩
        · simp (maxSteps := 3000000) only [↓Z0h, ↓Z11, ↓Z1a, ↓Z03, ↓Z36, ↓Z35, nilG_d, nilG_r, ↓Z0p, ↓Z0f, ↓Z0c, ↓Z1h, ↓Z0a, ↓Z0o, ↓Z1q, ↓Z1p, ↓Z12, ↓Z19, ↓blockK_o, ↓Z2b, ↓Z0n, ↓Z1r, ↓retK_n, ↓loopV_n, ↓loopV_x, ↓loopV_r, ↓famK_n, ↓Z30, ↓famK_r, ↓Z0i, ↓Z0e, ↓Z1b, ↓Z0d, ↓Z22, Z25, Z05, Z0r, Z14, Z18, Z17, evN, Z13, Z0m, Z16, Z20, Z0l, Z0b, Z0k, stepK_no, Z1v, Z1n, Z1x, Z0v, evT, Opd.ev, Z04, Z00, Z15, Z21, Z1d, Z1i, Z39, Z0u, Z0w, knowO_c, Z0t, Z09, Z1g, LOp.isNew, State.prune, Z1e, Z0y, AV.leaf, Heap.at, Z06, Z0x, Z02, Z1z, Z0s, idx_I, idx_U, idx_Rat, idx_Loc, idx_Act, idx_Step, Z31, Z07, Z08, Z01, Z0j, Z2z, rowI, rowU, RatG.row, LocG.row, ActG.row, StepG.row, StampG.row, ActG.av, ActG.eta, RatG.eta, LocG.eta, beq_true, beq_false, Z2c, Z3j, set_rowU, app_rowI, app_rowU, rep_rowI, rep_rowU, Z2a, Z2g, Z29, Z2o, Z2f, Z2e, Z1w, List.length_set, List.length_replicate, Int.toNat_natCast, Int.reduceToNat, evLen, Z1s, Z38, Src.all, Src.len, Src.leaf, Src.leafN, evApart, aliveQ, joinV, Z26, Z27, Z2h, Z2i, Z2j, Z2k, Z2l, Z2m, mkVec, drows, evMk, List.length_map, Z1j, drop_mapF, List.take_length, List.take_left, List.length_append, Nat.le_add_right, ite_self, List.take_of_length_le, evSlice, intOr, intOpd, Option.isSome_none, Option.isSome_some, Nat.sub_zero, Z28, Z2v, Z2w, evUn, binT, binQ, chk, Z24, List.contains_cons, List.contains_nil, Bool.or_false, Bool.false_or, Bool.and_self, resQ, resV, resT, pickV, Z10, evTake, Z1o, fnOf, Z1l, isD, HO.drow, Z3h, evInt2, evEq, eqV, eqK, eqC1, buildQ, Z3k, Z37, Z34, lens_I, lensA_I, lens_U, lensA_U, Z2y, Z3c, lens_Loc, Z3b, lens_Act, Z3a, Z3d, Z2n, Z23, Z1y, List.mem_cons, List.not_mem_nil, or_false, forall_eq, putRow, Z2t, Z0q, RetS, RetF, RetD, AV.frz, AV.frzL, AV.freshP, AV.freshL, DV.less, scal_int, Z3e, scal_nil, Z2u, Z3f, Z1c, Z1k, Option.some.injEq, AV.tup.injEq, AV.agg.injEq, List.cons.injEq, DV.list.injEq, List.isEmpty_nil, Nat.le_refl, AV.d.injEq, DV.int.injEq, DV.bool.injEq, ↓reduceIte, Nat.reduceEqDiff, Nat.reduceAdd, Nat.reduceBEq, List.length_cons, List.length_nil, List.replicate_succ, List.replicate_zero, List.nil_append, List.cons_append, List.append_nil, List.foldl_cons, List.foldl_nil, List.map_cons, List.map_nil, List.all_cons, List.all_nil, List.set_cons_zero, List.set_cons_succ, List.getD_cons_zero, List.getD_cons_succ, List.drop_zero, List.drop_succ_cons, List.take_succ_cons, List.take_zero, List.flatten_cons, List.flatten_nil, Bool.true_and, Bool.and_true, Bool.not_true, Bool.not_false, true_and, and_true, true_or, or_true, Option.bind_some, Option.map_some, decide_true, decide_false, beq_self_eq_true, true_implies, false_implies, implies_true, not_true_eq_false, not_false_eq_true, and_self, Bool.and_false, Bool.false_and, Nat.reduceLT, Nat.reduceLeDiff, List.reverse_cons, List.reverse_nil, Nat.zero_add, Nat.add_zero, Bool.false_eq_true, List.getElem?_cons_zero, liSt3, F2, G2, at_rat_After, Z02, Z01, liftG_len, liftG_take, mo, store_rowRat, lastN_len, hk2, g1, g2, g3]
          refine ⟨fun c3 => ⟨⟨by omega, by omega⟩, hl2, by omega, hl2, by omega, Z1t (by omega) (by decide), ?_⟩, fun c3 => absurd (by omega) c3⟩
          rw [Z2r (show k + 1 < ss.length by omega) (by omega)]
          exact Z0g.mk [0, 5] (k + 2) (by simp) (by simp) (by simp only [State.can, AV.can, AV.canL, HO.can, Z0z, idx, Z04, Z00, Heap.at, Nat.reduceBEq, ↓reduceIte, Nat.reduceEqDiff, Option.getD_some, Option.map_some, List.map_cons, List.map_nil, List.getD_cons_zero, List.getD_cons_succ, liSt3, liftG_succ, liftG_zero, List.map_append, List.nil_append, StepG.row, g4, hk2]) (by show k + 2 ≤ ss.length; omega) (by show ss.length - (k + 2) < ss.length - (k + 1); omega)
      · have g3 := hnW hkn hk2
        by_cases hk1 : (ss.getD k default).act.kind = 1
        · have g1 := hget hkn (.inl hk1)
          have hl1 := hll (.inl hk1)
          have g4 : whenG (stAct ss) k = ⟨((cntW (stAct ss) (ss.getD k default).act.loc k : Nat) : Int), 1⟩ := by
            unfold whenG
            rw [if_pos (show (stAct ss k).kind = 1 ∨ (stAct ss k).kind = 2 from .inl hk1)]
            show (⟨((cntW (stAct ss) (ss.getD k default).act.loc k + (if (stAct ss k).kind = 2 ∧ (stAct ss k).loc = (ss.getD k default).act.loc then 1 else 0) : Nat) : Int), 1⟩ : RatG) = _
            rw [if_neg (fun h : (stAct ss k).kind = 2 ∧ (stAct ss k).loc = (ss.getD k default).act.loc => hk2 h.1)]; rfl
          rcases k with _ | k
          · simp (maxSteps := 3000000) only [↓Z0h, ↓Z11, ↓Z1a, ↓Z03, ↓Z36, ↓Z35, nilG_d, nilG_r, ↓Z0p, ↓Z0f, ↓Z0c, ↓Z1h, ↓Z0a, ↓Z0o, ↓Z1q, ↓Z1p, ↓Z12, ↓Z19, ↓blockK_o, ↓Z2b, ↓Z0n, ↓Z1r, ↓retK_n, ↓loopV_n, ↓loopV_x, ↓loopV_r, ↓famK_n, ↓Z30, ↓famK_r, ↓Z0i, ↓Z0e, ↓Z1b, ↓Z0d, ↓Z22, Z25, Z05, Z0r, Z14, Z18, Z17, evN, Z13, Z0m, Z16, Z20, Z0l, Z0b, Z0k, stepK_no, Z1v, Z1n, Z1x, Z0v, evT, Opd.ev, Z04, Z00, Z15, Z21, Z1d, Z1i, Z39, Z0u, Z0w, knowO_c, Z0t, Z09, Z1g, LOp.isNew, State.prune, Z1e, Z0y, AV.leaf, Heap.at, Z06, Z0x, Z02, Z1z, Z0s, idx_I, idx_U, idx_Rat, idx_Loc, idx_Act, idx_Step, Z31, Z07, Z08, Z01, Z0j, Z2z, rowI, rowU, RatG.row, LocG.row, ActG.row, StepG.row, StampG.row, ActG.av, ActG.eta, RatG.eta, LocG.eta, beq_true, beq_false, Z2c, Z3j, set_rowU, app_rowI, app_rowU, rep_rowI, rep_rowU, Z2a, Z2g, Z29, Z2o, Z2f, Z2e, Z1w, List.length_set, List.length_replicate, Int.toNat_natCast, Int.reduceToNat, evLen, Z1s, Z38, Src.all, Src.len, Src.leaf, Src.leafN, evApart, aliveQ, joinV, Z26, Z27, Z2h, Z2i, Z2j, Z2k, Z2l, Z2m, mkVec, drows, evMk, List.length_map, Z1j, drop_mapF, List.take_length, List.take_left, List.length_append, Nat.le_add_right, ite_self, List.take_of_length_le, evSlice, intOr, intOpd, Option.isSome_none, Option.isSome_some, Nat.sub_zero, Z28, Z2v, Z2w, evUn, binT, binQ, chk, Z24, List.contains_cons, List.contains_nil, Bool.or_false, Bool.false_or, Bool.and_self, resQ, resV, resT, pickV, Z10, evTake, Z1o, fnOf, Z1l, isD, HO.drow, Z3h, evInt2, evEq, eqV, eqK, eqC1, buildQ, Z3k, Z37, Z34, lens_I, lensA_I, lens_U, lensA_U, Z2y, Z3c, lens_Loc, Z3b, lens_Act, Z3a, Z3d, Z2n, Z23, Z1y, List.mem_cons, List.not_mem_nil, or_false, forall_eq, putRow, Z2t, Z0q, RetS, RetF, RetD, AV.frz, AV.frzL, AV.freshP, AV.freshL, DV.less, scal_int, Z3e, scal_nil, Z2u, Z3f, Z1c, Z1k, Option.some.injEq, AV.tup.injEq, AV.agg.injEq, List.cons.injEq, DV.list.injEq, List.isEmpty_nil, Nat.le_refl, AV.d.injEq, DV.int.injEq, DV.bool.injEq, ↓reduceIte, Nat.reduceEqDiff, Nat.reduceAdd, Nat.reduceBEq, List.length_cons, List.length_nil, List.replicate_succ, List.replicate_zero, List.nil_append, List.cons_append, List.append_nil, List.foldl_cons, List.foldl_nil, List.map_cons, List.map_nil, List.all_cons, List.all_nil, List.set_cons_zero, List.set_cons_succ, List.getD_cons_zero, List.getD_cons_succ, List.drop_zero, List.drop_succ_cons, List.take_succ_cons, List.take_zero, List.flatten_cons, List.flatten_nil, Bool.true_and, Bool.and_true, Bool.not_true, Bool.not_false, true_and, and_true, true_or, or_true, Option.bind_some, Option.map_some, decide_true, decide_false, beq_self_eq_true, true_implies, false_implies, implies_true, not_true_eq_false, not_false_eq_true, and_self, Bool.and_false, Bool.false_and, Nat.reduceLT, Nat.reduceLeDiff, List.reverse_cons, List.reverse_nil, Nat.zero_add, Nat.add_zero, Bool.false_eq_true, List.getElem?_cons_zero, liSt3, F2, G2, at_rat_After, Z02, Z01, liftG_len, liftG_take, mo, store_rowRat, lastN_len, hk1, g1, Int.reduceEq]
            exact ⟨fun c3 => ⟨⟨by omega, by omega⟩, hl1, by omega, Z1t (by decide) (by decide), Z0g.mk [0, 3] (1) (by simp) (by simp) (by simp only [State.can, AV.can, AV.canL, HO.can, Z0z, idx, Z04, Z00, Heap.at, Nat.reduceBEq, ↓reduceIte, Nat.reduceEqDiff, Option.getD_some, Option.map_some, List.map_cons, List.map_nil, List.getD_cons_zero, List.getD_cons_succ, liSt3, liftG_succ, liftG_zero, List.map_append, List.nil_append, StepG.row, g3, g4, hk1]; rfl) (by show 1 ≤ ss.length; omega) (by show ss.length - (1) < ss.length; omega)⟩, fun c3 => absurd (by omega) c3⟩
          · simp (maxSteps := 3000000) only [↓Z0h, ↓Z11, ↓Z1a, ↓Z03, ↓Z36, ↓Z35, nilG_d, nilG_r, ↓Z0p, ↓Z0f, ↓Z0c, ↓Z1h, ↓Z0a, ↓Z0o, ↓Z1q, ↓Z1p, ↓Z12, ↓Z19, ↓blockK_o, ↓Z2b, ↓Z0n, ↓Z1r, ↓retK_n, ↓loopV_n, ↓loopV_x, ↓loopV_r, ↓famK_n, ↓Z30, ↓famK_r, ↓Z0i, ↓Z0e, ↓Z1b, ↓Z0d, ↓Z22, Z25, Z05, Z0r, Z14, Z18, Z17, evN, Z13, Z0m, Z16, Z20, Z0l, Z0b, Z0k, stepK_no, Z1v, Z1n, Z1x, Z0v, evT, Opd.ev, Z04, Z00, Z15, Z21, Z1d, Z1i, Z39, Z0u, Z0w, knowO_c, Z0t, Z09, Z1g, LOp.isNew, State.prune, Z1e, Z0y, AV.leaf, Heap.at, Z06, Z0x, Z02, Z1z, Z0s, idx_I, idx_U, idx_Rat, idx_Loc, idx_Act, idx_Step, Z31, Z07, Z08, Z01, Z0j, Z2z, rowI, rowU, RatG.row, LocG.row, ActG.row, StepG.row, StampG.row, ActG.av, ActG.eta, RatG.eta, LocG.eta, beq_true, beq_false, Z2c, Z3j, set_rowU, app_rowI, app_rowU, rep_rowI, rep_rowU, Z2a, Z2g, Z29, Z2o, Z2f, Z2e, Z1w, List.length_set, List.length_replicate, Int.toNat_natCast, Int.reduceToNat, evLen, Z1s, Z38, Src.all, Src.len, Src.leaf, Src.leafN, evApart, aliveQ, joinV, Z26, Z27, Z2h, Z2i, Z2j, Z2k, Z2l, Z2m, mkVec, drows, evMk, List.length_map, Z1j, drop_mapF, List.take_length, List.take_left, List.length_append, Nat.le_add_right, ite_self, List.take_of_length_le, evSlice, intOr, intOpd, Option.isSome_none, Option.isSome_some, Nat.sub_zero, Z28, Z2v, Z2w, evUn, binT, binQ, chk, Z24, List.contains_cons, List.contains_nil, Bool.or_false, Bool.false_or, Bool.and_self, resQ, resV, resT, pickV, Z10, evTake, Z1o, fnOf, Z1l, isD, HO.drow, Z3h, evInt2, evEq, eqV, eqK, eqC1, buildQ, Z3k, Z37, Z34, lens_I, lensA_I, lens_U, lensA_U, Z2y, Z3c, lens_Loc, Z3b, lens_Act, Z3a, Z3d, Z2n, Z23, Z1y, List.mem_cons, List.not_mem_nil, or_false, forall_eq, putRow, Z2t, Z0q, RetS, RetF, RetD, AV.frz, AV.frzL, AV.freshP, AV.freshL, DV.less, scal_int, Z3e, scal_nil, Z2u, Z3f, Z1c, Z1k, Option.some.injEq, AV.tup.injEq, AV.agg.injEq, List.cons.injEq, DV.list.injEq, List.isEmpty_nil, Nat.le_refl, AV.d.injEq, DV.int.injEq, DV.bool.injEq, ↓reduceIte, Nat.reduceEqDiff, Nat.reduceAdd, Nat.reduceBEq, List.length_cons, List.length_nil, List.replicate_succ, List.replicate_zero, List.nil_append, List.cons_append, List.append_nil, List.foldl_cons, List.foldl_nil, List.map_cons, List.map_nil, List.all_cons, List.all_nil, List.set_cons_zero, List.set_cons_succ, List.getD_cons_zero, List.getD_cons_succ, List.drop_zero, List.drop_succ_cons, List.take_succ_cons, List.take_zero, List.flatten_cons, List.flatten_nil, Bool.true_and, Bool.and_true, Bool.not_true, Bool.not_false, true_and, and_true, true_or, or_true, Option.bind_some, Option.map_some, decide_true, decide_false, beq_self_eq_true, true_implies, false_implies, implies_true, not_true_eq_false, not_false_eq_true, and_self, Bool.and_false, Bool.false_and, Nat.reduceLT, Nat.reduceLeDiff, List.reverse_cons, List.reverse_nil, Nat.zero_add, Nat.add_zero, Bool.false_eq_true, List.getElem?_cons_zero, liSt3, F2, G2, at_rat_After, Z02, Z01, liftG_len, liftG_take, mo, store_rowRat, lastN_len, hk1, g1, Int.reduceEq]
            refine ⟨fun c3 => ⟨⟨by omega, by omega⟩, hl1, by omega, Z1t (by omega) (by decide), ?_⟩, fun c3 => absurd (by omega) c3⟩
            rw [Z2r (show k + 1 < ss.length by omega) (by omega)]
            exact Z0g.mk [0, 4] (k + 2) (by simp) (by simp) (by simp only [State.can, AV.can, AV.canL, HO.can, Z0z, idx, Z04, Z00, Heap.at, Nat.reduceBEq, ↓reduceIte, Nat.reduceEqDiff, Option.getD_some, Option.map_some, List.map_cons, List.map_nil, List.getD_cons_zero, List.getD_cons_succ, liSt3, liftG_succ, liftG_zero, List.map_append, List.nil_append, StepG.row, g3, g4, hk1]) (by show k + 2 ≤ ss.length; omega) (by show ss.length - (k + 2) < ss.length - (k + 1); omega)
        · have g4 : whenG (stAct ss) k = ⟨0, 0⟩ := if_neg (show ¬ ((stAct ss k).kind = 1 ∨ (stAct ss k).kind = 2) from fun h => by rcases h with h | h; exact hk1 h; exact hk2 h)
          rcases k with _ | k
          · simp (maxSteps := 3000000) only [↓Z0h, ↓Z11, ↓Z1a, ↓Z03, ↓Z36, ↓Z35, nilG_d, nilG_r, ↓Z0p, ↓Z0f, ↓Z0c, ↓Z1h, ↓Z0a, ↓Z0o, ↓Z1q, ↓Z1p, ↓Z12, ↓Z19, ↓blockK_o, ↓Z2b, ↓Z0n, ↓Z1r, ↓retK_n, ↓loopV_n, ↓loopV_x, ↓loopV_r, ↓famK_n, ↓Z30, ↓famK_r, ↓Z0i, ↓Z0e, ↓Z1b, ↓Z0d, ↓Z22, Z25, Z05, Z0r, Z14, Z18, Z17, evN, Z13, Z0m, Z16, Z20, Z0l, Z0b, Z0k, stepK_no, Z1v, Z1n, Z1x, Z0v, evT, Opd.ev, Z04, Z00, Z15, Z21, Z1d, Z1i, Z39, Z0u, Z0w, knowO_c, Z0t, Z09, Z1g, LOp.isNew, State.prune, Z1e, Z0y, AV.leaf, Heap.at, Z06, Z0x, Z02, Z1z, Z0s, idx_I, idx_U, idx_Rat, idx_Loc, idx_Act, idx_Step, Z31, Z07, Z08, Z01, Z0j, Z2z, rowI, rowU, RatG.row, LocG.row, ActG.row, StepG.row, StampG.row, ActG.av, ActG.eta, RatG.eta, LocG.eta, beq_true, beq_false, Z2c, Z3j, set_rowU, app_rowI, app_rowU, rep_rowI, rep_rowU, Z2a, Z2g, Z29, Z2o, Z2f, Z2e, Z1w, List.length_set, List.length_replicate, Int.toNat_natCast, Int.reduceToNat, evLen, Z1s, Z38, Src.all, Src.len, Src.leaf, Src.leafN, evApart, aliveQ, joinV, Z26, Z27, Z2h, Z2i, Z2j, Z2k, Z2l, Z2m, mkVec, drows, evMk, List.length_map, Z1j, drop_mapF, List.take_length, List.take_left, List.length_append, Nat.le_add_right, ite_self, List.take_of_length_le, evSlice, intOr, intOpd, Option.isSome_none, Option.isSome_some, Nat.sub_zero, Z28, Z2v, Z2w, evUn, binT, binQ, chk, Z24, List.contains_cons, List.contains_nil, Bool.or_false, Bool.false_or, Bool.and_self, resQ, resV, resT, pickV, Z10, evTake, Z1o, fnOf, Z1l, isD, HO.drow, Z3h, evInt2, evEq, eqV, eqK, eqC1, buildQ, Z3k, Z37, Z34, lens_I, lensA_I, lens_U, lensA_U, Z2y, Z3c, lens_Loc, Z3b, lens_Act, Z3a, Z3d, Z2n, Z23, Z1y, List.mem_cons, List.not_mem_nil, or_false, forall_eq, putRow, Z2t, Z0q, RetS, RetF, RetD, AV.frz, AV.frzL, AV.freshP, AV.freshL, DV.less, scal_int, Z3e, scal_nil, Z2u, Z3f, Z1c, Z1k, Option.some.injEq, AV.tup.injEq, AV.agg.injEq, List.cons.injEq, DV.list.injEq, List.isEmpty_nil, Nat.le_refl, AV.d.injEq, DV.int.injEq, DV.bool.injEq, ↓reduceIte, Nat.reduceEqDiff, Nat.reduceAdd, Nat.reduceBEq, List.length_cons, List.length_nil, List.replicate_succ, List.replicate_zero, List.nil_append, List.cons_append, List.append_nil, List.foldl_cons, List.foldl_nil, List.map_cons, List.map_nil, List.all_cons, List.all_nil, List.set_cons_zero, List.set_cons_succ, List.getD_cons_zero, List.getD_cons_succ, List.drop_zero, List.drop_succ_cons, List.take_succ_cons, List.take_zero, List.flatten_cons, List.flatten_nil, Bool.true_and, Bool.and_true, Bool.not_true, Bool.not_false, true_and, and_true, true_or, or_true, Option.bind_some, Option.map_some, decide_true, decide_false, beq_self_eq_true, true_implies, false_implies, implies_true, not_true_eq_false, not_false_eq_true, and_self, Bool.and_false, Bool.false_and, Nat.reduceLT, Nat.reduceLeDiff, List.reverse_cons, List.reverse_nil, Nat.zero_add, Nat.add_zero, Bool.false_eq_true, List.getElem?_cons_zero, liSt3, F2, G2, at_rat_After, Z02, Z01, liftG_len, liftG_take, mo, store_rowRat, lastN_len, hk1, hk2]
            exact ⟨fun c3 => ⟨⟨by omega, by omega⟩, Z1t (by decide) (by decide), Z0g.mk [0, 3] (1) (by simp) (by simp) (by simp only [State.can, AV.can, AV.canL, HO.can, Z0z, idx, Z04, Z00, Heap.at, Nat.reduceBEq, ↓reduceIte, Nat.reduceEqDiff, Option.getD_some, Option.map_some, List.map_cons, List.map_nil, List.getD_cons_zero, List.getD_cons_succ, liSt3, liftG_succ, liftG_zero, List.map_append, List.nil_append, StepG.row, g3, g4]; rfl) (by show 1 ≤ ss.length; omega) (by show ss.length - (1) < ss.length; omega)⟩, fun c3 => absurd (by omega) c3⟩
          · simp (maxSteps := 3000000) only [↓Z0h, ↓Z11, ↓Z1a, ↓Z03, ↓Z36, ↓Z35, nilG_d, nilG_r, ↓Z0p, ↓Z0f, ↓Z0c, ↓Z1h, ↓Z0a, ↓Z0o, ↓Z1q, ↓Z1p, ↓Z12, ↓Z19, ↓blockK_o, ↓Z2b, ↓Z0n, ↓Z1r, ↓retK_n, ↓loopV_n, ↓loopV_x, ↓loopV_r, ↓famK_n, ↓Z30, ↓famK_r, ↓Z0i, ↓Z0e, ↓Z1b, ↓Z0d, ↓Z22, Z25, Z05, Z0r, Z14, Z18, Z17, evN, Z13, Z0m, Z16, Z20, Z0l, Z0b, Z0k, stepK_no, Z1v, Z1n, Z1x, Z0v, evT, Opd.ev, Z04, Z00, Z15, Z21, Z1d, Z1i, Z39, Z0u, Z0w, knowO_c, Z0t, Z09, Z1g, LOp.isNew, State.prune, Z1e, Z0y, AV.leaf, Heap.at, Z06, Z0x, Z02, Z1z, Z0s, idx_I, idx_U, idx_Rat, idx_Loc, idx_Act, idx_Step, Z31, Z07, Z08, Z01, Z0j, Z2z, rowI, rowU, RatG.row, LocG.row, ActG.row, StepG.row, StampG.row, ActG.av, ActG.eta, RatG.eta, LocG.eta, beq_true, beq_false, Z2c, Z3j, set_rowU, app_rowI, app_rowU, rep_rowI, rep_rowU, Z2a, Z2g, Z29, Z2o, Z2f, Z2e, Z1w, List.length_set, List.length_replicate, Int.toNat_natCast, Int.reduceToNat, evLen, Z1s, Z38, Src.all, Src.len, Src.leaf, Src.leafN, evApart, aliveQ, joinV, Z26, Z27, Z2h, Z2i, Z2j, Z2k, Z2l, Z2m, mkVec, drows, evMk, List.length_map, Z1j, drop_mapF, List.take_length, List.take_left, List.length_append, Nat.le_add_right, ite_self, List.take_of_length_le, evSlice, intOr, intOpd, Option.isSome_none, Option.isSome_some, Nat.sub_zero, Z28, Z2v, Z2w, evUn, binT, binQ, chk, Z24, List.contains_cons, List.contains_nil, Bool.or_false, Bool.false_or, Bool.and_self, resQ, resV, resT, pickV, Z10, evTake, Z1o, fnOf, Z1l, isD, HO.drow, Z3h, evInt2, evEq, eqV, eqK, eqC1, buildQ, Z3k, Z37, Z34, lens_I, lensA_I, lens_U, lensA_U, Z2y, Z3c, lens_Loc, Z3b, lens_Act, Z3a, Z3d, Z2n, Z23, Z1y, List.mem_cons, List.not_mem_nil, or_false, forall_eq, putRow, Z2t, Z0q, RetS, RetF, RetD, AV.frz, AV.frzL, AV.freshP, AV.freshL, DV.less, scal_int, Z3e, scal_nil, Z2u, Z3f, Z1c, Z1k, Option.some.injEq, AV.tup.injEq, AV.agg.injEq, List.cons.injEq, DV.list.injEq, List.isEmpty_nil, Nat.le_refl, AV.d.injEq, DV.int.injEq, DV.bool.injEq, ↓reduceIte, Nat.reduceEqDiff, Nat.reduceAdd, Nat.reduceBEq, List.length_cons, List.length_nil, List.replicate_succ, List.replicate_zero, List.nil_append, List.cons_append, List.append_nil, List.foldl_cons, List.foldl_nil, List.map_cons, List.map_nil, List.all_cons, List.all_nil, List.set_cons_zero, List.set_cons_succ, List.getD_cons_zero, List.getD_cons_succ, List.drop_zero, List.drop_succ_cons, List.take_succ_cons, List.take_zero, List.flatten_cons, List.flatten_nil, Bool.true_and, Bool.and_true, Bool.not_true, Bool.not_false, true_and, and_true, true_or, or_true, Option.bind_some, Option.map_some, decide_true, decide_false, beq_self_eq_true, true_implies, false_implies, implies_true, not_true_eq_false, not_false_eq_true, and_self, Bool.and_false, Bool.false_and, Nat.reduceLT, Nat.reduceLeDiff, List.reverse_cons, List.reverse_nil, Nat.zero_add, Nat.add_zero, Bool.false_eq_true, List.getElem?_cons_zero, liSt3, F2, G2, at_rat_After, Z02, Z01, liftG_len, liftG_take, mo, store_rowRat, lastN_len, hk1, hk2]
            refine ⟨fun c3 => ⟨⟨by omega, by omega⟩, Z1t (by omega) (by decide), ?_⟩, fun c3 => absurd (by omega) c3⟩
            rw [Z2r (show k + 1 < ss.length by omega) (by omega)]
            exact Z0g.mk [0, 4] (k + 2) (by simp) (by simp) (by simp only [State.can, AV.can, AV.canL, HO.can, Z0z, idx, Z04, Z00, Heap.at, Nat.reduceBEq, ↓reduceIte, Nat.reduceEqDiff, Option.getD_some, Option.map_some, List.map_cons, List.map_nil, List.getD_cons_zero, List.getD_cons_succ, liSt3, liftG_succ, liftG_zero, List.map_append, List.nil_append, StepG.row, g3, g4]) (by show k + 2 ≤ ss.length; omega) (by show ss.length - (k + 2) < ss.length - (k + 1); omega)
    · have hke : k = ss.length := by omega
      have hd := hend hke
      rcases k with _ | k
      · simp (maxSteps := 3000000) only [↓Z0h, ↓Z11, ↓Z1a, ↓Z03, ↓Z36, ↓Z35, nilG_d, nilG_r, ↓Z0p, ↓Z0f, ↓Z0c, ↓Z1h, ↓Z0a, ↓Z0o, ↓Z1q, ↓Z1p, ↓Z12, ↓Z19, ↓blockK_o, ↓Z2b, ↓Z0n, ↓Z1r, ↓retK_n, ↓loopV_n, ↓loopV_x, ↓loopV_r, ↓famK_n, ↓Z30, ↓famK_r, ↓Z0i, ↓Z0e, ↓Z1b, ↓Z0d, ↓Z22, Z25, Z05, Z0r, Z14, Z18, Z17, evN, Z13, Z0m, Z16, Z20, Z0l, Z0b, Z0k, stepK_no, Z1v, Z1n, Z1x, Z0v, evT, Opd.ev, Z04, Z00, Z15, Z21, Z1d, Z1i, Z39, Z0u, Z0w, knowO_c, Z0t, Z09, Z1g, LOp.isNew, State.prune, Z1e, Z0y, AV.leaf, Heap.at, Z06, Z0x, Z02, Z1z, Z0s, idx_I, idx_U, idx_Rat, idx_Loc, idx_Act, idx_Step, Z31, Z07, Z08, Z01, Z0j, Z2z, rowI, rowU, RatG.row, LocG.row, ActG.row, StepG.row, StampG.row, ActG.av, ActG.eta, RatG.eta, LocG.eta, beq_true, beq_false, Z2c, Z3j, set_rowU, app_rowI, app_rowU, rep_rowI, rep_rowU, Z2a, Z2g, Z29, Z2o, Z2f, Z2e, Z1w, List.length_set, List.length_replicate, Int.toNat_natCast, Int.reduceToNat, evLen, Z1s, Z38, Src.all, Src.len, Src.leaf, Src.leafN, evApart, aliveQ, joinV, Z26, Z27, Z2h, Z2i, Z2j, Z2k, Z2l, Z2m, mkVec, drows, evMk, List.length_map, Z1j, drop_mapF, List.take_length, List.take_left, List.length_append, Nat.le_add_right, ite_self, List.take_of_length_le, evSlice, intOr, intOpd, Option.isSome_none, Option.isSome_some, Nat.sub_zero, Z28, Z2v, Z2w, evUn, binT, binQ, chk, Z24, List.contains_cons, List.contains_nil, Bool.or_false, Bool.false_or, Bool.and_self, resQ, resV, resT, pickV, Z10, evTake, Z1o, fnOf, Z1l, isD, HO.drow, Z3h, evInt2, evEq, eqV, eqK, eqC1, buildQ, Z3k, Z37, Z34, lens_I, lensA_I, lens_U, lensA_U, Z2y, Z3c, lens_Loc, Z3b, lens_Act, Z3a, Z3d, Z2n, Z23, Z1y, List.mem_cons, List.not_mem_nil, or_false, forall_eq, putRow, Z2t, Z0q, RetS, RetF, RetD, AV.frz, AV.frzL, AV.freshP, AV.freshL, DV.less, scal_int, Z3e, scal_nil, Z2u, Z3f, Z1c, Z1k, Option.some.injEq, AV.tup.injEq, AV.agg.injEq, List.cons.injEq, DV.list.injEq, List.isEmpty_nil, Nat.le_refl, AV.d.injEq, DV.int.injEq, DV.bool.injEq, ↓reduceIte, Nat.reduceEqDiff, Nat.reduceAdd, Nat.reduceBEq, List.length_cons, List.length_nil, List.replicate_succ, List.replicate_zero, List.nil_append, List.cons_append, List.append_nil, List.foldl_cons, List.foldl_nil, List.map_cons, List.map_nil, List.all_cons, List.all_nil, List.set_cons_zero, List.set_cons_succ, List.getD_cons_zero, List.getD_cons_succ, List.drop_zero, List.drop_succ_cons, List.take_succ_cons, List.take_zero, List.flatten_cons, List.flatten_nil, Bool.true_and, Bool.and_true, Bool.not_true, Bool.not_false, true_and, and_true, true_or, or_true, Option.bind_some, Option.map_some, decide_true, decide_false, beq_self_eq_true, true_implies, false_implies, implies_true, not_true_eq_false, not_false_eq_true, and_self, Bool.and_false, Bool.false_and, Nat.reduceLT, Nat.reduceLeDiff, List.reverse_cons, List.reverse_nil, Nat.zero_add, Nat.add_zero, Bool.false_eq_true, List.getElem?_cons_zero, liSt3, F2, G2, at_rat_After, Z02, Z01, liftG_len, liftG_take, mo, store_rowRat, lastN_len]
        exact ⟨fun c => absurd c (by omega), fun _ => hd⟩
      · simp (maxSteps := 3000000) only [↓Z0h, ↓Z11, ↓Z1a, ↓Z03, ↓Z36, ↓Z35, nilG_d, nilG_r, ↓Z0p, ↓Z0f, ↓Z0c, ↓Z1h, ↓Z0a, ↓Z0o, ↓Z1q, ↓Z1p, ↓Z12, ↓Z19, ↓blockK_o, ↓Z2b, ↓Z0n, ↓Z1r, ↓retK_n, ↓loopV_n, ↓loopV_x, ↓loopV_r, ↓famK_n, ↓Z30, ↓famK_r, ↓Z0i, ↓Z0e, ↓Z1b, ↓Z0d, ↓Z22, Z25, Z05, Z0r, Z14, Z18, Z17, evN, Z13, Z0m, Z16, Z20, Z0l, Z0b, Z0k, stepK_no, Z1v, Z1n, Z1x, Z0v, evT, Opd.ev, Z04, Z00, Z15, Z21, Z1d, Z1i, Z39, Z0u, Z0w, knowO_c, Z0t, Z09, Z1g, LOp.isNew, State.prune, Z1e, Z0y, AV.leaf, Heap.at, Z06, Z0x, Z02, Z1z, Z0s, idx_I, idx_U, idx_Rat, idx_Loc, idx_Act, idx_Step, Z31, Z07, Z08, Z01, Z0j, Z2z, rowI, rowU, RatG.row, LocG.row, ActG.row, StepG.row, StampG.row, ActG.av, ActG.eta, RatG.eta, LocG.eta, beq_true, beq_false, Z2c, Z3j, set_rowU, app_rowI, app_rowU, rep_rowI, rep_rowU, Z2a, Z2g, Z29, Z2o, Z2f, Z2e, Z1w, List.length_set, List.length_replicate, Int.toNat_natCast, Int.reduceToNat, evLen, Z1s, Z38, Src.all, Src.len, Src.leaf, Src.leafN, evApart, aliveQ, joinV, Z26, Z27, Z2h, Z2i, Z2j, Z2k, Z2l, Z2m, mkVec, drows, evMk, List.length_map, Z1j, drop_mapF, List.take_length, List.take_left, List.length_append, Nat.le_add_right, ite_self, List.take_of_length_le, evSlice, intOr, intOpd, Option.isSome_none, Option.isSome_some, Nat.sub_zero, Z28, Z2v, Z2w, evUn, binT, binQ, chk, Z24, List.contains_cons, List.contains_nil, Bool.or_false, Bool.false_or, Bool.and_self, resQ, resV, resT, pickV, Z10, evTake, Z1o, fnOf, Z1l, isD, HO.drow, Z3h, evInt2, evEq, eqV, eqK, eqC1, buildQ, Z3k, Z37, Z34, lens_I, lensA_I, lens_U, lensA_U, Z2y, Z3c, lens_Loc, Z3b, lens_Act, Z3a, Z3d, Z2n, Z23, Z1y, List.mem_cons, List.not_mem_nil, or_false, forall_eq, putRow, Z2t, Z0q, RetS, RetF, RetD, AV.frz, AV.frzL, AV.freshP, AV.freshL, DV.less, scal_int, Z3e, scal_nil, Z2u, Z3f, Z1c, Z1k, Option.some.injEq, AV.tup.injEq, AV.agg.injEq, List.cons.injEq, DV.list.injEq, List.isEmpty_nil, Nat.le_refl, AV.d.injEq, DV.int.injEq, DV.bool.injEq, ↓reduceIte, Nat.reduceEqDiff, Nat.reduceAdd, Nat.reduceBEq, List.length_cons, List.length_nil, List.replicate_succ, List.replicate_zero, List.nil_append, List.cons_append, List.append_nil, List.foldl_cons, List.foldl_nil, List.map_cons, List.map_nil, List.all_cons, List.all_nil, List.set_cons_zero, List.set_cons_succ, List.getD_cons_zero, List.getD_cons_succ, List.drop_zero, List.drop_succ_cons, List.take_succ_cons, List.take_zero, List.flatten_cons, List.flatten_nil, Bool.true_and, Bool.and_true, Bool.not_true, Bool.not_false, true_and, and_true, true_or, or_true, Option.bind_some, Option.map_some, decide_true, decide_false, beq_self_eq_true, true_implies, false_implies, implies_true, not_true_eq_false, not_false_eq_true, and_self, Bool.and_false, Bool.false_and, Nat.reduceLT, Nat.reduceLeDiff, List.reverse_cons, List.reverse_nil, Nat.zero_add, Nat.add_zero, Bool.false_eq_true, List.getElem?_cons_zero, liSt3, F2, G2, at_rat_After, Z02, Z01, liftG_len, liftG_take, mo, store_rowRat, lastN_len]
        exact ⟨fun c => absurd c (by omega), fun _ => hd⟩
end Go.Ago

/- A memory in which what was written last is what all see. Conditions: none. -/
set_option maxRecDepth 100000
set_option linter.unusedSimpArgs false
set_option linter.unusedVariables false
namespace Go.Ago
theorem least_nat {n : Nat} : leastQ ⟨(n : Int), 1⟩ = ⟨n, 1⟩ := by
  unfold leastQ Z2q
  split
  · have : gcdI (n : Int) 1 = 1 := by unfold gcdI; simp
    rw [this]; simp
  · rfl
theorem right_nat {n : Nat} (h : n ≤ 1000) : Z33 ⟨(n : Int), 1⟩ = true := by rw [rightQ_iff]; simp; omega
theorem cmp_nat {a b : Nat} (h1 : a ≤ 1000) (h2 : b ≤ 1000) : cmpQ' ⟨(a : Int), 1⟩ ⟨(b : Int), 1⟩ = sgn ((a : Int) - b) := by
  rw [cmpQ_eq (right_nat h1) (right_nat h2)]; simp
theorem cmp_nat_lt {a b : Nat} (h1 : a ≤ 1000) (h2 : b ≤ 1000) (h : a < b) : cmpQ' ⟨(a : Int), 1⟩ ⟨(b : Int), 1⟩ < 0 := by
  rw [cmp_nat h1 h2]; unfold sgn; rw [if_pos (by omega)]; decide
theorem cmp_nat_le {a b : Nat} (h1 : a ≤ 1000) (h2 : b ≤ 1000) (h : a ≤ b) : cmpQ' ⟨(a : Int), 1⟩ ⟨(b : Int), 1⟩ ≤ 0 := by
  rw [cmp_nat h1 h2]; unfold sgn
  split
  · decide
  · rw [if_neg (by omega)]; decide
/-! ### The numbers, act by act -/
def vAt (l : List LocG) (as : List ActG) (i : Nat) : List Int := (as.take i).foldl seqDo (l.map LocG.init)
theorem vAt_succ {l : List LocG} {as : List ActG} {i : Nat} (h : i < as.length) : vAt l as (i + 1) = seqDo (vAt l as i) (as.getD i default) := by
  unfold vAt
  rw [List.take_add_one, List.getElem?_eq_getElem h, Z2x h, List.foldl_append]; rfl
theorem foldDo_len : ∀ (as : List ActG) (v : List Int), (as.foldl seqDo v).length = v.length := by
  intro as
  induction as with
  | nil => intro v; rfl
  | cons a as ih => intro v; simp only [List.foldl_cons]; rw [ih, seqDo_len]
theorem vAt_len {l : List LocG} {as : List ActG} {i : Nat} : (vAt l as i).length = l.length := by unfold vAt; rw [foldDo_len, List.length_map]
theorem seqGo_all {l : List LocG} : ∀ (as : List ActG) (v : List Int), (seqGo l v as).2.2 = 0 → ∀ i, i < as.length → seqErr l ((as.take i).foldl seqDo v) (as.getD i default) = 0 := by
  intro as
  induction as with
  | nil => intro v _ i h; cases h
  | cons a as ih =>
    intro v h i hi
    simp only [seqGo] at h
    split at h
    · rename_i e
      cases i with
      | zero => exact e
      | succ i => exact ih _ h i (by simpa using hi)
    · rename_i e; exact absurd h e
/-! ### What is latest -/
structure Late (l : List LocG) (as : Nat → ActG) (v : List Int) (m : Mem) (i : Nat) : Prop where
  locs : m.locs = l
  thr : m.fronts.length = 3
  past : ∀ x, x < l.length → (l.getD x default).atom = false → ∃ P, paAt m x = P ++ [⟨⟨(cntW as x i : Nat), 1⟩, v.getD x 0⟩]
  fr : ∀ u x, u < 3 → x < l.length → (l.getD x default).atom = false → cmpQ' (frAt m u x) ⟨(cntW as x i : Nat), 1⟩ ≤ 0
  mar : ∀ y x, y < l.length → (l.getD y default).atom = true → x < l.length → (l.getD x default).atom = false → cmpQ' (mkAt m y x) ⟨(cntW as x i : Nat), 1⟩ ≤ 0
  vals : ∀ x, x < l.length → (l.getD x default).atom = true → m.vals.getD x 0 = v.getD x 0
theorem late_new {l : List LocG} {as : Nat → ActG} (h : newErr l 3 = 0) : Late l as (l.map LocG.init) (newM l 3).plain 0 := by
  have hP := like_new h
  have hv : ∀ x, x < l.length → (l.map LocG.init).getD x 0 = (l.getD x default).init := fun x hx => by
    rw [Z2x (by simpa using hx), List.getElem_map, Z2x hx]
  have z : ∀ x, (⟨((cntW as x 0 : Nat) : Int), 1⟩ : RatG) = ⟨0, 1⟩ := fun _ => rfl
  refine ⟨hP.locs, by have := hP.thr; omega, fun x hx ha => ⟨[], ?_⟩, fun u x hu hx ha => ?_, fun y x hy hya hx ha => ?_, fun x hx ha => ?_⟩
  · rw [new_past h hx ha, hv x hx]; rfl
  · rw [new_front h (by have := hP.thr; omega) hx, z, cmpQ_self]; omega
  · rw [hP.marks y x hy hya hx, z]
    show cmpQ' ⟨0, 1⟩ ⟨0, 1⟩ ≤ 0
    rw [cmpQ_self]; omega
  · rw [hP.vals x hx ha, hv x hx]
    show (l.getD (x : Int).toNat default).init = _
    rw [Int.toNat_natCast]
theorem kinds_of {a : ActG} {l : List LocG} (h : a.right l = true) : 1 ≤ a.kind ∧ a.kind ≤ 6 := by
  unfold ActG.right at h
  split at h
  · omega
  · simp only [Bool.and_eq_true, decide_eq_true_eq] at h
    omega
theorem cntW_succ {as : Nat → ActG} {x : Int} {k : Nat} : cntW as x (k + 1) = cntW as x k + (if (as k).kind = 2 ∧ (as k).loc = x then 1 else 0) := rfl
theorem late_do {l : List LocG} {as : Nat → ActG} {v : List Int} {m : Mem} {i b : Nat} {st : StepG} (hL : Late l as v m i) (hg : m.Good b) (hi : i ≤ 500) (ha : st.act = as i) (ht0 : 0 ≤ st.thread) (ht1 : st.thread < 3) (hw : st.when = whenG as i) (he : seqErr l v st.act = 0) (hv : v.length = l.length) :
    doErr m st = 0 ∧ Late l as (seqDo v st.act) (doMem m st) (i + 1) := by
  have hright := seqErr_right he
  have hold : st.act.isR = true → v.getD st.act.loc.toNat 0 = st.act.old := fun h => by
    unfold seqErr at he
    rw [if_pos hv, if_pos hright] at he
    by_cases e : v.getD st.act.loc.toNat 0 = st.act.old
    · exact e
    · rw [h, decide_eq_false e] at he; cases he
  have hc : ∀ x k, k ≤ 501 → cntW as x k ≤ 1000 := fun x k hk => Nat.le_trans cntW_le (by omega)
  have hk := kinds_of hright
  have hwp : st.act.kind = 1 ∨ st.act.kind = 2 → st.when = ⟨((cntW as st.act.loc (i + 1) : Nat) : Int), 1⟩ := fun h => by
    rw [hw]; unfold whenG; rw [← ha, if_pos h]
  have hwn : ¬ (st.act.kind = 1 ∨ st.act.kind = 2) → st.when = ⟨0, 0⟩ := fun h => by rw [hw]; unfold whenG; rw [← ha, if_neg h]
  have hloc : st.act.kind ≠ 6 → 0 ≤ st.act.loc ∧ st.act.loc < l.length := fun h => right_loc hright h
  have hu : st.thread.toNat < m.fronts.length := by rw [hL.thr]; omega
  have hgood : goodQ m st = true := by
    rw [good_iff, hL.locs, hL.thr]
    refine ⟨ht0, ht1, hright, fun h => ?_, fun h => hwn (by rw [← isPl_iff, h]; decide)⟩
    rw [hwp (isPl_iff.1 h)]
    exact right_nat (hc _ _ (by omega))
  have hplx : isPl st.act.kind = true → st.act.loc.toNat < l.length ∧ (l.getD st.act.loc.toNat default).atom = false := fun h => by
    have h2 := isPl_iff.1 h
    have := hloc (by omega)
    exact ⟨by omega, right_plain h hright⟩
  have hatx : isAt st.act.kind = true → st.act.loc.toNat < l.length ∧ (l.getD st.act.loc.toNat default).atom = true := fun h => by
    have h2 := isAt_iff.1 h
    have := hloc (by omega)
    refine ⟨by omega, ?_⟩
    obtain ⟨t, ⟨k, o, q, v⟩, w⟩ := st
    exact right_atom h hright
  have hlz : ((st.act.loc.toNat : Nat) : Int) = st.act.loc ∨ st.act.kind = 6 := by
    by_cases h : st.act.kind = 6
    · exact .inr h
    · have := hloc h; exact .inl (by omega)
  have hcn : st.act.kind = 1 → cntW as st.act.loc (i + 1) = cntW as st.act.loc i := fun h => by rw [cntW_succ, ← ha, if_neg (by omega)]; rfl
  have hcw : st.act.kind = 2 → cntW as st.act.loc (i + 1) = cntW as st.act.loc i + 1 := fun h => by rw [cntW_succ, ← ha, if_pos ⟨h, rfl⟩]
  have hdo : doErr m st = 0 := by
    unfold doErr
    rw [if_neg (by rw [hgood]; decide)]
    by_cases k1 : st.act.kind = 1
    · obtain ⟨hx, hax⟩ := hplx (by rw [k1]; rfl)
      obtain ⟨P, hP⟩ := hL.past _ hx hax
      have hlz' : ((st.act.loc.toNat : Nat) : Int) = st.act.loc := by rcases hlz with h | h; exact h; omega
      rw [hlz'] at hP
      have hr := pa_rising hg (x := st.act.loc.toNat) (by rw [hL.locs]; exact hx)
      have hwv := hwp (.inl k1)
      rw [hcn k1] at hwv
      have hr2 := hr
      rw [hP] at hr2
      have hb := bsHas_of hr2 (w := st.when) (by rw [hwv]; exact right_nat (hc _ _ (by omega))) (k := P.length) (by simp) (by rw [getD_last, hwv, cmpQ_self])
      have hpo : pastOf m st = P ++ [⟨⟨((cntW as st.act.loc i : Nat) : Int), 1⟩, v.getD st.act.loc.toNat 0⟩] := hP
      have hf := hL.fr st.thread.toNat _ (by omega) hx hax
      rw [hlz', ← hwv] at hf
      have hf2 : ¬ cmpQ' st.when ((frontOf m st).getD st.act.loc.toNat default) < 0 := by
        have : (frontOf m st).getD st.act.loc.toNat default = frAt m st.thread.toNat st.act.loc.toNat := rfl
        rw [this, cmpQ_anti]; omega
      rw [if_pos k1, hpo, hb.1, if_neg (by decide), if_neg hf2, hb.2, getD_last, if_neg]
      intro h
      exact h (hold (by unfold ActG.isR; rw [k1]; rfl))
    · rw [if_neg k1]
      by_cases k2 : st.act.kind = 2
      · obtain ⟨hx, hax⟩ := hplx (by rw [k2]; rfl)
        obtain ⟨P, hP⟩ := hL.past _ hx hax
        have hlz' : ((st.act.loc.toNat : Nat) : Int) = st.act.loc := by rcases hlz with h | h; exact h; omega
        rw [hlz'] at hP
        have hr := pa_rising hg (x := st.act.loc.toNat) (by rw [hL.locs]; exact hx)
        have hwv := hwp (.inr k2)
        rw [hcw k2] at hwv
        have hwr : Z33 st.when = true := by rw [hwv]; exact right_nat (by have := hc st.act.loc (i + 1) (by omega); rw [hcw k2] at this; exact this)
        have hlt : cmpQ' ⟨((cntW as st.act.loc i : Nat) : Int), 1⟩ st.when < 0 := by
          rw [hwv]; exact cmp_nat_lt (hc _ _ (by omega)) (by have := hc st.act.loc (i + 1) (by omega); rw [hcw k2] at this; exact this) (by omega)
        have hall := top_lt hP hr hwr hlt
        have hnb : bsHas (pastOf m st) st.when = false := by
          cases h : bsHas (pastOf m st) st.when with
          | false => rfl
          | true =>
            obtain ⟨q1, q2⟩ := bsHas_true h
            have := hall _ q1
            have e : (pastOf m st) = paAt m st.act.loc.toNat := rfl
            rw [e] at q2 this
            rw [q2] at this; omega
        have hf := hL.fr st.thread.toNat _ (by omega) hx hax
        rw [hlz'] at hf
        have hf2 := cmpQ_le_lt (fr_right hg hu (by rw [hL.locs]; exact hx)) (right_nat (hc _ _ (by omega))) hwr hf hlt
        have hf3 : ¬ cmpQ' st.when ((frontOf m st).getD st.act.loc.toNat default) ≤ 0 := by
          have : (frontOf m st).getD st.act.loc.toNat default = frAt m st.thread.toNat st.act.loc.toNat := rfl
          rw [this, cmpQ_anti]; omega
        rw [if_pos k2, hnb, if_neg (by decide), if_neg hf3]
      · rw [if_neg k2, if_neg]
        rintro ⟨h1, h2, h3⟩
        obtain ⟨hx, hax⟩ := hatx h1
        rw [hL.vals _ hx hax] at h3
        refine h3 (hold ?_)
        have := isAt_iff.1 h1
        unfold ActG.isR
        have : st.act.kind = 3 ∨ st.act.kind = 5 := by omega
        rcases this with h | h <;> rw [h] <;> rfl
  refine ⟨hdo, ?_⟩
  have hlocs := doMem_locs m st
  have hxm : ∀ {x}, x < l.length → x < m.locs.length := fun h => by rw [hL.locs]; exact h
  -- what the counts become
  have cge : ∀ x, cntW as x i ≤ cntW as x (i + 1) := fun x => by rw [cntW_succ]; omega
  have up : ∀ {q : RatG} {x : Int}, Z33 q = true → cmpQ' q ⟨((cntW as x i : Nat) : Int), 1⟩ ≤ 0 → cmpQ' q ⟨((cntW as x (i + 1) : Nat) : Int), 1⟩ ≤ 0 := fun {q x} hq h =>
    cmpQ_trans hq (right_nat (hc _ _ (by omega))) (right_nat (hc _ _ (by omega))) h (cmp_nat_le (hc _ _ (by omega)) (hc _ _ (by omega)) (cge x))
  have hmax : ∀ {y u x : Nat}, y < l.length → (l.getD y default).atom = true → u < 3 → x < l.length → (l.getD x default).atom = false → cmpQ' (ratMaxG (frAt m u x) (mkAt m y x)) ⟨((cntW as x i : Nat) : Int), 1⟩ ≤ 0 := fun {y u x} hy hya hu hx hax => by
    rw [ratMaxG_eq]
    split
    · exact hL.mar y x hy hya hx hax
    · exact hL.fr u x hu hx hax
  have hmr : ∀ {y u x : Nat}, y < l.length → (l.getD y default).atom = true → u < 3 → x < l.length → Z33 (ratMaxG (frAt m u x) (mkAt m y x)) = true := fun {y u x} hy hya hu hx =>
    ratMaxG_right (fr_right hg (by rw [hL.thr]; exact hu) (hxm hx)) (mk_right hg (hxm hy) (by rw [hL.locs]; exact hya) (hxm hx))
  refine ⟨by rw [hlocs]; exact hL.locs, by rw [doMem_fronts]; exact hL.thr, fun x hx hax => ?_, fun u x hu3 hx hax => ?_, fun y x hy hya hx hax => ?_, fun x hx hax => ?_⟩
  · obtain ⟨P, hP⟩ := hL.past x hx hax
    by_cases h : st.act.kind = 2 ∧ st.act.loc.toNat = x
    · obtain ⟨k2, hxe⟩ := h
      have hl0 := hloc (by omega)
      have hlz' : (x : Int) = st.act.loc := by omega
      have hr := pa_rising hg (x := x) (hxm hx)
      have hwv := hwp (.inr k2)
      rw [hcw k2] at hwv
      have hc2 : cntW as st.act.loc i + 1 ≤ 1000 := by have := hc st.act.loc (i + 1) (by omega); rw [hcw k2] at this; exact this
      have hwr : Z33 st.when = true := by rw [hwv]; exact right_nat hc2
      have hlt : cmpQ' ⟨((cntW as x i : Nat) : Int), 1⟩ st.when < 0 := by
        rw [hwv, hlz']; exact cmp_nat_lt (hc _ _ (by omega)) hc2 (by omega)
      refine ⟨P ++ [⟨⟨((cntW as x i : Nat) : Int), 1⟩, v.getD x 0⟩], ?_⟩
      rw [pa_write hg hdo k2 hxe, bs_end hr hwr (top_lt hP hr hwr hlt), insG_end, hP]
      congr 1
      rw [hlz', hcw k2, hwv, least_nat]
      have : (seqDo v st.act).getD x 0 = st.act.new := by
        unfold seqDo
        rw [if_pos (by unfold ActG.isW; rw [k2]; rfl), hxe, getD_setQ, if_pos ⟨rfl, by rw [hv]; exact hx⟩]
      rw [this]
    · refine ⟨P, ?_⟩
      have e1 : cntW as x (i + 1) = cntW as x i := by
        rw [cntW_succ, ← ha, if_neg]; rfl
        rintro ⟨h1, h2⟩
        exact h ⟨h1, by omega⟩
      have e2 : (seqDo v st.act).getD x 0 = v.getD x 0 := by
        unfold seqDo
        split
        · rename_i hwk
          rw [getD_setQ, if_neg]
          rintro ⟨h1, h2⟩
          by_cases k2 : st.act.kind = 2
          · exact h ⟨k2, h1⟩
          · have hat : isAt st.act.kind = true := by
              unfold ActG.isW at hwk; rw [isAt_iff]; simp at hwk; omega
            have := (hatx hat).2
            rw [h1, hax] at this; cases this
        · rfl
      rw [pa_same h, hP, e1, e2]
  · rw [fr_do hg hdo (by rw [hL.thr]; exact hu3) (hxm hx)]
    split
    · rename_i h
      have hl0 := hloc (by omega)
      have hlz' : (x : Int) = st.act.loc := by omega
      have hwv := hwp (.inr h.1)
      rw [hwv, least_nat, hlz', cmpQ_self]; omega
    · split
      · rename_i h
        obtain ⟨hy, hya⟩ := hatx h.1
        exact up (hmr hy hya hu3 hx) (hmax hy hya hu3 hx hax)
      · exact up (fr_right hg (by rw [hL.thr]; exact hu3) (hxm hx)) (hL.fr u x hu3 hx hax)
  · rw [mk_do hg hdo (hxm hx)]
    split
    · exact up (hmr hy hya (by omega) hx) (hmax hy hya (by omega) hx hax)
    · exact up (mk_right hg (hxm hy) (by rw [hL.locs]; exact hya) (hxm hx)) (hL.mar y x hy hya hx hax)
  · rw [val_do hg hdo (hxm hx)]
    unfold seqDo
    by_cases h : isSet st.act.kind = true ∧ x = st.act.loc.toNat
    · have h45 : st.act.kind = 4 ∨ st.act.kind = 5 := by have := h.1; unfold isSet at this; simpa using this
      rw [if_pos h, if_pos (by unfold ActG.isW; rcases h45 with e | e <;> rw [e] <;> rfl), h.2, getD_setQ, if_pos ⟨rfl, by rw [hv, ← h.2]; exact hx⟩]
    · rw [if_neg h]
      split
      · rename_i hwk
        rw [getD_setQ, if_neg]
        · exact hL.vals x hx hax
        · rintro ⟨h1, h2⟩
          unfold ActG.isW at hwk
          simp at hwk
          by_cases k2 : st.act.kind = 2
          · have := (hplx (by rw [k2]; rfl)).2
            rw [h1, hax] at this; cases this
          · exact h ⟨by unfold isSet; simp; omega, h1.symm⟩
      · exact hL.vals x hx hax
end Go.Ago

/- SeqLifts. Conditions: none. -/
set_option maxRecDepth 100000
set_option linter.unusedSimpArgs false
set_option linter.unusedVariables false
namespace Go.Ago
theorem liftG_get {as : Nat → ActG} {ss : List StepG} {n i : Nat} (h : i < n) : (liftG as ss n).getD i default = { ss.getD i default with when := whenG as i } := by
  rw [Z2x (by rw [liftG_len]; exact h)]; simp only [liftG, List.getElem_map, List.getElem_range]
theorem whenG_same {as bs : Nat → ActG} {i : Nat} (h : ∀ j, j ≤ i → as j = bs j) : whenG as i = whenG bs i := by
  have hc : ∀ x k, k ≤ i + 1 → cntW as x k = cntW bs x k := by
    intro x k
    induction k with
    | zero => intro _; rfl
    | succ k ih => intro hk; unfold cntW; rw [ih (by omega), h k (by omega)]
  unfold whenG
  rw [h i (Nat.le_refl _), hc _ _ (Nat.le_refl _)]
theorem lifts_new {l : List LocG} (h : l.length ≤ 10) : newErr l 3 = 0 := if_neg (by omega)
theorem late_lift {l : List LocG} {ss : List StepG} (he : liftErr l ss = 0) (hs : ss.length ≤ 60) {i : Nat} (hi : i < ss.length) {m : Mem} {b : Nat} (hg : m.Good b) (hL : Late l (stAct ss) (vAt l (ss.map (·.act)) i) m i)
    (ht : 0 ≤ (ss.getD i default).thread ∧ (ss.getD i default).thread < 3) : doErr m ((liftG (stAct ss) ss ss.length).getD i default) = 0 ∧ Late l (stAct ss) (vAt l (ss.map (·.act)) (i + 1)) (doMem m ((liftG (stAct ss) ss ss.length).getD i default)) (i + 1) := by
  have hlen : (ss.map (·.act)).length = ss.length := by simp
  have hget : (ss.map (·.act)).getD i default = (ss.getD i default).act := by
    rw [Z2x (by rw [hlen]; exact hi), List.getElem_map, Z2x hi]
  have hok := seqGo_all _ _ he i (by rw [hlen]; exact hi)
  rw [hget] at hok
  rw [liftG_get hi]
  have := late_do (st := { ss.getD i default with when := whenG (stAct ss) i }) hL hg (by omega) rfl ht.1 ht.2 rfl hok vAt_len
  refine ⟨this.1, ?_⟩
  rw [vAt_succ (by rw [hlen]; exact hi), hget]
  exact this.2
def lifSt (l : List LocG) (f : Bool) (ss L : List StepG) (g : Bool) (M : List ActG) (x : Nat × MemG) : State :=
  ⟨[(1, .d (.list (ss.map StepG.row) g)), (5, .d (.list (M.map ActG.row) false)), (6, .d (.list (L.map StepG.row) false)), (10, .ptr 0 5 0 0), (12, .d (.int .i64 x.1))], [.vec 5 [x.2.row]]⟩
set_option maxHeartbeats 4000000 in
theorem law_SeqLifts {T : Tab} {n1 n2 n3 n4 n5 n6 n7 : Nat} (k1 : Knows T n1 sp_true) (k2 : Knows T n2 sp_law21_acts) (k3 : Knows T n3 sp_refRun) (k4 : Knows T n4 sp_Lift) (k5 : Knows T n5 sp_New) (k6 : Knows T n6 sp_When21) (k7 : Knows T n7 sp_Do) (l : List LocG) (f : Bool) (ss : List StepG) (g : Bool) (hl : l.length ≤ maxLen) (hs : ss.length ≤ maxLen) :
    Holds T V_law21_SeqLifts (L_law21_SeqLifts n1 n2 n3 n4 n5 n6 n7) R_law21_SeqLifts [.d (.list (l.map LocG.row) f), .d (.list (ss.map StepG.row) g)] := by
  have F1 := k1.F; have G1 := k1.G; have F2 := k2.F; have G2 := k2.G; have F3 := k3.F; have G3 := k3.G; have F4 := k4.F; have G4 := k4.G; have F5 := k5.F; have G5 := k5.G; have F6 := k6.F; have G6 := k6.G; have F7 := k7.F; have G7 := k7.G
  unfold V_law21_SeqLifts L_law21_SeqLifts R_law21_SeqLifts
  have hmin : (if (ss.length : Int) < 60 then (ss.length : Int) else 60) = ((min ss.length 60 : Nat) : Int) := by split <;> omega
  have hmin2 : (if (60 : Int) < (ss.length : Int) then (60 : Int) else (ss.length : Int)) = ((min ss.length 60 : Nat) : Int) := by split <;> omega
  simp (maxSteps := 3000000) only [↓Z0h, ↓Z11, ↓Z1a, ↓Z03, ↓Z36, ↓Z35, nilG_d, nilG_r, ↓Z0p, ↓Z0f, ↓Z0c, ↓Z1h, ↓Z0a, ↓Z0o, ↓Z1q, ↓Z1p, ↓Z12, ↓Z19, ↓blockK_o, ↓Z2b, ↓Z0n, ↓Z1r, ↓retK_n, ↓loopV_n, ↓loopV_x, ↓loopV_r, ↓famK_n, ↓Z30, ↓famK_r, ↓Z0i, ↓Z0e, ↓Z1b, ↓Z0d, ↓Z22, Z25, Z05, Z0r, Z14, Z18, Z17, evN, Z13, Z0m, Z16, Z20, Z0l, Z0b, Z0k, stepK_no, Z1v, Z1n, Z1x, Z0v, evT, Opd.ev, Z04, Z00, Z15, Z21, Z1d, Z1i, Z39, Z0u, Z0w, knowO_c, Z0t, Z09, Z1g, LOp.isNew, State.prune, Z1e, Z0y, AV.leaf, Heap.at, Z06, Z0x, Z02, Z1z, Z0s, idx_I, idx_U, idx_Rat, idx_Loc, idx_Act, idx_Step, Z31, Z07, Z08, Z01, Z0j, Z2z, rowI, rowU, RatG.row, LocG.row, ActG.row, StepG.row, StampG.row, ActG.av, ActG.eta, RatG.eta, LocG.eta, beq_true, beq_false, Z2c, Z3j, set_rowU, app_rowI, app_rowU, rep_rowI, rep_rowU, Z2a, Z2g, Z29, Z2o, Z2f, Z2e, Z1w, List.length_set, List.length_replicate, Int.toNat_natCast, Int.reduceToNat, evLen, Z1s, Z38, Src.all, Src.len, Src.leaf, Src.leafN, evApart, aliveQ, joinV, Z26, Z27, Z2h, Z2i, Z2j, Z2k, Z2l, Z2m, mkVec, drows, evMk, List.length_map, Z1j, drop_mapF, List.take_length, List.take_left, List.length_append, Nat.le_add_right, ite_self, List.take_of_length_le, evSlice, intOr, intOpd, Option.isSome_none, Option.isSome_some, Nat.sub_zero, Z28, Z2v, Z2w, evUn, binT, binQ, chk, Z24, List.contains_cons, List.contains_nil, Bool.or_false, Bool.false_or, Bool.and_self, resQ, resV, resT, pickV, Z10, evTake, Z1o, fnOf, Z1l, isD, HO.drow, Z3h, evInt2, evEq, eqV, eqK, eqC1, buildQ, Z3k, Z37, Z34, lens_I, lensA_I, lens_U, lensA_U, Z2y, Z3c, lens_Loc, Z3b, lens_Act, Z3a, Z3d, Z2n, Z23, Z1y, List.mem_cons, List.not_mem_nil, or_false, forall_eq, putRow, Z2t, Z0q, RetS, RetF, RetD, AV.frz, AV.frzL, AV.freshP, AV.freshL, DV.less, scal_int, Z3e, scal_nil, Z2u, Z3f, Z1c, Z1k, Option.some.injEq, AV.tup.injEq, AV.agg.injEq, List.cons.injEq, DV.list.injEq, List.isEmpty_nil, Nat.le_refl, AV.d.injEq, DV.int.injEq, DV.bool.injEq, ↓reduceIte, Nat.reduceEqDiff, Nat.reduceAdd, Nat.reduceBEq, List.length_cons, List.length_nil, List.replicate_succ, List.replicate_zero, List.nil_append, List.cons_append, List.append_nil, List.foldl_cons, List.foldl_nil, List.map_cons, List.map_nil, List.all_cons, List.all_nil, List.set_cons_zero, List.set_cons_succ, List.getD_cons_zero, List.getD_cons_succ, List.drop_zero, List.drop_succ_cons, List.take_succ_cons, List.take_zero, List.flatten_cons, List.flatten_nil, Bool.true_and, Bool.and_true, Bool.not_true, Bool.not_false, true_and, and_true, true_or, or_true, Option.bind_some, Option.map_some, decide_true, decide_false, beq_self_eq_true, true_implies, false_implies, implies_true, not_true_eq_false, not_false_eq_true, and_self, Bool.and_false, Bool.false_and, Nat.reduceLT, Nat.reduceLeDiff, List.reverse_cons, List.reverse_nil, Nat.zero_add, Nat.add_zero, Bool.false_eq_true, List.getElem?_cons_zero, F1, G1, F2, G2, F3, G3, F4, G4, F5, G5, F6, G6, F7, G7, at_true, at_law21_acts, at_refRun, at_Lift, at_New, at_When21, at_DoM, hmin, hmin2, MemG.av, Z02, Z01]
  have hm : maxLen = 9223372036854775807 := rfl
  intro hll
  have htl : (List.take (min ss.length 60) ss).length = min ss.length 60 := by rw [List.length_take]; omega
  refine ⟨⟨by omega, by omega, by omega, by omega⟩, by omega, ⟨by omega, by omega⟩, ⟨by omega, ?_⟩, ?_⟩
  · unfold stepActs
    rw [List.length_map, List.length_take]; omega
  generalize (g && decide (((min ss.length 60 : Nat) : Int) = ss.length)) = g2
  have hs60 : (List.take (min ss.length 60) ss).length ≤ 60 := by omega
  generalize List.take (min ss.length 60) ss = s at *
  have hsa : stepActs s = s.map (·.act) := by unfold stepActs; rw [List.take_of_length_le (by omega)]
  have hne : newErr l 3 = 0 := lifts_new (by omega)
  have hg0 := newM_good hne
  refine ⟨fun _ => ⟨fun he => ?_, fun he => ?_⟩, fun h => h (by unfold liftErr; rw [hsa])⟩
  case refine_2 => unfold liftL; rw [if_neg he]; rfl
  have hL : liftL l s = liftG (stAct s) s s.length := if_pos he
  have hw : ∀ i, i < s.length → whenG (actAt (s.map (·.act))) i = whenG (stAct s) i := fun i hi => whenG_same fun j hj => by
    unfold actAt stAct
    rw [Z2x (by rw [List.length_map]; omega), List.getElem_map, Z2x (by omega)]
  have hl0 := late_new (as := stAct s) hne
  have hget : ∀ i, i < s.length → (liftG (stAct s) s s.length).getD i default = { s.getD i default with when := whenG (stAct s) i } := fun i hi => liftG_get hi
  have hlift : ∀ {i b : Nat} {m : Mem}, i < s.length → m.Good b → Late l (stAct s) (vAt l (s.map (·.act)) i) m i → 0 ≤ (s.getD i default).thread ∧ (s.getD i default).thread < 3 → _ := fun {i b m} h1 h2 h3 h4 => late_lift he hs60 h1 h2 h3 h4
  have hLl : (liftG (stAct s) s s.length).length = s.length := liftG_len
  rw [hL, hsa, hLl]
  refine ⟨by omega, fun _ => ?_, fun h => h rfl⟩
  generalize liftG (stAct s) s s.length = L at *
  generalize newM l 3 = M0 at *
  refine Loop.fam [1, 5, 6, 10, 12] (fun i : Nat => lifSt l f s L g2 (s.map (·.act)) (i, goM M0 L i)) (fun i => i ≤ s.length ∧ Late l (stAct s) (vAt l (s.map (·.act)) i) (goM M0 L i).plain i) (fun i => s.length - i) 0 [1] (by simp) (by simp) (by simp only [State.can, AV.can, AV.canL, HO.can, Z0z, idx, Z04, Z00, Heap.at, Nat.reduceBEq, ↓reduceIte, Nat.reduceEqDiff, Option.getD_some, Option.map_some, List.map_cons, List.map_nil, List.getD_cons_zero, List.getD_cons_succ, lifSt, MemG.row]; rfl) ⟨Nat.zero_le _, hl0⟩ ?_
  rintro i ⟨hi, hLate⟩
  have hi : i ≤ s.length := hi
  have hgood : (goM M0 L i).plain.Good (1 + i) := goM_good hg0 L i
  by_cases hin : i < s.length
  · have hLi := hget i hin
    have hwi := hw i hin
    have hli := fun h => hlift hin hgood hLate h
    have next : doErr (goM M0 L i).plain (L.getD i default) = 0 → resM (goM M0 L i).plain (L.getD i default) = goM M0 L (i + 1) := fun he2 => by
      rw [goM_succ M0 (by omega)]; unfold stepM resM; rw [if_pos he2, if_pos he2]
    rw [hLi] at hli next
    generalize goM M0 L i = m at *
    simp (maxSteps := 3000000) only [↓Z0h, ↓Z11, ↓Z1a, ↓Z03, ↓Z36, ↓Z35, nilG_d, nilG_r, ↓Z0p, ↓Z0f, ↓Z0c, ↓Z1h, ↓Z0a, ↓Z0o, ↓Z1q, ↓Z1p, ↓Z12, ↓Z19, ↓blockK_o, ↓Z2b, ↓Z0n, ↓Z1r, ↓retK_n, ↓loopV_n, ↓loopV_x, ↓loopV_r, ↓famK_n, ↓Z30, ↓famK_r, ↓Z0i, ↓Z0e, ↓Z1b, ↓Z0d, ↓Z22, Z25, Z05, Z0r, Z14, Z18, Z17, evN, Z13, Z0m, Z16, Z20, Z0l, Z0b, Z0k, stepK_no, Z1v, Z1n, Z1x, Z0v, evT, Opd.ev, Z04, Z00, Z15, Z21, Z1d, Z1i, Z39, Z0u, Z0w, knowO_c, Z0t, Z09, Z1g, LOp.isNew, State.prune, Z1e, Z0y, AV.leaf, Heap.at, Z06, Z0x, Z02, Z1z, Z0s, idx_I, idx_U, idx_Rat, idx_Loc, idx_Act, idx_Step, Z31, Z07, Z08, Z01, Z0j, Z2z, rowI, rowU, RatG.row, LocG.row, ActG.row, StepG.row, StampG.row, ActG.av, ActG.eta, RatG.eta, LocG.eta, beq_true, beq_false, Z2c, Z3j, set_rowU, app_rowI, app_rowU, rep_rowI, rep_rowU, Z2a, Z2g, Z29, Z2o, Z2f, Z2e, Z1w, List.length_set, List.length_replicate, Int.toNat_natCast, Int.reduceToNat, evLen, Z1s, Z38, Src.all, Src.len, Src.leaf, Src.leafN, evApart, aliveQ, joinV, Z26, Z27, Z2h, Z2i, Z2j, Z2k, Z2l, Z2m, mkVec, drows, evMk, List.length_map, Z1j, drop_mapF, List.take_length, List.take_left, List.length_append, Nat.le_add_right, ite_self, List.take_of_length_le, evSlice, intOr, intOpd, Option.isSome_none, Option.isSome_some, Nat.sub_zero, Z28, Z2v, Z2w, evUn, binT, binQ, chk, Z24, List.contains_cons, List.contains_nil, Bool.or_false, Bool.false_or, Bool.and_self, resQ, resV, resT, pickV, Z10, evTake, Z1o, fnOf, Z1l, isD, HO.drow, Z3h, evInt2, evEq, eqV, eqK, eqC1, buildQ, Z3k, Z37, Z34, lens_I, lensA_I, lens_U, lensA_U, Z2y, Z3c, lens_Loc, Z3b, lens_Act, Z3a, Z3d, Z2n, Z23, Z1y, List.mem_cons, List.not_mem_nil, or_false, forall_eq, putRow, Z2t, Z0q, RetS, RetF, RetD, AV.frz, AV.frzL, AV.freshP, AV.freshL, DV.less, scal_int, Z3e, scal_nil, Z2u, Z3f, Z1c, Z1k, Option.some.injEq, AV.tup.injEq, AV.agg.injEq, List.cons.injEq, DV.list.injEq, List.isEmpty_nil, Nat.le_refl, AV.d.injEq, DV.int.injEq, DV.bool.injEq, ↓reduceIte, Nat.reduceEqDiff, Nat.reduceAdd, Nat.reduceBEq, List.length_cons, List.length_nil, List.replicate_succ, List.replicate_zero, List.nil_append, List.cons_append, List.append_nil, List.foldl_cons, List.foldl_nil, List.map_cons, List.map_nil, List.all_cons, List.all_nil, List.set_cons_zero, List.set_cons_succ, List.getD_cons_zero, List.getD_cons_succ, List.drop_zero, List.drop_succ_cons, List.take_succ_cons, List.take_zero, List.flatten_cons, List.flatten_nil, Bool.true_and, Bool.and_true, Bool.not_true, Bool.not_false, true_and, and_true, true_or, or_true, Option.bind_some, Option.map_some, decide_true, decide_false, beq_self_eq_true, true_implies, false_implies, implies_true, not_true_eq_false, not_false_eq_true, and_self, Bool.and_false, Bool.false_and, Nat.reduceLT, Nat.reduceLeDiff, List.reverse_cons, List.reverse_nil, Nat.zero_add, Nat.add_zero, Bool.false_eq_true, List.getElem?_cons_zero, lifSt, MemG.row, F1, G1, F2, G2, F3, G3, F4, G4, F5, G5, F6, G6, F7, G7, at_When21, at_DoX, hLi, hwi, MemG.av, Z02, Z01]
    refine fun c => ⟨⟨by omega, c⟩, ⟨by omega, by omega⟩, ⟨by omega, c⟩, ⟨by omega, by omega⟩, ⟨by omega, c⟩, ⟨by omega, by omega, by omega⟩, ⟨by omega, c⟩, fun c1 => ⟨⟨by omega, c⟩, fun c2 => ⟨⟨by omega, c⟩, wfM hgood (by omega), fun he2 => ?_, fun he2 => he2 (hli ⟨by omega, by omega⟩).1⟩⟩⟩
    have n1 := next he2
    have n1 : resM m.plain { thread := (s.getD i default).thread, act := (s.getD i default).act, when := whenG (stAct s) i } = goM M0 L (i + 1) := n1
    rw [n1, Z2r hin (by omega)]
    refine Z0g.mk [0] (i + 1) (by simp) (by simp) (by simp only [State.can, AV.can, AV.canL, HO.can, Z0z, idx, Z04, Z00, Heap.at, Nat.reduceBEq, ↓reduceIte, Nat.reduceEqDiff, Option.getD_some, Option.map_some, List.map_cons, List.map_nil, List.getD_cons_zero, List.getD_cons_succ, lifSt, MemG.row]) ⟨by show i + 1 ≤ _; omega, ?_⟩ (by show _ - (i + 1) < _ - i; omega)
    have n2 := (hli ⟨by omega, by omega⟩).2
    rw [← n1]
    unfold resM
    rw [if_pos he2, plain_av]
    exact n2
  · have hie : i = s.length := by omega
    generalize goM M0 L i = m at *
    simp (maxSteps := 3000000) only [↓Z0h, ↓Z11, ↓Z1a, ↓Z03, ↓Z36, ↓Z35, nilG_d, nilG_r, ↓Z0p, ↓Z0f, ↓Z0c, ↓Z1h, ↓Z0a, ↓Z0o, ↓Z1q, ↓Z1p, ↓Z12, ↓Z19, ↓blockK_o, ↓Z2b, ↓Z0n, ↓Z1r, ↓retK_n, ↓loopV_n, ↓loopV_x, ↓loopV_r, ↓famK_n, ↓Z30, ↓famK_r, ↓Z0i, ↓Z0e, ↓Z1b, ↓Z0d, ↓Z22, Z25, Z05, Z0r, Z14, Z18, Z17, evN, Z13, Z0m, Z16, Z20, Z0l, Z0b, Z0k, stepK_no, Z1v, Z1n, Z1x, Z0v, evT, Opd.ev, Z04, Z00, Z15, Z21, Z1d, Z1i, Z39, Z0u, Z0w, knowO_c, Z0t, Z09, Z1g, LOp.isNew, State.prune, Z1e, Z0y, AV.leaf, Heap.at, Z06, Z0x, Z02, Z1z, Z0s, idx_I, idx_U, idx_Rat, idx_Loc, idx_Act, idx_Step, Z31, Z07, Z08, Z01, Z0j, Z2z, rowI, rowU, RatG.row, LocG.row, ActG.row, StepG.row, StampG.row, ActG.av, ActG.eta, RatG.eta, LocG.eta, beq_true, beq_false, Z2c, Z3j, set_rowU, app_rowI, app_rowU, rep_rowI, rep_rowU, Z2a, Z2g, Z29, Z2o, Z2f, Z2e, Z1w, List.length_set, List.length_replicate, Int.toNat_natCast, Int.reduceToNat, evLen, Z1s, Z38, Src.all, Src.len, Src.leaf, Src.leafN, evApart, aliveQ, joinV, Z26, Z27, Z2h, Z2i, Z2j, Z2k, Z2l, Z2m, mkVec, drows, evMk, List.length_map, Z1j, drop_mapF, List.take_length, List.take_left, List.length_append, Nat.le_add_right, ite_self, List.take_of_length_le, evSlice, intOr, intOpd, Option.isSome_none, Option.isSome_some, Nat.sub_zero, Z28, Z2v, Z2w, evUn, binT, binQ, chk, Z24, List.contains_cons, List.contains_nil, Bool.or_false, Bool.false_or, Bool.and_self, resQ, resV, resT, pickV, Z10, evTake, Z1o, fnOf, Z1l, isD, HO.drow, Z3h, evInt2, evEq, eqV, eqK, eqC1, buildQ, Z3k, Z37, Z34, lens_I, lensA_I, lens_U, lensA_U, Z2y, Z3c, lens_Loc, Z3b, lens_Act, Z3a, Z3d, Z2n, Z23, Z1y, List.mem_cons, List.not_mem_nil, or_false, forall_eq, putRow, Z2t, Z0q, RetS, RetF, RetD, AV.frz, AV.frzL, AV.freshP, AV.freshL, DV.less, scal_int, Z3e, scal_nil, Z2u, Z3f, Z1c, Z1k, Option.some.injEq, AV.tup.injEq, AV.agg.injEq, List.cons.injEq, DV.list.injEq, List.isEmpty_nil, Nat.le_refl, AV.d.injEq, DV.int.injEq, DV.bool.injEq, ↓reduceIte, Nat.reduceEqDiff, Nat.reduceAdd, Nat.reduceBEq, List.length_cons, List.length_nil, List.replicate_succ, List.replicate_zero, List.nil_append, List.cons_append, List.append_nil, List.foldl_cons, List.foldl_nil, List.map_cons, List.map_nil, List.all_cons, List.all_nil, List.set_cons_zero, List.set_cons_succ, List.getD_cons_zero, List.getD_cons_succ, List.drop_zero, List.drop_succ_cons, List.take_succ_cons, List.take_zero, List.flatten_cons, List.flatten_nil, Bool.true_and, Bool.and_true, Bool.not_true, Bool.not_false, true_and, and_true, true_or, or_true, Option.bind_some, Option.map_some, decide_true, decide_false, beq_self_eq_true, true_implies, false_implies, implies_true, not_true_eq_false, not_false_eq_true, and_self, Bool.and_false, Bool.false_and, Nat.reduceLT, Nat.reduceLeDiff, List.reverse_cons, List.reverse_nil, Nat.zero_add, Nat.add_zero, Bool.false_eq_true, List.getElem?_cons_zero, lifSt, MemG.row, F1, G1, F2, G2, F3, G3, F4, G4, F5, G5, F6, G6, F7, G7, at_When21, at_DoM, MemG.av, Z02, Z01]
    exact fun c => absurd c (by omega)
end Go.Ago
