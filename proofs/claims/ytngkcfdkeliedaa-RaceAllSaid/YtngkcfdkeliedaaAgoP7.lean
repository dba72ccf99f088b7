/- The reference of layer 20: one more step. Conditions: none. -/
import Derived.Test.YtngkcfdkeliedaaAgoP5
import Derived.Test.YtngkcfdkeliedaaAgoP6
import Derived.Test.YtngkcfdkeliedaaAgoP4
set_option maxRecDepth 100000
set_option linter.unusedSimpArgs false
set_option linter.unusedVariables false
namespace Go.Ago

def rat_rightG (x : RatG) : Bool := Z22 x.num x.den
def cmpG (x y : RatG) : Int := rat_cmp x.num x.den y.num y.den
/-- What the loop over the writes answers. -/
def Z2f (a : ActG) (w front : RatG) : List StampG → Option Int
  | [] => none
  | x :: l => if cmpG x.when w = 0 then some (if a.kind = 2 then 5 else if cmpG w front < 0 then 6 else if x.val = a.old then 0 else 3) else Z2f a w front l
def pastDo (l : List LocG) (t : Int) (s : List StepG) (st : StepG) : Int :=
  let a := st.act
  let moment := a.kind = 1 ∨ a.kind = 2
  if st.thread < 0 ∨ t ≤ st.thread ∨ a.right l = false ∨ (moment ∧ rat_rightG st.when = false) ∨ (¬ moment ∧ st.when ≠ ⟨0, 0⟩) then 1
  else if (a.kind = 3 ∨ a.kind = 5) ∧ valueG l s a.loc ≠ a.old then 3
  else if ¬ moment then 0
  else match Z2f a st.when (frontG s s.length st.thread a.loc) (Z2d l s a.loc) with
    | some e => e
    | none => if a.kind = 1 then 4 else if cmpG st.when (frontG s s.length st.thread a.loc) ≤ 0 then 6 else 0

def DoOk (s : List StepG) : Prop := s.length ≤ 1000000 ∧ ∀ x ∈ s, inI x.act.loc
def sp_pastDo : Sp := ⟨List LocG × Bool × Int × List StepG × Bool × StepG, fun x => [.agg [.d (.list (x.1.map LocG.row) x.2.1), .d (.int .i64 x.2.2.1), .d (.list (x.2.2.2.1.map StepG.row) x.2.2.2.2.1)],
    .agg [.d (.int .i64 x.2.2.2.2.2.thread), .d (.int .i64 x.2.2.2.2.2.act.kind), .d (.int .i64 x.2.2.2.2.2.act.loc), .d (.int .i64 x.2.2.2.2.2.act.old), .d (.int .i64 x.2.2.2.2.2.act.new), .d (.int .i64 x.2.2.2.2.2.when.num), .d (.int .i64 x.2.2.2.2.2.when.den)]],
  fun x => .data (DoOk x.2.2.2.1) (.d (.int .i64 (pastDo x.1 x.2.2.1 x.2.2.2.1 x.2.2.2.2.2))) true⟩

theorem pastScan_drop {a : ActG} {w fr : RatG} {W : List StampG} {i : Nat} (hi : i < W.length) : Z2f a w fr (W.drop i) = if cmpG (W.getD i default).when w = 0 then some (if a.kind = 2 then 5 else if cmpG w fr < 0 then 6 else if (W.getD i default).val = a.old then 0 else 3) else Z2f a w fr (W.drop (i + 1)) := by
  rw [List.drop_eq_getElem_cons hi, Z28 hi]; rfl
theorem pastDo_bad {l : List LocG} {t : Int} {s : List StepG} {st : StepG} (h : st.thread < 0 ∨ t ≤ st.thread ∨ st.act.right l = false ∨ ((st.act.kind = 1 ∨ st.act.kind = 2) ∧ rat_rightG st.when = false) ∨ (¬ (st.act.kind = 1 ∨ st.act.kind = 2) ∧ st.when ≠ ⟨0, 0⟩)) : pastDo l t s st = 1 := if_pos h
theorem pastDo_val {l : List LocG} {t : Int} {s : List StepG} {st : StepG} (h : ¬ (st.thread < 0 ∨ t ≤ st.thread ∨ st.act.right l = false ∨ ((st.act.kind = 1 ∨ st.act.kind = 2) ∧ rat_rightG st.when = false) ∨ (¬ (st.act.kind = 1 ∨ st.act.kind = 2) ∧ st.when ≠ ⟨0, 0⟩)))
    (h2 : (st.act.kind = 3 ∨ st.act.kind = 5) ∧ valueG l s st.act.loc ≠ st.act.old) : pastDo l t s st = 3 := by unfold pastDo; rw [if_neg h, if_pos h2]
theorem pastDo_non {l : List LocG} {t : Int} {s : List StepG} {st : StepG} (h : ¬ (st.thread < 0 ∨ t ≤ st.thread ∨ st.act.right l = false ∨ ((st.act.kind = 1 ∨ st.act.kind = 2) ∧ rat_rightG st.when = false) ∨ (¬ (st.act.kind = 1 ∨ st.act.kind = 2) ∧ st.when ≠ ⟨0, 0⟩)))
    (h2 : ¬ ((st.act.kind = 3 ∨ st.act.kind = 5) ∧ valueG l s st.act.loc ≠ st.act.old)) (h3 : ¬ (st.act.kind = 1 ∨ st.act.kind = 2)) : pastDo l t s st = 0 := by unfold pastDo; rw [if_neg h, if_neg h2, if_pos h3]
theorem pastDo_mom {l : List LocG} {t : Int} {s : List StepG} {st : StepG} (h : ¬ (st.thread < 0 ∨ t ≤ st.thread ∨ st.act.right l = false ∨ ((st.act.kind = 1 ∨ st.act.kind = 2) ∧ rat_rightG st.when = false) ∨ (¬ (st.act.kind = 1 ∨ st.act.kind = 2) ∧ st.when ≠ ⟨0, 0⟩)))
    (h3 : st.act.kind = 1 ∨ st.act.kind = 2) : pastDo l t s st = match Z2f st.act st.when (frontG s s.length st.thread st.act.loc) (Z2d l s st.act.loc) with
    | some e => e
    | none => if st.act.kind = 1 then 4 else if cmpG st.when (frontG s s.length st.thread st.act.loc) ≤ 0 then 6 else 0 := by
  unfold pastDo; rw [if_neg h, if_neg (by omega), if_neg (fun h => h h3)]
def pdSt (th k o m n wn wd : Int) (fr : RatG) (W : List StampG) (i : Nat) : State :=
  ⟨[(3, .ptr 0 7 0 0), (5, .ptr 1 4 0 0), (7, .ptr 2 2 0 0), (8, .ref 3 3 0 W.length true), (9, .d (.int .i64 i))],
    [.vec 7 [[.d (.int .i64 th), .d (.int .i64 k), .d (.int .i64 o), .d (.int .i64 m), .d (.int .i64 n), .d (.int .i64 wn), .d (.int .i64 wd)]],
     .vec 4 [[.d (.int .i64 k), .d (.int .i64 o), .d (.int .i64 m), .d (.int .i64 n)]], .vec 2 [[.d (.int .i64 fr.num), .d (.int .i64 fr.den)]], .dvec 3 (W.map StampG.row)]⟩
set_option maxHeartbeats 4000000 in
theorem body_ref20_Past_Do {T : Tab} {n1 n2 n3 n4 n5 n6 : Nat} (k1 : Knows T n1 (sp_Front 1000001)) (k2 : Knows T n2 sp_Value) (k3 : Knows T n3 sp_act_Right) (k4 : Knows T n4 sp_rat_Right) (k5 : Knows T n5 sp_writes) (k6 : Knows T n6 sp_rat_Cmp) :
    sp_pastDo.Body T V_ref20_Past_Do (L_ref20_Past_Do n1 n2 n3 n4 n5 n6) R_ref20_Past_Do := by
  have F1 := k1.F; have G1 := k1.G; have F2 := k2.F; have G2 := k2.G; have F3 := k3.F; have G3 := k3.G; have F4 := k4.F; have G4 := k4.G; have F5 := k5.F; have G5 := k5.G; have F6 := k6.F; have G6 := k6.G
  rintro ⟨l, f, t, s, g, ⟨th, ⟨k, o, m, n⟩, ⟨wn, wd⟩⟩⟩ ⟨h1, h2⟩
  have h1 : s.length ≤ 1000000 := h1
  have h2 : ∀ x ∈ s, inI x.act.loc := h2
  refine .inl ⟨rfl, ?_⟩
  unfold V_ref20_Past_Do L_ref20_Past_Do R_ref20_Past_Do
  have hbad := pastDo_bad (l := l) (t := t) (s := s) (st := ⟨th, ⟨k, o, m, n⟩, ⟨wn, wd⟩⟩)
  have hval := pastDo_val (l := l) (t := t) (s := s) (st := ⟨th, ⟨k, o, m, n⟩, ⟨wn, wd⟩⟩)
  have hnon := pastDo_non (l := l) (t := t) (s := s) (st := ⟨th, ⟨k, o, m, n⟩, ⟨wn, wd⟩⟩)
  have hmom := pastDo_mom (l := l) (t := t) (s := s) (st := ⟨th, ⟨k, o, m, n⟩, ⟨wn, wd⟩⟩)
  simp only [sp_pastDo]
  generalize pastDo l t s ⟨th, ⟨k, o, m, n⟩, ⟨wn, wd⟩⟩ = P at *
  have hcases : k = 1 ∨ k = 2 ∨ k = 3 ∨ k = 5 ∨ (¬ k = 1 ∧ ¬ k = 2 ∧ ¬ k = 3 ∧ ¬ k = 5) := by omega
  have hm : maxLen = 9223372036854775807 := rfl
  have hloc : ∀ {k : Int}, (1 ≤ k ∧ k ≤ 5) → ActG.right ⟨k, o, m, n⟩ l = true → 0 ≤ o ∧ o < l.length := fun {k} hk h => by
    unfold ActG.right at h
    split at h
    · rename_i e; have e : k = 6 := e; omega
    · simp only [Bool.and_eq_true, decide_eq_true_eq] at h
      exact ⟨h.1.1.1.1.2, h.1.1.1.2⟩
  have hwz : ∀ {wn wd : Int}, (decide (wn = 0) = true ∧ decide (wd = 0) = true) → (⟨wn, wd⟩ : RatG) = ⟨0, 0⟩ := fun {wn wd} h => by
    rw [of_decide_eq_true h.1, of_decide_eq_true h.2]
  have hwn : ∀ {wn wd : Int}, (decide (wn = 0) = false ∨ decide (wd = 0) = false) → (⟨wn, wd⟩ : RatG) ≠ ⟨0, 0⟩ := fun {wn wd} h e => by
    cases e
    simp at h
  have hfo : FrontOk 1000001 s s.length := ⟨⟨by omega, by omega, by omega⟩, h1, h2⟩
  have hWl : (Z2d l s o).length ≤ 1000001 := by
    have := writes_len (loc := o) (x := default) s [⟨⟨0, 1⟩, (l.getD o.toNat default).init⟩]
    simp only [List.length_singleton] at this
    unfold Z2d; omega
  rcases hcases with rfl | rfl | rfl | rfl | ⟨e1, e2, e3, e4⟩
  · simp (maxSteps := 3000000) only [↓Z0k, ↓Z0x, ↓Z02, ↓Z0i, ↓Z0j, ↓Z0c, ↓Z1n, ↓Z06, ↓Z0h, ↓Z1m, ↓Z0g, ↓Z1a, ↓Z0p, ↓Z0m, ↓Z1j, ↓Z0a, Z1g, Z05, Z10, Z0s, Z18, Z0v, evN, Z11, Z0f, Z0u, Z1u, Z0e, Z09, Z0d, Z1v, Z1x, guardG_no, Z0q, evT, Opd.ev, Z01, Z00, Z0t, Z1q, Z17, Z1i, Z0o, Z0r, Z0w, Z07, Z16, LOp.isNew, State.prune, Z19, Z13, AV.leaf, Heap.at, Z08, Z04, Z0b, Z03, Int.toNat_natCast, Z2i, List.length_map, List.take_of_length_le, Z1r, Z20, Z1s, evUn, binT, binQ, chk, Z1y, List.contains_nil, Bool.and_self, resQ, resV, resT, pickV, Z0z, Z1e, fnOf, Z1d, isD, Z23, putRow, Z0n, RetS, Nat.le_refl, AV.d.injEq, DV.int.injEq, ↓reduceIte, Nat.reduceAdd, Nat.reduceBEq, List.length_cons, List.length_nil, List.replicate_succ, List.replicate_zero, List.nil_append, List.cons_append, List.append_nil, List.map_cons, List.map_nil, List.all_cons, List.all_nil, List.set_cons_zero, List.set_cons_succ, List.getD_cons_zero, List.getD_cons_succ, List.drop_zero, List.drop_succ_cons, List.take_succ_cons, List.take_zero, List.flatten_cons, List.flatten_nil, Bool.not_true, Bool.not_false, true_and, and_true, true_or, decide_true, decide_false, and_self, Nat.reduceLT, Nat.reduceLeDiff, List.reverse_cons, List.reverse_nil, Nat.zero_add, Nat.add_zero, Bool.false_eq_true, F1, G1, F3, G3, F4, G4, F5, G5, at_Front, Z2b, at_rat_Right, at_writes, Int.reduceEq]
    refine ⟨fun c => (hbad (.inl c)).symm, fun c => ⟨fun c2 => (hbad (.inr (.inl c2))).symm, fun c2 => ⟨fun c3 => ⟨fun c4 => ⟨hfo, ⟨hloc (by omega) c3, h1⟩, ?_⟩, fun c4 => (hbad (.inr (.inr (.inr (.inl ⟨.inl rfl, c4⟩))))).symm⟩, fun c3 => (hbad (.inr (.inr (.inl c3)))).symm⟩⟩⟩
    have hmom := hmom (fun h => by
      rcases h with h | h | h | ⟨-, h⟩ | ⟨h, -⟩
      · exact c h
      · exact c2 h
      · have h : ActG.right ⟨1, o, m, n⟩ l = false := h
        rw [c3] at h; cases h
      · have h : Z22 wn wd = false := h
        rw [c4] at h; cases h
      · exact h (.inl rfl)) (.inl rfl)
    have hmom : P = match Z2f ⟨1, o, m, n⟩ ⟨wn, wd⟩ (frontG s s.length th o) (Z2d l s o) with
      | some e => e
      | none => 4 := hmom
    generalize Z2d l s o = W at *
    generalize frontG s s.length th o = fr at *
    clear hbad hval hnon hfo hwz hwn hloc
    refine Loop.fam [3, 5, 7, 8, 9] (pdSt th 1 o m n wn wd fr W) (fun i => i ≤ W.length ∧ Z2f ⟨1, o, m, n⟩ ⟨wn, wd⟩ fr W = Z2f ⟨1, o, m, n⟩ ⟨wn, wd⟩ fr (W.drop i)) (fun i => W.length - i) 0 [1, 2, 3, 4] (by simp) (by simp) (by simp only [State.can, AV.can, AV.canL, HO.can, Z14, idx, Z01, Z00, Heap.at, Nat.reduceBEq, ↓reduceIte, Nat.reduceEqDiff, Option.getD_some, Option.map_some, List.map_cons, List.map_nil, List.getD_cons_zero, List.getD_cons_succ, pdSt]; rfl) ⟨Nat.zero_le _, rfl⟩ ?_
    rintro i ⟨hi, hsc⟩
    have hi : i ≤ W.length := hi
    have hsc : Z2f ⟨1, o, m, n⟩ ⟨wn, wd⟩ fr W = Z2f ⟨1, o, m, n⟩ ⟨wn, wd⟩ fr (W.drop i) := hsc
    simp (maxSteps := 3000000) only [↓Z0k, ↓Z0x, ↓Z1c, ↓Z02, ↓Z0i, ↓Z0j, ↓Z0c, ↓Z06, ↓Z0h, ↓Z1o, ↓Z1m, ↓Z1h, ↓Z1b, ↓blockK_r, ↓Z0g, ↓Z1a, ↓famK_n, ↓Z26, ↓famK_r, ↓Z0p, ↓Z0m, ↓Z1j, ↓Z0a, Z1g, Z05, Z10, Z0s, Z0v, evN, Z11, Z0f, Z0u, Z1u, Z0e, Z09, Z0d, Z0q, evT, Opd.ev, Z01, Z00, Z0t, Z0o, Z0r, Z07, Z16, LOp.isNew, State.prune, Heap.at, Z08, Z04, Z2g, Z0y, loadDT_f, StampG.row, Z1z, Int.toNat_natCast, Z2i, List.take_of_length_le, Z1r, Z20, Z1s, binT, binQ, chk, Z1y, Bool.and_self, resQ, resV, resT, Z0z, Z1e, fnOf, Z1d, isD, Z23, Z0n, RetS, Nat.le_refl, AV.d.injEq, DV.int.injEq, ↓reduceIte, Nat.reduceAdd, Nat.reduceBEq, List.length_cons, List.length_nil, List.replicate_zero, List.nil_append, List.cons_append, List.append_nil, List.map_cons, List.map_nil, List.all_cons, List.all_nil, List.getD_cons_zero, List.getD_cons_succ, List.drop_zero, List.drop_succ_cons, List.take_succ_cons, List.take_zero, List.flatten_cons, List.flatten_nil, true_and, and_true, decide_true, decide_false, and_self, Nat.reduceLT, Nat.reduceLeDiff, List.reverse_cons, List.reverse_nil, Nat.zero_add, Nat.add_zero, Bool.false_eq_true, pdSt, F6, G6, at_rat_Cmp, Int.reduceEq]
    have hnil : ¬ (i : Int) < W.length → Z2f ⟨1, o, m, n⟩ ⟨wn, wd⟩ fr W = none := fun c => by rw [hsc, List.drop_of_length_le (by omega)]; rfl
    have hsome : i < W.length → cmpG (W.getD i default).when ⟨wn, wd⟩ = 0 → P = (if (1 : Int) = 2 then (5 : Int) else if cmpG ⟨wn, wd⟩ fr < 0 then 6 else if (W.getD i default).val = m then 0 else 3) := fun hlt hc => by
      have hd := pastScan_drop (a := ⟨1, o, m, n⟩) (w := ⟨wn, wd⟩) (fr := fr) hlt
      rw [← hsc, if_pos hc] at hd
      rw [hmom, hd]
    have hnext : i < W.length → ¬ cmpG (W.getD i default).when ⟨wn, wd⟩ = 0 → Z2f ⟨1, o, m, n⟩ ⟨wn, wd⟩ fr W = Z2f ⟨1, o, m, n⟩ ⟨wn, wd⟩ fr (W.drop (i + 1)) := fun hlt hc => by
      have hd := pastScan_drop (a := ⟨1, o, m, n⟩) (w := ⟨wn, wd⟩) (fr := fr) hlt
      rw [← hsc, if_neg hc] at hd
      exact hd
    have hbd : (i : Int) < W.length → (0 : Int) ≤ i ∧ (i : Int) < W.length := fun c => ⟨by omega, c⟩
    refine ⟨fun c => ⟨hbd c, by omega, fun c1 => ⟨fun c2 => ?_, fun c2 => ⟨hbd c, by omega, fun c3 => ?_, fun c3 => ?_⟩⟩, fun c1 => Z0l.mk [0, 1, 2, 3] (i + 1) (by simp) (by simp) (by simp only [State.can, AV.can, AV.canL, HO.can, Z14, idx, Z01, Z00, Heap.at, Nat.reduceBEq, ↓reduceIte, Nat.reduceEqDiff, Option.getD_some, Option.map_some, List.map_cons, List.map_nil, List.getD_cons_zero, List.getD_cons_succ, pdSt, Z12 (show i < W.length by omega) (by omega)]) ⟨by show i + 1 ≤ _; omega, hnext (by omega) c1⟩ (by show _ - (i + 1) < _ - i; omega)⟩, fun c => ?_⟩
    · rw [hsome (by omega) c1, if_neg (by decide)]; exact (if_pos c2).symm
    · rw [hsome (by omega) c1, if_neg (by decide)]; exact ((if_neg c2).trans (if_pos c3)).symm
    · rw [hsome (by omega) c1, if_neg (by decide)]; exact ((if_neg c2).trans (if_neg c3)).symm
    · rw [hmom, hnil c]
  · simp (maxSteps := 3000000) only [↓Z0k, ↓Z0x, ↓Z02, ↓Z0i, ↓Z0j, ↓Z0c, ↓Z1n, ↓Z06, ↓Z0h, ↓Z1m, ↓Z0g, ↓Z1a, ↓Z0p, ↓Z0m, ↓Z1j, ↓Z0a, Z1g, Z05, Z10, Z0s, Z18, Z0v, evN, Z11, Z0f, Z0u, Z1u, Z0e, Z09, Z0d, Z1v, Z1x, guardG_no, Z0q, evT, Opd.ev, Z01, Z00, Z0t, Z1q, Z17, Z1i, Z0o, Z0r, Z0w, Z07, Z16, LOp.isNew, State.prune, Z19, Z13, AV.leaf, Heap.at, Z08, Z04, Z0b, Z03, Int.toNat_natCast, Z2i, List.length_map, List.take_of_length_le, Z1r, Z20, Z1s, evUn, binT, binQ, chk, Z1y, List.contains_nil, Bool.and_self, resQ, resV, resT, pickV, Z0z, Z1e, fnOf, Z1d, isD, Z23, putRow, Z0n, RetS, Nat.le_refl, AV.d.injEq, DV.int.injEq, ↓reduceIte, Nat.reduceAdd, Nat.reduceBEq, List.length_cons, List.length_nil, List.replicate_succ, List.replicate_zero, List.nil_append, List.cons_append, List.append_nil, List.map_cons, List.map_nil, List.all_cons, List.all_nil, List.set_cons_zero, List.set_cons_succ, List.getD_cons_zero, List.getD_cons_succ, List.drop_zero, List.drop_succ_cons, List.take_succ_cons, List.take_zero, List.flatten_cons, List.flatten_nil, Bool.not_true, Bool.not_false, true_and, and_true, true_or, decide_true, decide_false, and_self, Nat.reduceLT, Nat.reduceLeDiff, List.reverse_cons, List.reverse_nil, Nat.zero_add, Nat.add_zero, Bool.false_eq_true, F1, G1, F3, G3, F4, G4, F5, G5, at_Front, Z2b, at_rat_Right, at_writes, Int.reduceEq]
    refine ⟨fun c => (hbad (.inl c)).symm, fun c => ⟨fun c2 => (hbad (.inr (.inl c2))).symm, fun c2 => ⟨fun c3 => ⟨fun c4 => ⟨hfo, ⟨hloc (by omega) c3, h1⟩, ?_⟩, fun c4 => (hbad (.inr (.inr (.inr (.inl ⟨.inr rfl, c4⟩))))).symm⟩, fun c3 => (hbad (.inr (.inr (.inl c3)))).symm⟩⟩⟩
    have hmom := hmom (fun h => by
      rcases h with h | h | h | ⟨-, h⟩ | ⟨h, -⟩
      · exact c h
      · exact c2 h
      · have h : ActG.right ⟨2, o, m, n⟩ l = false := h
        rw [c3] at h; cases h
      · have h : Z22 wn wd = false := h
        rw [c4] at h; cases h
      · exact h (.inr rfl)) (.inr rfl)
    have hmom : P = match Z2f ⟨2, o, m, n⟩ ⟨wn, wd⟩ (frontG s s.length th o) (Z2d l s o) with
      | some e => e
      | none => if cmpG ⟨wn, wd⟩ (frontG s s.length th o) ≤ 0 then 6 else 0 := hmom
    generalize Z2d l s o = W at *
    generalize frontG s s.length th o = fr at *
    clear hbad hval hnon hfo hwz hwn hloc
    refine Loop.fam [3, 5, 7, 8, 9] (pdSt th 2 o m n wn wd fr W) (fun i => i ≤ W.length ∧ Z2f ⟨2, o, m, n⟩ ⟨wn, wd⟩ fr W = Z2f ⟨2, o, m, n⟩ ⟨wn, wd⟩ fr (W.drop i)) (fun i => W.length - i) 0 [1, 2, 3, 4] (by simp) (by simp) (by simp only [State.can, AV.can, AV.canL, HO.can, Z14, idx, Z01, Z00, Heap.at, Nat.reduceBEq, ↓reduceIte, Nat.reduceEqDiff, Option.getD_some, Option.map_some, List.map_cons, List.map_nil, List.getD_cons_zero, List.getD_cons_succ, pdSt]; rfl) ⟨Nat.zero_le _, rfl⟩ ?_
    rintro i ⟨hi, hsc⟩
    have hi : i ≤ W.length := hi
    have hsc : Z2f ⟨2, o, m, n⟩ ⟨wn, wd⟩ fr W = Z2f ⟨2, o, m, n⟩ ⟨wn, wd⟩ fr (W.drop i) := hsc
    simp (maxSteps := 3000000) only [↓Z0k, ↓Z0x, ↓Z1c, ↓Z02, ↓Z0i, ↓Z0j, ↓Z0c, ↓Z06, ↓Z0h, ↓Z1o, ↓Z1m, ↓Z1b, ↓blockK_r, ↓Z0g, ↓Z1a, ↓famK_n, ↓Z26, ↓famK_r, ↓Z0p, ↓Z0m, ↓Z1j, ↓Z0a, Z1g, Z05, Z10, Z0s, Z0v, evN, Z11, Z0f, Z0u, Z1u, Z0e, Z09, Z0d, Z0q, evT, Opd.ev, Z01, Z00, Z0t, Z0o, Z0r, Z07, Z16, LOp.isNew, State.prune, Heap.at, Z08, Z04, Z2g, Z0y, StampG.row, Z1z, Int.toNat_natCast, Z2i, List.take_of_length_le, Z1r, Z20, Z1s, binT, binQ, chk, Z1y, Bool.and_self, resQ, resV, resT, Z0z, Z1e, fnOf, Z1d, isD, Z23, Z0n, RetS, Nat.le_refl, AV.d.injEq, DV.int.injEq, ↓reduceIte, Nat.reduceAdd, Nat.reduceBEq, List.length_cons, List.length_nil, List.replicate_zero, List.nil_append, List.cons_append, List.append_nil, List.map_cons, List.map_nil, List.all_cons, List.all_nil, List.getD_cons_zero, List.getD_cons_succ, List.drop_zero, List.drop_succ_cons, List.take_succ_cons, List.take_zero, List.flatten_cons, List.flatten_nil, true_and, and_true, decide_true, decide_false, and_self, Nat.reduceLT, Nat.reduceLeDiff, List.reverse_cons, List.reverse_nil, Nat.zero_add, Nat.add_zero, Bool.false_eq_true, pdSt, F6, G6, at_rat_Cmp, Int.reduceEq]
    have hnil : ¬ (i : Int) < W.length → Z2f ⟨2, o, m, n⟩ ⟨wn, wd⟩ fr W = none := fun c => by rw [hsc, List.drop_of_length_le (by omega)]; rfl
    have hsome : i < W.length → cmpG (W.getD i default).when ⟨wn, wd⟩ = 0 → P = (if (2 : Int) = 2 then (5 : Int) else if cmpG ⟨wn, wd⟩ fr < 0 then 6 else if (W.getD i default).val = m then 0 else 3) := fun hlt hc => by
      have hd := pastScan_drop (a := ⟨2, o, m, n⟩) (w := ⟨wn, wd⟩) (fr := fr) hlt
      rw [← hsc, if_pos hc] at hd
      rw [hmom, hd]
    have hnext : i < W.length → ¬ cmpG (W.getD i default).when ⟨wn, wd⟩ = 0 → Z2f ⟨2, o, m, n⟩ ⟨wn, wd⟩ fr W = Z2f ⟨2, o, m, n⟩ ⟨wn, wd⟩ fr (W.drop (i + 1)) := fun hlt hc => by
      have hd := pastScan_drop (a := ⟨2, o, m, n⟩) (w := ⟨wn, wd⟩) (fr := fr) hlt
      rw [← hsc, if_neg hc] at hd
      exact hd
    have hbd : (i : Int) < W.length → (0 : Int) ≤ i ∧ (i : Int) < W.length := fun c => ⟨by omega, c⟩
    refine ⟨fun c => ⟨hbd c, by omega, fun c1 => ?_, fun c1 => Z0l.mk [0, 1, 2, 3] (i + 1) (by simp) (by simp) (by simp only [State.can, AV.can, AV.canL, HO.can, Z14, idx, Z01, Z00, Heap.at, Nat.reduceBEq, ↓reduceIte, Nat.reduceEqDiff, Option.getD_some, Option.map_some, List.map_cons, List.map_nil, List.getD_cons_zero, List.getD_cons_succ, pdSt, Z12 (show i < W.length by omega) (by omega)]) ⟨by show i + 1 ≤ _; omega, hnext (by omega) c1⟩ (by show _ - (i + 1) < _ - i; omega)⟩, fun c => ⟨fun c1 => ?_, fun c1 => ?_⟩⟩
    · rw [hsome (by omega) c1, if_pos rfl]
    · rw [hmom, hnil c]; exact (if_pos c1).symm
    · rw [hmom, hnil c]; exact (if_neg c1).symm
  · simp (maxSteps := 3000000) only [↓Z0k, ↓Z0x, ↓Z02, ↓Z0i, ↓Z0j, ↓Z06, ↓Z0h, ↓Z1m, ↓Z0g, ↓Z1a, ↓Z0p, ↓Z0m, ↓Z1j, ↓Z0a, ↓boolK_and, Z1g, Z05, Z10, Z0s, Z18, Z0v, evN, Z11, Z0f, Z0u, Z1u, Z0e, Z09, Z0d, Z1v, Z1x, guardG_no, Z0q, evT, Opd.ev, Z01, Z00, Z0t, Z1q, Z17, Z1i, Z0o, Z0r, Z0w, Z07, Z16, LOp.isNew, State.prune, Z19, Z13, AV.leaf, Heap.at, Z08, Z04, Z0b, Z03, List.take_of_length_le, Z1r, Z20, Z1s, evUn, binT, binQ, chk, Z1y, List.contains_cons, List.contains_nil, Bool.or_false, Bool.and_self, resQ, resV, resT, pickV, Z0z, Z1e, fnOf, Z1d, isD, Z23, evEq, eqV, eqK, eqC1, buildQ, buildT, putRow, Z0n, RetS, Nat.le_refl, AV.d.injEq, DV.int.injEq, ↓reduceIte, Nat.reduceAdd, Nat.reduceBEq, List.length_cons, List.length_nil, List.replicate_succ, List.replicate_zero, List.nil_append, List.cons_append, List.append_nil, List.map_cons, List.map_nil, List.all_cons, List.all_nil, List.set_cons_zero, List.set_cons_succ, List.getD_cons_zero, List.getD_cons_succ, List.drop_zero, List.drop_succ_cons, List.take_succ_cons, List.take_zero, List.flatten_cons, List.flatten_nil, Bool.and_true, Bool.not_false, true_and, Option.bind_some, Option.map_some, decide_true, decide_false, and_self, Nat.reduceLT, Nat.reduceLeDiff, List.reverse_cons, List.reverse_nil, Nat.zero_add, Nat.add_zero, Bool.false_eq_true, F2, G2, F3, G3, at_Value, Z2b, Int.reduceEq]
    refine ⟨fun c => (hbad (.inl c)).symm, fun c => ⟨fun c2 => (hbad (.inr (.inl c2))).symm, fun c2 => ⟨fun c3 => ⟨fun c4 => ⟨⟨hloc (by omega) c3, by omega⟩, fun c5 => (hnon ?_ ?_ ?_).symm, fun c5 => (hval ?_ ⟨.inl rfl, c5⟩).symm⟩, fun c4 => (hbad (.inr (.inr (.inr (.inr ⟨by show ¬ ((3 : Int) = 1 ∨ (3 : Int) = 2); omega, hwn c4⟩))))).symm⟩, fun c3 => (hbad (.inr (.inr (.inl c3)))).symm⟩⟩⟩
    case refine_2 => exact fun h => h.2 c5
    case refine_3 => show ¬ ((3 : Int) = 1 ∨ (3 : Int) = 2); omega
    all_goals
      intro h
      rcases h with h | h | h | ⟨h, -⟩ | ⟨-, h⟩
      · exact c h
      · exact c2 h
      · have h : ActG.right ⟨3, o, m, n⟩ l = false := h
        rw [c3] at h; cases h
      · have h : (3 : Int) = 1 ∨ (3 : Int) = 2 := h
        omega
      · exact h (hwz c4)
  · simp (maxSteps := 3000000) only [↓Z0k, ↓Z0x, ↓Z02, ↓Z0i, ↓Z0j, ↓Z06, ↓Z0h, ↓Z1m, ↓Z0g, ↓Z1a, ↓Z0p, ↓Z0m, ↓Z1j, ↓Z0a, ↓boolK_and, Z1g, Z05, Z10, Z0s, Z18, Z0v, evN, Z11, Z0f, Z0u, Z1u, Z0e, Z09, Z0d, Z1v, Z1x, guardG_no, Z0q, evT, Opd.ev, Z01, Z00, Z0t, Z1q, Z17, Z1i, Z0o, Z0r, Z0w, Z07, Z16, LOp.isNew, State.prune, Z19, Z13, AV.leaf, Heap.at, Z08, Z04, Z0b, Z03, List.take_of_length_le, Z1r, Z20, Z1s, evUn, binT, binQ, chk, Z1y, List.contains_cons, List.contains_nil, Bool.or_false, Bool.and_self, resQ, resV, resT, pickV, Z0z, Z1e, fnOf, Z1d, isD, Z23, evEq, eqV, eqK, eqC1, buildQ, buildT, putRow, Z0n, RetS, Nat.le_refl, AV.d.injEq, DV.int.injEq, ↓reduceIte, Nat.reduceAdd, Nat.reduceBEq, List.length_cons, List.length_nil, List.replicate_succ, List.replicate_zero, List.nil_append, List.cons_append, List.append_nil, List.map_cons, List.map_nil, List.all_cons, List.all_nil, List.set_cons_zero, List.set_cons_succ, List.getD_cons_zero, List.getD_cons_succ, List.drop_zero, List.drop_succ_cons, List.take_succ_cons, List.take_zero, List.flatten_cons, List.flatten_nil, Bool.and_true, Bool.not_false, true_and, Option.bind_some, Option.map_some, decide_true, decide_false, and_self, Nat.reduceLT, Nat.reduceLeDiff, List.reverse_cons, List.reverse_nil, Nat.zero_add, Nat.add_zero, Bool.false_eq_true, F2, G2, F3, G3, at_Value, Z2b, Int.reduceEq]
    refine ⟨fun c => (hbad (.inl c)).symm, fun c => ⟨fun c2 => (hbad (.inr (.inl c2))).symm, fun c2 => ⟨fun c3 => ⟨fun c4 => ⟨⟨hloc (by omega) c3, by omega⟩, fun c5 => (hnon ?_ ?_ ?_).symm, fun c5 => (hval ?_ ⟨.inr rfl, c5⟩).symm⟩, fun c4 => (hbad (.inr (.inr (.inr (.inr ⟨by show ¬ ((5 : Int) = 1 ∨ (5 : Int) = 2); omega, hwn c4⟩))))).symm⟩, fun c3 => (hbad (.inr (.inr (.inl c3)))).symm⟩⟩⟩
    case refine_2 => exact fun h => h.2 c5
    case refine_3 => show ¬ ((5 : Int) = 1 ∨ (5 : Int) = 2); omega
    all_goals
      intro h
      rcases h with h | h | h | ⟨h, -⟩ | ⟨-, h⟩
      · exact c h
      · exact c2 h
      · have h : ActG.right ⟨5, o, m, n⟩ l = false := h
        rw [c3] at h; cases h
      · have h : (5 : Int) = 1 ∨ (5 : Int) = 2 := h
        omega
      · exact h (hwz c4)
  · simp (maxSteps := 3000000) only [↓Z0k, ↓Z0x, ↓Z02, ↓Z0i, ↓Z0j, ↓Z06, ↓Z0h, ↓Z1m, ↓Z0g, ↓Z1a, ↓Z0p, ↓Z0m, ↓Z1j, ↓Z0a, ↓boolK_and, Z1g, Z05, Z10, Z0s, Z18, Z0v, evN, Z11, Z0f, Z0u, Z1u, Z0e, Z09, Z0d, Z1v, Z1x, guardG_no, Z0q, evT, Opd.ev, Z01, Z00, Z0t, Z1q, Z17, Z1i, Z0o, Z0r, Z0w, Z07, Z16, LOp.isNew, State.prune, Z19, Z13, AV.leaf, Heap.at, Z08, Z04, Z0b, Z03, List.take_of_length_le, Z1r, Z20, Z1s, evUn, binT, binQ, chk, Z1y, List.contains_nil, Bool.and_self, resQ, resV, resT, pickV, Z0z, Z1e, fnOf, Z1d, isD, Z23, evEq, eqV, eqK, eqC1, buildQ, buildT, putRow, Z0n, RetS, Nat.le_refl, AV.d.injEq, DV.int.injEq, ↓reduceIte, Nat.reduceAdd, Nat.reduceBEq, List.length_cons, List.length_nil, List.replicate_succ, List.replicate_zero, List.nil_append, List.cons_append, List.append_nil, List.map_cons, List.map_nil, List.all_cons, List.all_nil, List.set_cons_zero, List.set_cons_succ, List.getD_cons_zero, List.getD_cons_succ, List.drop_zero, List.drop_succ_cons, List.take_succ_cons, List.take_zero, List.flatten_cons, List.flatten_nil, Bool.and_true, Bool.not_false, true_and, Option.bind_some, Option.map_some, decide_false, and_self, Nat.reduceLT, Nat.reduceLeDiff, List.reverse_cons, List.reverse_nil, Nat.zero_add, Nat.add_zero, Bool.false_eq_true, F3, G3, Z2b, e1, e2, e3, e4]
    refine ⟨fun c => (hbad (.inl c)).symm, fun c => ⟨fun c2 => (hbad (.inr (.inl c2))).symm, fun c2 => ⟨fun c3 => ⟨fun c4 => (hnon ?_ ?_ ?_).symm, fun c4 => (hbad (.inr (.inr (.inr (.inr ⟨by show ¬ (k = 1 ∨ k = 2); omega, hwn c4⟩))))).symm⟩, fun c3 => (hbad (.inr (.inr (.inl c3)))).symm⟩⟩⟩
    · intro h
      rcases h with h | h | h | ⟨h, -⟩ | ⟨-, h⟩
      · exact c h
      · exact c2 h
      · have h : ActG.right ⟨k, o, m, n⟩ l = false := h
        rw [c3] at h; cases h
      · have h : k = 1 ∨ k = 2 := h
        omega
      · exact h (hwz c4)
    · intro h
      have h : (k = 3 ∨ k = 5) ∧ _ := h
      omega
    · show ¬ (k = 1 ∨ k = 2); omega
end Go.Ago

/- A memory, and the steps that it comes from: they say the same. Conditions: none. -/
set_option maxRecDepth 100000
set_option linter.unusedSimpArgs false
set_option linter.unusedVariables false
namespace Go.Ago
theorem leastQ_idem {a : RatG} (h : Z29 a = true) : leastQ (leastQ a) = leastQ a := by
  have := (least_one (leastQ_right h) h).1 (leastQ_cmp h)
  unfold leastQ at this ⊢
  rw [this]
theorem least_eq {a b : RatG} (h1 : Z29 a = true) (h2 : Z29 b = true) (la : leastQ a = a) (lb : leastQ b = b) (h : cmpQ' a b = 0) : a = b := by
  have := (least_one h1 h2).1 h
  rw [← la, ← lb]
  unfold leastQ
  rw [this]
theorem max_comm {a b : RatG} (h1 : Z29 a = true) (h2 : Z29 b = true) (la : leastQ a = a) (lb : leastQ b = b) : ratMaxG a b = ratMaxG b a := by
  rw [ratMaxG_eq, ratMaxG_eq]
  have := cmpQ_anti a b
  by_cases h : cmpQ' a b < 0
  · rw [if_pos h, if_neg (by omega)]
  · by_cases h3 : cmpQ' b a < 0
    · rw [if_neg h, if_pos h3]
    · rw [if_neg h, if_neg h3]
      exact least_eq h1 h2 la lb (by omega)
theorem max_least {a b : RatG} (la : leastQ a = a) (lb : leastQ b = b) : leastQ (ratMaxG a b) = ratMaxG a b := by
  rw [ratMaxG_eq]; split <;> assumption
theorem leastG_eq (q : RatG) : leastG q = leastQ q := rfl
/-! ### What a step leaves -/
section
variable {m : Mem} {s : StepG} {b x : Nat}
theorem fr_do (h : m.Good b) (he : Z2a m s = 0) {u : Nat} (hu : u < m.fronts.length) (hx : x < m.locs.length) : frAt (doMem m s) u x =
    if s.act.kind = 2 ∧ u = s.thread.toNat ∧ s.act.loc.toNat = x then leastQ s.when
    else if isAt s.act.kind = true ∧ u = s.thread.toNat then ratMaxG (frAt m u x) (mkAt m s.act.loc.toNat x) else frAt m u x := by
  by_cases hk : s.act.kind = 2
  · have hna : ¬ isAt s.act.kind = true := by rw [isAt_iff]; omega
    rw [if_neg (fun e : isAt s.act.kind = true ∧ u = s.thread.toNat => hna e.1)]
    by_cases hc : u = s.thread.toNat ∧ s.act.loc.toNat = x
    · rw [if_pos ⟨hk, hc⟩, hc.1]
      exact fr_write h he hk hc.2
    · rw [if_neg (fun e => hc e.2)]
      unfold doMem frAt
      rw [if_pos hk]
      show ((m.fronts.set _ _).getD u []).getD x _ = _
      rw [getD_setQ]
      split
      · rename_i e
        rw [getD_setQ, if_neg (fun e2 => hc ⟨e.1.symm, e2.1⟩)]
        unfold frontOf; rw [e.1]
      · rfl
  · rw [if_neg (fun e => hk e.1)]
    by_cases hc : isAt s.act.kind = true ∧ u = s.thread.toNat
    · rw [if_pos hc, hc.2]
      exact fr_atom h he hc.1 hx
    · rw [if_neg hc]
      unfold doMem
      rw [if_neg hk]
      split
      · rename_i ha
        have hne : ¬ s.thread.toNat = u := fun e => hc ⟨ha, e.symm⟩
        split
        · unfold frAt
          show ((m.fronts.set _ _).getD u []).getD x _ = _
          rw [getD_setQ, if_neg (fun e => hne e.1)]
        · unfold frAt
          show ((m.fronts.set _ _).getD u []).getD x _ = _
          rw [getD_setQ, if_neg (fun e => hne e.1)]
      · rfl
theorem mk_do (h : m.Good b) (he : Z2a m s = 0) {y : Nat} (hx : x < m.locs.length) : mkAt (doMem m s) y x =
    if isSet s.act.kind = true ∧ y = s.act.loc.toNat then ratMaxG (frAt m s.thread.toNat x) (mkAt m y x) else mkAt m y x := by
  by_cases hc : isSet s.act.kind = true ∧ y = s.act.loc.toNat
  · rw [if_pos hc, hc.2]
    exact mk_set h he hc.1 hx
  · rw [if_neg hc]
    unfold doMem
    split
    · rfl
    · split
      · rename_i h2 ha
        split
        · rfl
        · rename_i h3
          have hs : isSet s.act.kind = true := by rw [isAt_iff] at ha; unfold isSet; simp; omega
          unfold mkAt
          show ((m.marks.set _ _).getD y []).getD x _ = _
          rw [getD_setQ, if_neg (fun e => hc ⟨hs, e.1.symm⟩)]
      · rfl
theorem val_do (h : m.Good b) (he : Z2a m s = 0) {y : Nat} (hy : y < m.locs.length) : (doMem m s).vals.getD y 0 = if isSet s.act.kind = true ∧ y = s.act.loc.toNat then s.act.new else m.vals.getD y 0 := by
  unfold doMem
  split
  · rename_i hk
    rw [if_neg]
    intro e
    unfold isSet at e
    simp at e
    omega
  · split
    · rename_i h2 ha
      split
      · rename_i h3
        rw [if_neg]
        intro e
        unfold isSet at e
        simp at e
        omega
      · rename_i h3
        have hs : isSet s.act.kind = true := by rw [isAt_iff] at ha; unfold isSet; simp; omega
        show (m.vals.set _ _).getD y 0 = _
        rw [getD_setQ]
        by_cases e : y = s.act.loc.toNat
        · rw [if_pos ⟨e.symm, by rw [h.wf.vals]; exact hy⟩, if_pos ⟨hs, e⟩]
        · rw [if_neg (fun h => e h.1.symm), if_neg (fun h => e h.2)]
    · rename_i h2 ha
      rw [if_neg]
      intro e
      exact ha (isAt_set e.1)
theorem mem_ins {L : List StampG} {i : Nat} {v e : StampG} : e ∈ insG L i v ↔ e = v ∨ e ∈ L := by
  unfold insG
  rw [List.mem_append, List.mem_cons]
  constructor
  · rintro (h | h | h)
    · exact .inr (List.mem_of_mem_take h)
    · exact .inl h
    · exact .inr (List.mem_of_mem_drop h)
  · rintro (h | h)
    · exact .inr (.inl h)
    · rw [← List.take_append_drop i L, List.mem_append] at h
      rcases h with h | h
      · exact .inl h
      · exact .inr (.inr h)
end
/-! ### Fronts, told by the steps -/
theorem frontG_pre {s : List StepG} {st : StepG} : ∀ {n : Nat} {who loc : Int}, n ≤ s.length → frontG (s ++ [st]) n who loc = frontG s n who loc := by
  intro n
  induction n with
  | zero => intro who loc _; rfl
  | succ n ih =>
    intro who loc h
    have e : (s ++ [st]).getD n default = s.getD n default := by
      rw [List.getD_eq_getElem?_getD, List.getD_eq_getElem?_getD, List.getElem?_append, if_pos (by omega)]
    simp only [frontG]
    rw [e, ih (by omega), ih (by omega), ih (by omega)]
theorem frontG_add {s : List StepG} {st : StepG} {who loc : Int} : frontG (s ++ [st]) (s ++ [st]).length who loc =
    if st.act.kind = 2 ∧ who = st.thread ∧ st.act.loc = loc then leastG st.when
    else if (st.act.kind = 3 ∨ st.act.kind = 4 ∨ st.act.kind = 5) ∧ who = st.thread then ratMaxG (frontG s s.length who loc) (frontG s s.length (-1 - st.act.loc) loc)
    else if (st.act.kind = 4 ∨ st.act.kind = 5) ∧ who = -1 - st.act.loc then ratMaxG (frontG s s.length who loc) (frontG s s.length st.thread loc)
    else frontG s s.length who loc := by
  have e : (s ++ [st]).getD s.length default = st := by simp
  rw [show (s ++ [st]).length = s.length + 1 by simp]
  simp only [frontG]
  rw [e, frontG_pre (Nat.le_refl _), frontG_pre (Nat.le_refl _), frontG_pre (Nat.le_refl _)]
/-- A memory is what its steps say. -/
structure AsPast (l : List LocG) (t : Int) (s : List StepG) (m : Mem) : Prop where
  locs : m.locs = l
  thr : (m.fronts.length : Int) = t
  fronts : ∀ u x, u < m.fronts.length → x < l.length → frAt m u x = frontG s s.length u x
  marks : ∀ y x, y < l.length → (l.getD y default).atom = true → x < l.length → mkAt m y x = frontG s s.length (-1 - (y : Int)) x
  vals : ∀ y, y < l.length → (l.getD y default).atom = true → m.vals.getD y 0 = valueG l s y
  past : ∀ x, x < l.length → (l.getD x default).atom = false → ∀ e, e ∈ paAt m x ↔ e ∈ Z2d l s x
  lf : ∀ u x, u < m.fronts.length → x < l.length → leastQ (frAt m u x) = frAt m u x
  lm : ∀ y x, y < l.length → (l.getD y default).atom = true → x < l.length → leastQ (mkAt m y x) = mkAt m y x
theorem like_step {l : List LocG} {t : Int} {s : List StepG} {m : Mem} {st : StepG} {b : Nat} (hL : AsPast l t s m) (hg : m.Good b) (he : Z2a m st = 0) : AsPast l t (s ++ [st]) (doMem m st) := by
  have ht := taken he
  have t0 := ht.t0
  have hu := take_u he
  have hlocs := doMem_locs m st
  have hfl := doMem_fronts m st
  have lp : st.act.kind = 2 → 0 ≤ st.act.loc := fun h => (ht.loc (.inl (by rw [h]; rfl))).1
  have la : isAt st.act.kind = true → 0 ≤ st.act.loc ∧ st.act.loc < l.length := fun h => by have := ht.loc (.inr h); rw [hL.locs] at this; exact this
  have at3 : (st.act.kind = 3 ∨ st.act.kind = 4 ∨ st.act.kind = 5) ↔ isAt st.act.kind = true := isAt_iff.symm
  have at2 : (st.act.kind = 4 ∨ st.act.kind = 5) ↔ isSet st.act.kind = true := by unfold isSet; simp
  have hmy : isAt st.act.kind = true → st.act.loc.toNat < l.length ∧ (l.getD st.act.loc.toNat default).atom = true := fun h => by have := take_at he h; rw [hL.locs] at this; exact this
  have hfd : ∀ u x, u < m.fronts.length → x < l.length → frAt (doMem m st) u x = frontG (s ++ [st]) (s ++ [st]).length u x := fun u x hu2 hx => by
    have e1 := fr_do hg he hu2 (x := x) (by rw [hL.locs]; exact hx)
    have e2 := frontG_add (s := s) (st := st) (who := (u : Int)) (loc := (x : Int))
    by_cases h1 : st.act.kind = 2 ∧ u = st.thread.toNat ∧ st.act.loc.toNat = x
    · rw [if_pos h1] at e1
      rw [if_pos ⟨h1.1, by omega, by have := lp h1.1; omega⟩] at e2
      rw [e1, e2, leastG_eq]
    · rw [if_neg h1] at e1
      rw [if_neg (fun h => h1 ⟨h.1, by omega, by have := lp h.1; omega⟩)] at e2
      by_cases h2 : isAt st.act.kind = true ∧ u = st.thread.toNat
      · rw [if_pos h2] at e1
        rw [if_pos ⟨at3.2 h2.1, by omega⟩] at e2
        rw [e1, e2, hL.fronts u x hu2 hx, hL.marks _ x (hmy h2.1).1 (hmy h2.1).2 hx]
        have := la h2.1
        rw [show ((st.act.loc.toNat : Nat) : Int) = st.act.loc by omega]
      · rw [if_neg h2] at e1
        rw [if_neg (fun h => h2 ⟨at3.1 h.1, by omega⟩), if_neg (fun h => by have := la (isAt_set (at2.1 h.1)); omega)] at e2
        rw [e1, e2]
        exact hL.fronts u x hu2 hx
  have hmd : ∀ y x, y < l.length → (l.getD y default).atom = true → x < l.length → mkAt (doMem m st) y x = frontG (s ++ [st]) (s ++ [st]).length (-1 - (y : Int)) x := fun y x hy ha hx => by
    have e1 := mk_do hg he (y := y) (x := x) (by rw [hL.locs]; exact hx)
    have e2 := frontG_add (s := s) (st := st) (who := -1 - (y : Int)) (loc := (x : Int))
    rw [if_neg (fun h => by omega), if_neg (fun h => by omega)] at e2
    by_cases h2 : isSet st.act.kind = true ∧ y = st.act.loc.toNat
    · have := la (isAt_set h2.1)
      rw [if_pos h2] at e1
      rw [if_pos ⟨at2.2 h2.1, by omega⟩] at e2
      have e3 := hL.fronts _ x hu hx
      rw [show ((st.thread.toNat : Nat) : Int) = st.thread by omega] at e3
      rw [e1, e2, ← hL.marks y x hy ha hx, ← e3]
      exact max_comm (fr_right hg hu (by rw [hL.locs]; exact hx)) (mk_right hg (by rw [hL.locs]; exact hy) (by rw [hL.locs]; exact ha) (by rw [hL.locs]; exact hx)) (hL.lf _ x hu hx) (hL.lm y x hy ha hx)
    · rw [if_neg h2] at e1
      rw [if_neg (fun h => h2 ⟨at2.1 h.1, by have := la (isAt_set (at2.1 h.1)); omega⟩)] at e2
      rw [e1, e2]
      exact hL.marks y x hy ha hx
  refine ⟨by rw [hlocs]; exact hL.locs, by rw [hfl]; exact hL.thr, fun u x hu2 hx => hfd u x (by rw [← hfl]; exact hu2) hx, hmd, fun y hy ha => ?_, fun x hx ha e => ?_, fun u x hu2 hx => ?_, fun y x hy ha hx => ?_⟩
  · rw [val_do hg he (by rw [hL.locs]; exact hy)]
    have : valueG l (s ++ [st]) y = stepSets y (valueG l s y) st := by unfold valueG; rw [List.foldl_append]; rfl
    rw [this]
    unfold stepSets
    by_cases h2 : isSet st.act.kind = true ∧ y = st.act.loc.toNat
    · have := la (isAt_set h2.1)
      rw [if_pos h2, if_pos ⟨by omega, at2.2 h2.1⟩]
    · rw [if_neg h2, if_neg (fun h => h2 ⟨at2.1 h.2, by omega⟩)]
      exact hL.vals y hy ha
  · have hw : Z2d l (s ++ [st]) x = stepWrites x (Z2d l s x) st := by unfold Z2d; rw [List.foldl_append]; rfl
    rw [hw]
    unfold stepWrites
    by_cases h2 : st.act.kind = 2 ∧ st.act.loc.toNat = x
    · have := lp h2.1
      rw [pa_write hg he h2.1 h2.2, mem_ins, if_pos ⟨h2.1, by omega⟩, List.mem_append, List.mem_singleton, leastG_eq, hL.past x hx ha e]
      exact or_comm
    · rw [pa_same h2, if_neg (fun h => h2 ⟨h.1, by omega⟩)]
      exact hL.past x hx ha e
  · rw [hfl] at hu2
    rw [fr_do hg he hu2 (by rw [hL.locs]; exact hx)]
    split
    · rename_i h1; exact leastQ_idem (ht.when (by rw [h1.1]; rfl))
    · split
      · rename_i h2; exact max_least (hL.lf u x hu2 hx) (hL.lm _ x (hmy h2.1).1 (hmy h2.1).2 hx)
      · exact hL.lf u x hu2 hx
  · rw [mk_do hg he (by rw [hL.locs]; exact hx)]
    split
    · exact max_least (hL.lf _ x hu hx) (hL.lm y x hy ha hx)
    · exact hL.lm y x hy ha hx
theorem like_new {l : List LocG} {t : Int} (h : newErr l t = 0) : AsPast l t [] (newM l t).plain := by
  have hb : l.length ≤ 16 ∧ 1 ≤ t ∧ t ≤ 3 := by unfold newErr at h; split at h; cases h; omega
  have hl := new_locs h
  have hf : (newM l t).plain.fronts.length = t.toNat := by
    unfold newM; rw [if_pos h]
    show (inn (frontX l.length t.toNat)).length = _
    rw [Z1p, frontX_len]
  have z : leastQ ⟨0, 1⟩ = ⟨0, 1⟩ := by decide
  have hm : ∀ y x, y < l.length → (l.getD y default).atom = true → x < l.length → mkAt (newM l t).plain y x = ⟨0, 1⟩ := fun y x hy ha hx => by
    unfold newM; rw [if_pos h]
    have e0 : (inn (l.map (markX l.length))).getD y [] = (markX l.length l[y]).1 := by
      rw [inn_map, List.getD_eq_getElem?_getD, List.getElem?_map, List.getElem?_eq_getElem hy]; rfl
    show ((inn (l.map (markX l.length))).getD y []).getD x default = _
    rw [e0]
    rw [Z28 hy] at ha
    unfold markX
    rw [if_pos ha]
    show (startG l.length).getD x default = _
    unfold startG
    rw [Z28 (by simpa using hx)]; simp
  refine ⟨hl, by omega, fun u x hu hx => new_front h hu hx, fun y x hy ha hx => hm y x hy ha hx, fun y hy ha => ?_, fun x hx ha e => ?_, fun u x hu hx => by rw [new_front h hu hx]; exact z, fun y x hy ha hx => by rw [hm y x hy ha hx]; exact z⟩
  · have : (newM l t).plain.vals = l.map valX := by unfold newM; rw [if_pos h]; rfl
    rw [this, List.getD_eq_getElem?_getD, List.getElem?_map, List.getElem?_eq_getElem hy]
    show valX l[y] = (l.getD (y : Int).toNat default).init
    rw [Int.toNat_natCast]
    rw [Z28 hy] at ha ⊢
    unfold valX; rw [if_pos ha]
  · rw [new_past h hx ha]
    show _ ↔ e ∈ [(⟨⟨0, 1⟩, (l.getD (x : Int).toNat default).init⟩ : StampG)]
    rw [Int.toNat_natCast]
/-! ### One more step -/
theorem scan_none {a : ActG} {w fr : RatG} : ∀ {W : List StampG}, (∀ e ∈ W, cmpG e.when w ≠ 0) → Z2f a w fr W = none := by
  intro W
  induction W with
  | nil => intro _; rfl
  | cons e W ih =>
    intro h
    simp only [Z2f]
    rw [if_neg (h e (by simp))]
    exact ih fun x hx => h x (by simp [hx])
theorem scan_some {a : ActG} {w fr : RatG} {e : StampG} : ∀ {W : List StampG}, e ∈ W → cmpG e.when w = 0 → (∀ x ∈ W, cmpG x.when w = 0 → x = e) → Z2f a w fr W = some (if a.kind = 2 then 5 else if cmpG w fr < 0 then 6 else if e.val = a.old then 0 else 3) := by
  intro W
  induction W with
  | nil => intro h; cases h
  | cons x W ih =>
    intro h hc hu
    simp only [Z2f]
    by_cases hx : cmpG x.when w = 0
    · rw [if_pos hx, hu x (by simp) hx]
    · rw [if_neg hx]
      rcases List.mem_cons.1 h with rfl | h
      · exact absurd hc hx
      · exact ih h hc fun y hy => hu y (by simp [hy])
theorem like_do {l : List LocG} {t : Int} {s : List StepG} {m : Mem} {st : StepG} {b : Nat} (hL : AsPast l t s m) (hg : m.Good b) : pastDo l t s st = Z2a m st := by
  have hthr := hL.thr
  have bad : (st.thread < 0 ∨ t ≤ st.thread ∨ st.act.right l = false ∨ ((st.act.kind = 1 ∨ st.act.kind = 2) ∧ rat_rightG st.when = false) ∨ (¬ (st.act.kind = 1 ∨ st.act.kind = 2) ∧ st.when ≠ ⟨0, 0⟩)) ↔ goodQ m st = false := by
    have eg : (goodQ m st = false) ↔ ¬ (goodQ m st = true) := by simp
    rw [eg, good_iff, hL.locs, isPl_iff]
    have e : rat_rightG st.when = Z29 st.when := rfl
    rw [e]
    constructor
    · rintro (h | h | h | ⟨h, h2⟩ | ⟨h, h2⟩) ⟨g1, g2, g3, g4, g5⟩
      · omega
      · omega
      · rw [h] at g3; cases g3
      · rw [g4 h] at h2; cases h2
      · exact h2 (g5 (by rw [← Bool.not_eq_true, isPl_iff]; exact h))
    · intro h
      by_cases h1 : st.thread < 0
      · exact .inl h1
      · by_cases h2 : t ≤ st.thread
        · exact .inr (.inl h2)
        · cases h3 : st.act.right l with
          | false => exact .inr (.inr (.inl rfl))
          | true =>
            refine .inr (.inr (.inr ?_))
            by_cases h4 : st.act.kind = 1 ∨ st.act.kind = 2
            · refine .inl ⟨h4, ?_⟩
              cases h5 : Z29 st.when with
              | false => rfl
              | true => exact absurd ⟨by omega, by omega, h3, fun _ => h5, fun e => absurd h4 (by rw [← isPl_iff, e]; decide)⟩ h
            · refine .inr ⟨h4, fun e => ?_⟩
              exact h ⟨by omega, by omega, h3, fun e => absurd e h4, fun _ => e⟩
  by_cases hb : goodQ m st = false
  · rw [pastDo_bad (bad.2 hb)]
    unfold Z2a; rw [if_pos hb]
  · have hnb := fun h => hb (bad.1 h)
    have hgood : goodQ m st = true := by simpa using hb
    obtain ⟨g1, g2, g3, g4, g5⟩ := good_iff.1 hgood
    have hu : st.thread.toNat < m.fronts.length := by omega
    have hloc : isPl st.act.kind = true ∨ isAt st.act.kind = true → 0 ≤ st.act.loc ∧ st.act.loc < m.locs.length := fun hk => by
      obtain ⟨t, ⟨k, o, q, v⟩, w⟩ := st
      exact right_locQ hk g3
    have pl : st.act.kind = 1 ∨ st.act.kind = 2 → ∀ P : Int, (Z2f st.act st.when (frontG s s.length st.thread st.act.loc) (Z2d l s st.act.loc)).getD P =
        if bsHas (pastOf m st) st.when = true then (if st.act.kind = 2 then 5 else if cmpQ' st.when ((frontOf m st).getD st.act.loc.toNat default) < 0 then 6 else if ((pastOf m st).getD (bsAt (pastOf m st) st.when) default).val = st.act.old then 0 else 3) else P := fun hk P => by
      have hp := isPl_iff.2 hk
      obtain ⟨h0, h1⟩ := hloc (.inl hp)
      have hx : st.act.loc.toNat < l.length := by rw [← hL.locs]; omega
      have ha : (l.getD st.act.loc.toNat default).atom = false := by rw [← hL.locs]; exact right_plain hp g3
      have hwr := g4 hp
      have hr := pa_rising hg (x := st.act.loc.toNat) (by omega)
      have hmem := hL.past _ hx ha
      rw [show ((st.act.loc.toNat : Nat) : Int) = st.act.loc by omega] at hmem
      have hfr := hL.fronts _ _ hu hx
      rw [show ((st.act.loc.toNat : Nat) : Int) = st.act.loc by omega, show ((st.thread.toNat : Nat) : Int) = st.thread by omega] at hfr
      rw [← hfr]
      have hpo : pastOf m st = paAt m st.act.loc.toNat := rfl
      have hfo : (frontOf m st).getD st.act.loc.toNat default = frAt m st.thread.toNat st.act.loc.toNat := rfl
      rw [hpo, hfo]
      cases hh : bsHas (paAt m st.act.loc.toNat) st.when with
      | true =>
        obtain ⟨q1, q2⟩ := bsHas_true hh
        have := scan_some (a := st.act) (w := st.when) (fr := frAt m st.thread.toNat st.act.loc.toNat) ((hmem _).1 (getD_mem q1)) q2 (fun x hx2 hc => by
          obtain ⟨k, hk2, rfl⟩ := mem_getD ((hmem x).2 hx2)
          rw [(bsHas_of hr hwr hk2 hc).2])
        rw [this, if_pos rfl]; rfl
      | false =>
        have := scan_none (a := st.act) (w := st.when) (fr := frAt m st.thread.toNat st.act.loc.toNat) (W := Z2d l s st.act.loc) (fun e hx2 => by
          obtain ⟨k, hk2, rfl⟩ := mem_getD ((hmem e).2 hx2)
          exact bsHas_false hr hwr hh hk2)
        rw [this, if_neg (by decide)]; rfl
    unfold Z2a
    rw [if_neg hb]
    by_cases k1 : st.act.kind = 1
    · have e1 : pastDo l t s st = (Z2f st.act st.when (frontG s s.length st.thread st.act.loc) (Z2d l s st.act.loc)).getD (if st.act.kind = 1 then 4 else if cmpG st.when (frontG s s.length st.thread st.act.loc) ≤ 0 then 6 else 0) := (pastDo_mom (s := s) hnb (.inl k1)).trans (by generalize Z2f st.act st.when (frontG s s.length st.thread st.act.loc) (Z2d l s st.act.loc) = o; cases o <;> rfl)
      rw [e1, if_pos k1, pl (.inl k1), if_pos k1]
      cases hh : bsHas (pastOf m st) st.when with
      | true =>
        generalize cmpQ' st.when ((frontOf m st).getD st.act.loc.toNat default) = c
        generalize ((pastOf m st).getD (bsAt (pastOf m st) st.when) default).val = v
        have n2 : ¬ st.act.kind = 2 := by omega
        by_cases a : c < 0 <;> by_cases e : v = st.act.old <;> simp [a, e, n2]
      | false => rw [if_neg (by decide), if_pos rfl]
    · rw [if_neg k1]
      by_cases k2 : st.act.kind = 2
      · have hp := isPl_iff.2 (.inr k2)
        obtain ⟨h0, h1⟩ := hloc (.inl hp)
        have hx : st.act.loc.toNat < l.length := by rw [← hL.locs]; omega
        have hfr := hL.fronts _ _ hu hx
        rw [show ((st.act.loc.toNat : Nat) : Int) = st.act.loc by omega, show ((st.thread.toNat : Nat) : Int) = st.thread by omega] at hfr
        have e1 : pastDo l t s st = (Z2f st.act st.when (frontG s s.length st.thread st.act.loc) (Z2d l s st.act.loc)).getD (if st.act.kind = 1 then 4 else if cmpG st.when (frontG s s.length st.thread st.act.loc) ≤ 0 then 6 else 0) := (pastDo_mom (s := s) hnb (.inr k2)).trans (by generalize Z2f st.act st.when (frontG s s.length st.thread st.act.loc) (Z2d l s st.act.loc) = o; cases o <;> rfl)
        rw [e1, pl (.inr k2), if_neg k1, if_pos k2, if_pos k2, ← hfr]
        rfl
      · rw [if_neg k2]
        have hnp : ¬ (st.act.kind = 1 ∨ st.act.kind = 2) := by omega
        by_cases hv : (st.act.kind = 3 ∨ st.act.kind = 5) ∧ valueG l s st.act.loc ≠ st.act.old
        · have hat : isAt st.act.kind = true := isAt_iff.2 (by omega)
          obtain ⟨h0, h1⟩ := hloc (.inr hat)
          have ha : (l.getD st.act.loc.toNat default).atom = true := by
            rw [← hL.locs]
            obtain ⟨t, ⟨k, o, q, v⟩, w⟩ := st
            exact right_atom hat g3
          have hvv := hL.vals st.act.loc.toNat (by rw [← hL.locs]; omega) ha
          rw [show ((st.act.loc.toNat : Nat) : Int) = st.act.loc by omega] at hvv
          rw [pastDo_val hnb hv, if_pos ⟨hat, by omega, by rw [hvv]; exact hv.2⟩]
        · rw [pastDo_non hnb hv hnp, if_neg]
          rintro ⟨hat, h4, hne⟩
          obtain ⟨h0, h1⟩ := hloc (.inr hat)
          have ha : (l.getD st.act.loc.toNat default).atom = true := by
            rw [← hL.locs]
            obtain ⟨t, ⟨k, o, q, v⟩, w⟩ := st
            exact right_atom hat g3
          have hvv := hL.vals st.act.loc.toNat (by rw [← hL.locs]; omega) ha
          rw [show ((st.act.loc.toNat : Nat) : Int) = st.act.loc by omega] at hvv
          rw [isAt_iff] at hat
          exact hv ⟨by omega, by rw [← hvv]; exact hne⟩
end Go.Ago

/- Contracts of the reference of layer 22. Conditions: none. -/
set_option maxRecDepth 100000
set_option linter.unusedSimpArgs false
set_option linter.unusedVariables false
namespace Go.Ago
/-! ### direct -/
def sp_direct : Sp := ⟨StepG × StepG, fun x => [x.1.av7, x.2.av7], fun x => .data True (.d (.bool (dirB x.1 x.2))) true⟩
theorem at_direct (t k o q v n d t' k' o' q' v' n' d' : Int) : sp_direct.at [.agg [.d (.int .i64 t), .d (.int .i64 k), .d (.int .i64 o), .d (.int .i64 q), .d (.int .i64 v), .d (.int .i64 n), .d (.int .i64 d)],
    .agg [.d (.int .i64 t'), .d (.int .i64 k'), .d (.int .i64 o'), .d (.int .i64 q'), .d (.int .i64 v'), .d (.int .i64 n'), .d (.int .i64 d')]] = .data True (.d (.bool (dirB ⟨t, ⟨k, o, q, v⟩, ⟨n, d⟩⟩ ⟨t', ⟨k', o', q', v'⟩, ⟨n', d'⟩⟩))) true :=
  Sp.at_enc (s := sp_direct) (fun x y h => by
    obtain ⟨⟨a1, ⟨a2, a3, a4, a5⟩, ⟨a6, a7⟩⟩, ⟨b1, ⟨b2, b3, b4, b5⟩, ⟨b6, b7⟩⟩⟩ := x
    obtain ⟨⟨c1, ⟨c2, c3, c4, c5⟩, ⟨c6, c7⟩⟩, ⟨d1, ⟨d2, d3, d4, d5⟩, ⟨d6, d7⟩⟩⟩ := y
    simp only [sp_direct, StepG.av7, List.cons.injEq, AV.agg.injEq, AV.d.injEq, DV.int.injEq, and_true, true_and] at h
    obtain ⟨⟨h1, h2, h3, h4, h5, h6, h7⟩, i1, i2, i3, i4, i5, i6, i7⟩ := h
    rw [h1, h2, h3, h4, h5, h6, h7, i1, i2, i3, i4, i5, i6, i7]) (⟨t, ⟨k, o, q, v⟩, ⟨n, d⟩⟩, ⟨t', ⟨k', o', q', v'⟩, ⟨n', d'⟩⟩)
theorem body_ref22_direct {T : Tab} : sp_direct.Body T V_ref22_direct L_ref22_direct R_ref22_direct := by
  rintro ⟨a, b⟩ -
  refine .inl ⟨rfl, ?_⟩
  unfold V_ref22_direct L_ref22_direct R_ref22_direct
  simp (maxSteps := 3000000) only [↓Z0k, ↓Z0x, ↓Z02, ↓Z0i, ↓Z0j, ↓Z06, ↓Z0h, ↓Z1m, ↓Z0g, ↓Z1a, ↓Z0p, ↓Z0m, ↓Z0a, Z1g, Z05, Z0s, Z18, Z0v, evN, Z0f, Z0u, Z0e, Z09, Z0d, Z1v, Z1x, guardG_no, Z0q, evT, Opd.ev, Z01, Z00, Z0t, Z17, Z1i, Z0o, Z0r, Z0w, Z07, Z16, LOp.isNew, State.prune, Z19, Z13, AV.leaf, Heap.at, Z08, Z04, Z1r, Z20, Z1s, binT, binQ, Bool.and_self, resQ, resV, resT, pickV, Z0n, RetS, AV.d.injEq, DV.bool.injEq, ↓reduceIte, Nat.reduceAdd, Nat.reduceBEq, List.length_cons, List.length_nil, List.replicate_succ, List.replicate_zero, List.nil_append, List.append_nil, List.map_cons, List.map_nil, List.all_cons, List.all_nil, List.set_cons_zero, List.set_cons_succ, List.getD_cons_zero, List.getD_cons_succ, true_and, and_self, Nat.reduceLT, Nat.zero_add, Nat.add_zero, Bool.false_eq_true, sp_direct, StepG.av7, Z04]
  unfold dirB isSet isAt
  (repeat' (first | intro _ | apply And.intro))
  all_goals simp [*]
/-! ### Played -/
def uptoS (ss : List StepG) (i : Nat) : List StepG := (List.range i).map fun j => ss.getD j default
theorem uptoS_len {ss : List StepG} {i : Nat} : (uptoS ss i).length = i := by simp [uptoS]
theorem uptoS_succ {ss : List StepG} {i : Nat} : uptoS ss (i + 1) = uptoS ss i ++ [ss.getD i default] := by unfold uptoS; rw [List.range_succ, List.map_append]; rfl
theorem uptoS_take {ss : List StepG} {i : Nat} (h : i ≤ ss.length) : ss.take i = uptoS ss i := by
  apply List.ext_getElem
  · rw [uptoS_len, List.length_take]; omega
  · intro j h1 h2
    have : j < ss.length := by rw [List.length_take] at h1; omega
    simp only [uptoS, List.getElem_map, List.getElem_range, List.getElem_take]
    exact (Z28 this).symm
theorem uptoS_in {ss : List StepG} {i : Nat} {P : StepG → Prop} (h : ∀ x ∈ ss, P x) (hi : i ≤ ss.length) : ∀ x ∈ uptoS ss i, P x := by
  intro x hx
  rw [← uptoS_take hi] at hx
  exact h x (List.mem_of_mem_take hx)
theorem at_pastDo (l : List LocG) (f : Bool) (t : Int) (s : List StepG) (g : Bool) (th k o q v n d : Int) : sp_pastDo.at [.agg [.d (.list (l.map LocG.row) f), .d (.int .i64 t), .d (.list (s.map StepG.row) g)],
    .agg [.d (.int .i64 th), .d (.int .i64 k), .d (.int .i64 o), .d (.int .i64 q), .d (.int .i64 v), .d (.int .i64 n), .d (.int .i64 d)]] = .data (DoOk s) (.d (.int .i64 (pastDo l t s ⟨th, ⟨k, o, q, v⟩, ⟨n, d⟩⟩))) true :=
  Sp.at_enc (s := sp_pastDo) (fun x y h => by
    obtain ⟨a, b, c, d, e, ⟨a1, ⟨a2, a3, a4, a5⟩, ⟨a6, a7⟩⟩⟩ := x
    obtain ⟨a', b', c', d', e', ⟨c1, ⟨c2, c3, c4, c5⟩, ⟨c6, c7⟩⟩⟩ := y
    simp only [sp_pastDo, List.cons.injEq, AV.agg.injEq, AV.d.injEq, DV.list.injEq, DV.int.injEq, and_true, true_and] at h
    obtain ⟨⟨⟨h1, h2⟩, h3, h4, h5⟩, i1, i2, i3, i4, i5, i6, i7⟩ := h
    rw [Z1k LocG.row_inj h1, h2, h3, Z1k StepG.row_inj h4, h5, i1, i2, i3, i4, i5, i6, i7]) (l, f, t, s, g, ⟨th, ⟨k, o, q, v⟩, ⟨n, d⟩⟩)
theorem at_pastDo0 (l : List LocG) (f : Bool) (t : Int) (g : Bool) (th k o q v n d : Int) : sp_pastDo.at [.agg [.d (.list (l.map LocG.row) f), .d (.int .i64 t), .d (.list [] g)],
    .agg [.d (.int .i64 th), .d (.int .i64 k), .d (.int .i64 o), .d (.int .i64 q), .d (.int .i64 v), .d (.int .i64 n), .d (.int .i64 d)]] = .data (DoOk []) (.d (.int .i64 (pastDo l t [] ⟨th, ⟨k, o, q, v⟩, ⟨n, d⟩⟩))) true := at_pastDo l f t [] g th k o q v n d
def sp_Played22 : Sp := ⟨List LocG × Bool × Int × List StepG × Bool, fun x => [.d (.list (x.1.map LocG.row) x.2.1), .d (.int .i64 x.2.2.1), .d (.list (x.2.2.2.1.map StepG.row) x.2.2.2.2)],
  fun x => .data (x.1.length ≤ maxLen ∧ x.2.2.2.1.length ≤ maxLen ∧ ∀ y ∈ x.2.2.2.1, inI y.act.loc) (.d (.int .i64 (Z25 x.1 x.2.2.1 x.2.2.2.1))) true⟩
theorem at_Played22 (l : List LocG) (f : Bool) (t : Int) (ss : List StepG) (g : Bool) : sp_Played22.at [.d (.list (l.map LocG.row) f), .d (.int .i64 t), .d (.list (ss.map StepG.row) g)] =
    .data (l.length ≤ maxLen ∧ ss.length ≤ maxLen ∧ ∀ y ∈ ss, inI y.act.loc) (.d (.int .i64 (Z25 l t ss))) true :=
  Sp.at_enc (s := sp_Played22) (fun x y h => by
    obtain ⟨l, f, t, ss, g⟩ := x; obtain ⟨l', f', t', ss', g'⟩ := y
    simp only [sp_Played22, List.cons.injEq, AV.d.injEq, DV.list.injEq, DV.int.injEq, and_true, true_and] at h
    obtain ⟨⟨h1, h2⟩, h3, h4, h5⟩ := h
    rw [Z1k LocG.row_inj h1, h2, h3, Z1k StepG.row_inj h4, h5]) (l, f, t, ss, g)
def plSt (l : List LocG) (f : Bool) (t : Int) (ss : List StepG) (g : Bool) : Nat → State
  | 0 => ⟨[(2, .d (.list (ss.map StepG.row) g)), (7, .ptr 0 3 0 0), (8, .d (.int .i64 0))], [.vec 3 [[.d (.list (l.map LocG.row) f), .d (.int .i64 t), .d (.list [] true)]]]⟩
  | i + 1 => ⟨[(2, .d (.list (ss.map StepG.row) g)), (7, .ptr 0 3 0 0), (8, .d (.int .i64 ((i + 1 : Nat) : Int)))], [.vec 3 [[.d (.list (l.map LocG.row) f), .d (.int .i64 t), .ref 1 7 0 (i + 1) true]], .dvec 7 ((uptoS ss (i + 1)).map StepG.row)]⟩
set_option maxHeartbeats 4000000 in
theorem body_ref22_Played {T : Tab} {n1 : Nat} (k1 : Knows T n1 sp_pastDo) : sp_Played22.Body T V_ref22_Played (L_ref22_Played n1) R_ref22_Played := by
  have F1 := k1.F; have G1 := k1.G
  rintro ⟨l, f, t, ss, g⟩ ⟨hl, hs, hin⟩
  have hl : l.length ≤ maxLen := hl
  have hs : ss.length ≤ maxLen := hs
  have hin : ∀ y ∈ ss, inI y.act.loc := hin
  refine .inl ⟨rfl, ?_⟩
  unfold V_ref22_Played L_ref22_Played R_ref22_Played
  simp (maxSteps := 3000000) only [↓Z0k, ↓Z0x, ↓Z02, ↓Z0i, ↓Z0j, ↓Z0c, ↓Z1n, ↓Z06, ↓Z0h, ↓Z1m, ↓Z0g, ↓Z1a, ↓Z0p, ↓Z0m, ↓Z0a, Z1g, Z05, Z0s, Z18, Z0v, evN, Z0f, Z0u, Z0e, Z09, Z0d, Z1x, Z0q, evT, Opd.ev, Z01, Z00, Z0t, Z1q, Z17, Z1i, Z0o, Z0r, Z0w, Z07, Z16, LOp.isNew, State.prune, Z19, Z13, AV.leaf, Heap.at, Z0b, Z03, Z2i, List.length_map, Z1s, binT, binQ, Bool.and_self, resQ, resV, resT, pickV, buildQ, buildT, putRow, Z0n, RetS, Nat.le_refl, AV.d.injEq, DV.int.injEq, ↓reduceIte, Nat.reduceAdd, Nat.reduceBEq, List.length_cons, List.length_nil, List.replicate_succ, List.replicate_zero, List.nil_append, List.cons_append, List.append_nil, List.map_cons, List.map_nil, List.all_cons, List.all_nil, List.set_cons_zero, List.getD_cons_zero, List.drop_zero, List.drop_succ_cons, List.take_succ_cons, List.take_zero, true_and, and_self, Nat.reduceLT, Nat.reduceLeDiff, Nat.zero_add, Nat.add_zero, Bool.false_eq_true, sp_Played22, Z03]
  have e15 : 64 < (ss.length : Int) → 15 = Z25 l t ss := fun c => by unfold Z25; rw [if_pos (by omega)]
  have e1 : ¬ 64 < (ss.length : Int) → (16 < (l.length : Int) ∨ t < 1 ∨ 3 < t) → 1 = Z25 l t ss := fun c c2 => by
    have hn : newErr l t = 1 := if_pos (by omega)
    unfold Z25; rw [if_neg (by omega), hn, if_neg (by decide)]
  refine ⟨e15, fun c => ⟨fun c1 => e1 c (.inl c1), fun c1 => ⟨fun c2 => e1 c (.inr (.inl c2)), fun c2 => ⟨fun c3 => e1 c (.inr (.inr c3)), fun c3 => ?_⟩⟩⟩⟩
  clear e15 e1
  have hne : newErr l t = 0 := if_neg (by omega)
  have hpe : Z25 l t ss = firstBad (newM l t) ss := by unfold Z25; rw [if_neg (by omega), if_pos hne]
  have hg0 := newM_good hne
  have hl0 := like_new hne
  generalize newM l t = M at *
  refine Loop.fam [2, 7, 8] (plSt l f t ss g) (fun i => i ≤ ss.length ∧ (∀ j, j < i → Z2a (goM M ss j).plain (ss.getD j default) = 0) ∧ AsPast l t (uptoS ss i) (goM M ss i).plain) (fun i => ss.length - i) 0 [0] (by simp) (by simp) (by simp only [State.can, AV.can, AV.canL, HO.can, Z14, idx, Z01, Z00, Heap.at, Nat.reduceBEq, ↓reduceIte, Option.getD_some, Option.map_some, List.map_cons, List.map_nil, List.getD_cons_zero, plSt]) ⟨Nat.zero_le _, fun j hj => absurd hj (by omega), hl0⟩ ?_
  rintro i ⟨hi, hj, hL⟩
  have hi : i ≤ ss.length := hi
  have hgood : (goM M ss i).plain.Good (1 + i) := goM_good hg0 ss i
  have hdo := like_do (st := ss.getD i default) hL hgood
  have next : i < ss.length → Z2a (goM M ss i).plain (ss.getD i default) = 0 → (∀ j, j < i + 1 → Z2a (goM M ss j).plain (ss.getD j default) = 0) ∧ AsPast l t (uptoS ss (i + 1)) (goM M ss (i + 1)).plain := fun hlt he => by
    refine ⟨fun j hj2 => ?_, ?_⟩
    · rcases Nat.lt_or_eq_of_le (Nat.le_of_lt_succ hj2) with h | rfl
      · exact hj j h
      · exact he
    · rw [goM_succ M hlt, uptoS_succ]
      unfold stepM
      rw [if_pos he, plain_av]
      exact like_step hL hgood he
  have hok : DoOk (uptoS ss i) := ⟨by rw [uptoS_len]; omega, uptoS_in hin hi⟩
  have hbadE : i < ss.length → ¬ pastDo l t (uptoS ss i) (ss.getD i default) = 0 → pastDo l t (uptoS ss i) (ss.getD i default) = Z25 l t ss := fun hlt h => by
    rw [hpe, hdo]; rw [hdo] at h
    exact (firstBad_at hlt hj h).symm
  have hend : ¬ (i : Int) < ss.length → 0 = Z25 l t ss := fun h => by
    have hie : i = ss.length := by omega
    rw [hpe, firstBad_ok (fun j hj2 => hj j (by omega))]
  rcases i with _ | i
  · have u0 : uptoS ss 0 = [] := rfl
    rw [u0] at hok hbadE hdo
    simp (maxSteps := 3000000) only [↓Z0k, ↓Z0x, ↓Z1c, ↓Z02, ↓Z0i, ↓Z0j, ↓Z0c, ↓Z06, ↓Z0h, ↓Z1o, ↓Z1m, ↓Z1h, ↓Z1b, ↓blockK_r, ↓Z0g, ↓Z1a, ↓famK_n, ↓Z26, ↓famK_r, ↓Z1j, ↓Z0a, Z1g, Z05, Z10, Z0s, Z0v, evN, Z11, Z0f, Z0u, Z1u, Z0e, Z09, Z0d, Z0q, evT, Opd.ev, Z01, Z00, Z0t, Z1q, Z17, Z0o, Z0r, Z07, Z16, LOp.isNew, State.prune, Z19, Z13, AV.leaf, Heap.at, Z08, Z15, Z04, idx_Step, Z0b, Z03, StepG.row, ActG.eta, RatG.eta, Z1z, Int.reduceToNat, Z2i, evAppend, srcOf, Src.all, Src.len, Src.leaf, joinV, mkVec, drows, List.length_map, List.take_of_length_le, Nat.sub_zero, Z1r, Z20, Z1s, binT, binQ, chk, Z1y, List.contains_cons, List.contains_nil, Bool.or_false, Bool.and_self, resQ, resV, resT, Z0z, Z1e, fnOf, Z1d, isD, Z23, buildRQ, buildRT, List.mem_cons, List.not_mem_nil, or_false, forall_eq, putRow, dcells, Z0n, RetS, Nat.le_refl, AV.d.injEq, DV.int.injEq, ↓reduceIte, Nat.reduceAdd, Nat.reduceBEq, List.length_cons, List.length_nil, List.replicate_succ, List.replicate_zero, List.nil_append, List.cons_append, List.append_nil, List.map_cons, List.map_nil, List.all_cons, List.all_nil, List.set_cons_zero, List.set_cons_succ, List.getD_cons_zero, List.getD_cons_succ, List.drop_zero, List.drop_succ_cons, List.take_succ_cons, List.take_zero, List.flatten_cons, List.flatten_nil, Bool.true_and, Bool.not_false, true_and, or_true, Option.bind_some, Option.map_some, false_implies, implies_true, and_self, Nat.reduceLT, List.reverse_cons, List.reverse_nil, Nat.zero_add, Nat.add_zero, Bool.false_eq_true, plSt, F1, G1, at_pastDo0, Z04, Z03]
    refine ⟨fun c => ⟨⟨by omega, by omega⟩, hok, fun h => ⟨⟨by omega, by omega⟩, Z1t (by decide) (by decide), ?_⟩, fun h => hbadE (by omega) h⟩, fun c => hend (by omega)⟩
    obtain ⟨n1, n2⟩ := next (by omega) (by rw [← hdo]; exact h)
    exact Z0l.mk [0, 2] 1 (by simp) (by simp) (by simp only [State.can, AV.can, AV.canL, HO.can, Z14, idx, Z01, Z00, Heap.at, Nat.reduceBEq, ↓reduceIte, Nat.reduceEqDiff, Option.getD_some, Option.map_some, List.map_cons, List.map_nil, List.getD_cons_zero, List.getD_cons_succ, plSt]; rfl) ⟨by show 1 ≤ _; omega, n1, n2⟩ (by show _ - 1 < _; omega)
  · simp (maxSteps := 3000000) only [↓Z0k, ↓Z0x, ↓Z1c, ↓Z02, ↓Z0i, ↓Z0j, ↓Z0c, ↓Z06, ↓Z0h, ↓Z1o, ↓Z1m, ↓Z1h, ↓Z1b, ↓blockK_r, ↓Z0g, ↓Z1a, ↓famK_n, ↓Z26, ↓famK_r, ↓Z1j, ↓Z0a, Z1g, Z05, Z10, Z0s, Z0v, evN, Z11, Z0f, Z0u, Z1u, Z0e, Z09, Z0d, Z0q, evT, Opd.ev, Z01, Z00, Z0t, Z1q, Z17, Z0o, Z0r, Z07, Z16, LOp.isNew, State.prune, Z19, Z13, AV.leaf, Heap.at, Z08, Z15, Z04, idx_Step, Z0b, Z03, StepG.row, ActG.eta, RatG.eta, Z1z, app_rowStep, Int.toNat_natCast, Z2i, evAppend, srcOf, Src.all, Src.len, Src.leaf, joinV, mkVec, drows, List.length_map, List.take_of_length_le, Z1r, Z20, Z1s, binT, binQ, chk, Z1y, List.contains_cons, List.contains_nil, Bool.or_false, Bool.and_self, resQ, resV, resT, Z0z, Z1e, fnOf, Z1d, isD, Z23, buildRQ, buildRT, List.mem_cons, List.not_mem_nil, or_false, forall_eq, putRow, dcells, Z0n, RetS, Nat.le_refl, AV.d.injEq, DV.int.injEq, ↓reduceIte, Nat.reduceAdd, Nat.reduceBEq, List.length_cons, List.length_nil, List.replicate_succ, List.replicate_zero, List.nil_append, List.cons_append, List.append_nil, List.map_cons, List.map_nil, List.all_cons, List.all_nil, List.set_cons_zero, List.set_cons_succ, List.getD_cons_zero, List.getD_cons_succ, List.drop_zero, List.drop_succ_cons, List.take_succ_cons, List.take_zero, List.flatten_cons, List.flatten_nil, Bool.true_and, Bool.and_true, Bool.not_false, true_and, Option.bind_some, Option.map_some, and_self, Bool.and_false, Nat.reduceLT, List.reverse_cons, List.reverse_nil, Nat.zero_add, Nat.add_zero, Bool.false_eq_true, plSt, F1, G1, at_pastDo, Z04, Z03, uptoS_len]
    refine ⟨fun c => ⟨⟨by omega, by omega⟩, hok, fun h => ⟨⟨by omega, by omega⟩, Z1t (by omega) (by decide), ?_⟩, fun h => hbadE (by omega) h⟩, hend⟩
    obtain ⟨n1, n2⟩ := next (by omega) (by rw [← hdo]; exact h)
    rw [Z12 (show i + 1 < ss.length by omega) hs]
    exact Z0l.mk [0, 3] (i + 2) (by simp) (by simp) (by simp only [State.can, AV.can, AV.canL, HO.can, Z14, idx, Z01, Z00, Heap.at, Nat.reduceBEq, ↓reduceIte, Nat.reduceEqDiff, Option.getD_some, Option.map_some, List.map_cons, List.map_nil, List.getD_cons_zero, List.getD_cons_succ, plSt, uptoS_succ (i := i + 1)]) ⟨by show i + 2 ≤ _; omega, n1, n2⟩ (by show _ - (i + 2) < _ - (i + 1); omega)
theorem rowB_get {b : Bool} : (rowB b).getD 0 DV.nilp = .bool b := rfl
theorem rowB_len {b : Bool} : (rowB b).length = 1 := rfl
/-! ### Behind -/
theorem ord_last {ss : List StepG} (hn : ss.length ≤ 64) {i n : Nat} (hi : i < n) (h : n < ss.length) : hasI (ordG ss) i n = true ↔ dirQ ss i n = true ∨ ∃ j, i < j ∧ j < n ∧ hasI (ordG ss) i j = true ∧ dirQ ss j n = true := by
  constructor
  · intro h2
    exact (ord_min hn (i := i) (P := fun k => dirQ ss i k = true ∨ ∃ j, i < j ∧ j < k ∧ hasI (ordG ss) i j = true ∧ dirQ ss j k = true) (fun k _ _ hd => .inl hd) (fun j k hj hij hjk hk hd => by
      refine .inr ⟨j, hij, hjk, ?_, hd⟩
      rcases hj with h3 | ⟨q, h3, h4, h5, h6⟩
      · exact ord_of hn hij (by omega) h3
      · exact ord_trans hn h5 (ord_of hn h4 (by omega) h6)) h2).2.2
  · rintro (h2 | ⟨j, h2, h3, h4, h5⟩)
    · exact ord_of hn hi h h2
    · exact ord_trans hn h4 (ord_of hn h3 h h5)
def sp_Behind : Sp := ⟨List StepG × Bool × Int × Int, fun x => [.d (.list (x.1.map StepG.row) x.2.1), .d (.int .i64 x.2.2.1), .d (.int .i64 x.2.2.2)],
  fun x => .data (x.1.length ≤ 64 ∧ (0 ≤ x.2.2.1 ∧ x.2.2.1 < x.1.length) ∧ (0 ≤ x.2.2.2 ∧ x.2.2.2 < x.1.length)) (.d (.bool (hasI (ordG x.1) x.2.2.1 x.2.2.2))) true⟩
theorem at_Behind (ss : List StepG) (g : Bool) (i k : Int) : sp_Behind.at [.d (.list (ss.map StepG.row) g), .d (.int .i64 i), .d (.int .i64 k)] =
    .data (ss.length ≤ 64 ∧ (0 ≤ i ∧ i < ss.length) ∧ (0 ≤ k ∧ k < ss.length)) (.d (.bool (hasI (ordG ss) i k))) true :=
  Sp.at_enc (s := sp_Behind) (fun x y h => by
    obtain ⟨a, b, c, d⟩ := x; obtain ⟨a', b', c', d'⟩ := y
    simp only [sp_Behind, List.cons.injEq, AV.d.injEq, DV.list.injEq, DV.int.injEq, and_true, true_and] at h
    obtain ⟨⟨h1, h2⟩, h3, h4⟩ := h
    rw [Z1k StepG.row_inj h1, h2, h3, h4]) (ss, g, i, k)
/-- What is reached, told for the first n; of the n-th what is known so far. -/
def reachS (ss : List StepG) (i n : Nat) (b : Bool) : List Bool := (List.range ss.length).map fun j => if j < n then decide (i < j) && hasI (ordG ss) i j else decide (j = n) && b
def beSt (ss : List StepG) (g : Bool) (i : Nat) (k : Int) (n : Nat) : State :=
  ⟨[(0, .d (.list (ss.map StepG.row) g)), (1, .d (.int .i64 i)), (2, .d (.int .i64 k)), (7, .ref 0 1 0 ss.length true), (8, .d (.int .i64 n))], [.dvec 1 ((reachS ss i n false).map rowB)]⟩
def beSt2 (ss : List StepG) (g : Bool) (i : Nat) (k : Int) (n : Nat) (x : Nat × Bool) : State :=
  ⟨[(0, .d (.list (ss.map StepG.row) g)), (1, .d (.int .i64 i)), (2, .d (.int .i64 k)), (7, .ref 0 1 0 ss.length true), (8, .d (.int .i64 n)), (9, .d (.int .i64 x.1))], [.dvec 1 ((reachS ss i n x.2).map rowB)]⟩
theorem reachS_len {ss : List StepG} {i n : Nat} {b : Bool} : (reachS ss i n b).length = ss.length := by simp [reachS]
theorem reachS_zero {ss : List StepG} {i : Nat} : List.replicate ss.length false = reachS ss i (i + 1) false := by
  apply List.ext_getElem
  · simp [reachS]
  · intro j h1 h2
    simp only [reachS, List.getElem_replicate, List.getElem_map, List.getElem_range, Bool.and_false]
    split
    · rw [decide_eq_false (by omega)]; rfl
    · rfl
theorem reachS_set {ss : List StepG} {i n : Nat} {b : Bool} (h : n < ss.length) : (reachS ss i n b).set n true = reachS ss i n true := by
  apply List.ext_getElem
  · simp [reachS]
  · intro j h1 h2
    simp only [reachS, List.getElem_set, List.getElem_map, List.getElem_range]
    split
    · rename_i e; subst e; simp
    · rename_i e
      split
      · rfl
      · rw [decide_eq_false (by omega)]; rfl
theorem reachS_get {ss : List StepG} {i n j : Nat} {b : Bool} (h : j < n) (hn : n ≤ ss.length) (hi : i < j) : (reachS ss i n b).getD j default = hasI (ordG ss) i j := by
  rw [Z28 (by rw [reachS_len]; omega)]
  simp only [reachS, List.getElem_map, List.getElem_range]
  rw [if_pos h, decide_eq_true hi, Bool.true_and]
theorem reachS_next {ss : List StepG} {i n : Nat} (hi : i < n) : reachS ss i n (hasI (ordG ss) i n) = reachS ss i (n + 1) false := by
  unfold reachS
  apply List.map_congr_left
  intro j _
  by_cases h : j < n
  · rw [if_pos h, if_pos (by omega)]
  · rw [if_neg h]
    by_cases e : j = n
    · subst e
      rw [if_pos (by omega), decide_eq_true rfl, decide_eq_true hi]
    · rw [if_neg (by omega), decide_eq_false e]; simp
set_option maxHeartbeats 4000000 in
theorem body_ref22_Behind {T : Tab} {n1 : Nat} (k1 : Knows T n1 sp_direct) : sp_Behind.Body T V_ref22_Behind (L_ref22_Behind n1) R_ref22_Behind := by
  have F1 := k1.F; have G1 := k1.G
  rintro ⟨ss, g, i, k⟩ ⟨hn, ⟨hi0, hi1⟩, hk0, hk1⟩
  have hn : ss.length ≤ 64 := hn
  have hk0 : 0 ≤ k := hk0
  have hk1 : k < ss.length := hk1
  obtain ⟨i, rfl⟩ := Int.eq_ofNat_of_zero_le hi0
  have hi1 : (i : Int) < ss.length := hi1
  obtain ⟨k, rfl⟩ := Int.eq_ofNat_of_zero_le hk0
  refine .inl ⟨rfl, ?_⟩
  unfold V_ref22_Behind L_ref22_Behind R_ref22_Behind
  simp (maxSteps := 3000000) only [↓Z02, ↓Z0i, ↓Z0c, ↓Z1n, ↓Z06, ↓Z0h, ↓Z0g, Z1g, Z05, Z0s, Z0v, evN, Z0f, Z0u, Z0e, Z09, Z0d, evT, Opd.ev, Z01, Z00, Z0t, Z17, Z0w, Z07, Z16, LOp.isNew, State.prune, Int.toNat_natCast, Z2i, drows_rep1, mkVec, evMk, List.length_map, Z1s, binT, binQ, Z0n, ↓reduceIte, Nat.reduceAdd, Nat.reduceBEq, List.length_cons, List.length_nil, List.replicate_succ, List.replicate_zero, List.nil_append, List.append_nil, List.map_cons, List.map_nil, List.set_cons_zero, true_and, Nat.zero_add, Nat.add_zero, Bool.false_eq_true, sp_Behind, rep_rowB]
  have hm : maxLen = 9223372036854775807 := rfl
  refine ⟨⟨by omega, by omega, Z1t (by omega) (by decide)⟩, ?_⟩
  refine Loop.fam [0, 1, 2, 7, 8] (beSt ss g i k) (fun n => i < n ∧ n ≤ ss.length) (fun n => ss.length - n) (i + 1) [0] (by simp) (by simp) (by simp only [State.can, AV.can, HO.can, idx, Z01, Z00, Heap.at, Nat.reduceBEq, ↓reduceIte, Option.getD_some, Option.map_some, List.map_cons, List.map_nil, List.getD_cons_zero, beSt, Z12 (show i < ss.length by omega) (by omega)]; rw [← reachS_zero]) ⟨Nat.lt_succ_self _, by show i + 1 ≤ _; omega⟩ ?_
  rintro n ⟨hin, hns⟩
  have hin : i < n := hin
  have hns : n ≤ ss.length := hns
  have hkk : ∀ b : Bool, n = ss.length → i < k → (reachS ss i n b).getD k default = hasI (ordG ss) i k := fun b e h => reachS_get (by omega) hns h
  simp (maxSteps := 3000000) only [↓Z0k, ↓Z0x, ↓Z1c, ↓Z02, ↓Z0i, ↓Z0j, ↓Z0c, ↓Z1n, ↓Z06, ↓Z0h, ↓Z1o, ↓Z1b, ↓Z0g, ↓Z1a, ↓Z26, ↓Z0p, ↓Z0m, ↓Z0a, Z1g, Z05, Z10, Z0s, Z18, Z0v, evN, Z11, Z0f, Z0u, Z1u, Z0e, Z09, Z0d, Z1v, Z0q, evT, Opd.ev, Z01, Z00, Z0t, Z1q, Z17, Z1i, Z0o, Z0r, Z07, Z16, LOp.isNew, State.prune, Heap.at, Z08, Z15, Z2g, idx_Step, Z0y, Z0b, stepK_store_map1, loadDT_f, StepG.row, ActG.eta, RatG.eta, Z1z, Int.toNat_natCast, Z2i, List.length_map, List.take_of_length_le, Z1r, Z1s, binT, binQ, chk, Z1y, Bool.and_self, resQ, resV, resT, pickV, Z0z, Z1e, fnOf, Z1d, isD, Z23, putRow, Z0n, RetS, Nat.le_refl, AV.d.injEq, DV.bool.injEq, ↓reduceIte, Nat.reduceAdd, Nat.reduceBEq, List.length_cons, List.length_nil, List.replicate_zero, List.nil_append, List.cons_append, List.append_nil, List.map_cons, List.map_nil, List.all_cons, List.all_nil, List.set_cons_zero, List.getD_cons_zero, List.drop_zero, List.take_zero, List.flatten_cons, List.flatten_nil, true_and, and_true, and_self, Nat.reduceLT, List.reverse_cons, List.reverse_nil, Nat.zero_add, Nat.add_zero, Bool.false_eq_true, beSt, F1, G1, at_direct, set_rowB', reachS_len, rowB_get, rowB_len]
  refine ⟨fun c => ⟨⟨by omega, by omega⟩, ⟨by omega, by omega⟩, fun d => ⟨⟨by omega, by omega⟩, by omega, ?_⟩, fun d => ?_⟩, fun c => ⟨fun c1 => ⟨⟨by omega, by omega⟩, ?_, ?_⟩, fun c1 => ?_⟩⟩
  case refine_3 => omega
  case refine_4 => exact hkk false (by omega) (by omega)
  case refine_5 =>
    cases h : hasI (ordG ss) i k with
    | false => rfl
    | true => have := (ord_lt hn h).1; omega
  all_goals
    have hnl : n < ss.length := by omega
    have hd : dirQ ss i n = _ := d
  case' refine_1 =>
    refine Loop.fam [0, 1, 2, 7, 8, 9] (beSt2 ss g i k n) (fun x => i < x.1 ∧ x.1 ≤ n ∧ (x.2 = true ↔ dirQ ss i n = true ∨ ∃ q, i < q ∧ q < x.1 ∧ hasI (ordG ss) i q = true ∧ dirQ ss q n = true)) (fun x => n - x.1) (i + 1, true) [0] (by simp) (by simp) (by simp only [State.can, AV.can, HO.can, idx, Z01, Z00, Heap.at, Nat.reduceBEq, ↓reduceIte, Option.getD_some, Option.map_some, List.map_cons, List.map_nil, List.getD_cons_zero, beSt2, reachS_set hnl, Z12 (show i < ss.length by omega) (by omega)]) ⟨Nat.lt_succ_self _, hin, ⟨fun _ => .inl hd, fun _ => rfl⟩⟩ ?_
  case' refine_2 =>
    refine Loop.fam [0, 1, 2, 7, 8, 9] (beSt2 ss g i k n) (fun x => i < x.1 ∧ x.1 ≤ n ∧ (x.2 = true ↔ dirQ ss i n = true ∨ ∃ q, i < q ∧ q < x.1 ∧ hasI (ordG ss) i q = true ∧ dirQ ss q n = true)) (fun x => n - x.1) (i + 1, false) [0] (by simp) (by simp) (by simp only [State.can, AV.can, HO.can, idx, Z01, Z00, Heap.at, Nat.reduceBEq, ↓reduceIte, Option.getD_some, Option.map_some, List.map_cons, List.map_nil, List.getD_cons_zero, beSt2, Z12 (show i < ss.length by omega) (by omega)]) ⟨Nat.lt_succ_self _, hin, ⟨fun h => Bool.noConfusion (show false = true from h), fun h => by
      rcases h with h | ⟨q, h1, h2, -⟩
      · rw [hd] at h; cases h
      · have h2 : q < i + 1 := h2
        omega⟩⟩ ?_
  all_goals
    rintro ⟨j, b⟩ ⟨hij, hjn, hb⟩
    have hij : i < j := hij
    have hjn : j ≤ n := hjn
    have hb : b = true ↔ dirQ ss i n = true ∨ ∃ q, i < q ∧ q < j ∧ hasI (ordG ss) i q = true ∧ dirQ ss q n = true := hb
    have hget : j < n → (reachS ss i n b).getD j default = hasI (ordG ss) i j := fun h => reachS_get h hns hij
    have hset : (reachS ss i n b).set n true = reachS ss i n true := reachS_set hnl
    simp (maxSteps := 3000000) only [↓Z0k, ↓Z1c, ↓Z02, ↓Z0i, ↓Z0j, ↓Z0c, ↓Z06, ↓Z0h, ↓Z1o, ↓Z1h, ↓Z1b, ↓Z0g, ↓famK_n, ↓Z26, ↓Z0p, ↓Z0m, ↓Z0a, Z1g, Z05, Z10, Z0s, Z18, Z0v, evN, Z11, Z0f, Z0u, Z1u, Z0e, Z09, Z0d, Z1v, Z0q, evT, Opd.ev, Z01, Z00, Z0t, Z1q, Z17, Z1i, Z0o, Z0r, Z07, Z16, LOp.isNew, State.prune, Heap.at, Z08, Z15, Z2g, idx_Step, Z0y, Z0b, stepK_store_map1, loadDT_f, StepG.row, ActG.eta, RatG.eta, Z1z, Int.toNat_natCast, List.take_of_length_le, Z1r, Z1s, binT, binQ, chk, Z1y, Bool.and_self, pickV, Z0z, Z1e, fnOf, Z1d, isD, Z23, putRow, Z0n, Nat.le_refl, ↓reduceIte, Nat.reduceAdd, Nat.reduceBEq, List.length_cons, List.length_nil, List.replicate_zero, List.nil_append, List.cons_append, List.append_nil, List.map_cons, List.map_nil, List.all_cons, List.all_nil, List.set_cons_zero, List.getD_cons_zero, List.drop_zero, List.take_zero, List.flatten_cons, List.flatten_nil, true_and, and_true, and_self, Nat.reduceLT, List.reverse_cons, List.reverse_nil, Nat.zero_add, Nat.add_zero, Bool.false_eq_true, beSt2, F1, G1, at_direct, set_rowB', reachS_len, rowB_get, rowB_len, hset]
    have hyes : hasI (ordG ss) i j = true → dirQ ss j n = true → ((true : Bool) = true ↔ dirQ ss i n = true ∨ ∃ q, i < q ∧ q < j + 1 ∧ hasI (ordG ss) i q = true ∧ dirQ ss q n = true) := fun h1 h2 => ⟨fun _ => .inr ⟨j, hij, Nat.lt_succ_self _, h1, h2⟩, fun _ => rfl⟩
    have hno : ¬ (hasI (ordG ss) i j = true ∧ dirQ ss j n = true) → (b = true ↔ dirQ ss i n = true ∨ ∃ q, i < q ∧ q < j + 1 ∧ hasI (ordG ss) i q = true ∧ dirQ ss q n = true) := fun h => by
      rw [hb]
      constructor
      · rintro (h1 | ⟨q, h1, h2, h3⟩)
        · exact .inl h1
        · exact .inr ⟨q, h1, by omega, h3⟩
      · rintro (h1 | ⟨q, h1, h2, h3⟩)
        · exact .inl h1
        · by_cases e : q = j
          · subst e; exact absurd h3 h
          · exact .inr ⟨q, h1, by omega, h3⟩
    refine ⟨fun c1 => ⟨⟨by omega, by omega⟩, by omega, fun e1 => ⟨⟨by omega, by omega⟩, ⟨by omega, by omega⟩, fun e2 => ⟨⟨by omega, by omega⟩, by omega, ?_⟩, fun e2 => ?_⟩, fun e1 => ?_⟩, fun c1 => ?_⟩
    · rw [hget (by omega)] at e1
      exact Z0l.mk [0] (j + 1, true) (by simp) (by simp) (by simp only [State.can, AV.can, HO.can, idx, Z01, Z00, Heap.at, Nat.reduceBEq, ↓reduceIte, Option.getD_some, Option.map_some, List.map_cons, List.map_nil, List.getD_cons_zero, beSt2, Z12 (show j < n by omega) (by omega)]) ⟨by show i < j + 1; omega, by show j + 1 ≤ n; omega, hyes e1 e2⟩ (by show n - (j + 1) < n - j; omega)
    · exact Z0l.mk [0] (j + 1, b) (by simp) (by simp) (by simp only [State.can, AV.can, HO.can, idx, Z01, Z00, Heap.at, Nat.reduceBEq, ↓reduceIte, Option.getD_some, Option.map_some, List.map_cons, List.map_nil, List.getD_cons_zero, beSt2, Z12 (show j < n by omega) (by omega)]) ⟨by show i < j + 1; omega, by show j + 1 ≤ n; omega, hno (fun h => by have h2 : dirB (ss.getD j default) (ss.getD n default) = true := h.2; have e2 : dirB (ss.getD j default) (ss.getD n default) = false := e2; rw [e2] at h2; cases h2)⟩ (by show n - (j + 1) < n - j; omega)
    · rw [hget (by omega)] at e1
      exact Z0l.mk [0] (j + 1, b) (by simp) (by simp) (by simp only [State.can, AV.can, HO.can, idx, Z01, Z00, Heap.at, Nat.reduceBEq, ↓reduceIte, Option.getD_some, Option.map_some, List.map_cons, List.map_nil, List.getD_cons_zero, beSt2, Z12 (show j < n by omega) (by omega)]) ⟨by show i < j + 1; omega, by show j + 1 ≤ n; omega, hno (fun h => by rw [e1] at h; cases h.1)⟩ (by show n - (j + 1) < n - j; omega)
    · have hj : j = n := by omega
      subst hj
      have hbn : b = hasI (ordG ss) i j := by rw [Bool.eq_iff_iff, hb, ord_last hn hin hnl]
      exact Z0l.mk [0] (j + 1) (by simp) (by simp) (by simp only [State.can, AV.can, HO.can, idx, Z01, Z00, Heap.at, Nat.reduceBEq, ↓reduceIte, Option.getD_some, Option.map_some, List.map_cons, List.map_nil, List.getD_cons_zero, beSt, Z12 hnl (by omega), hbn, reachS_next hin]) ⟨by show i < j + 1; omega, by show j + 1 ≤ _; omega⟩ (by show _ - (j + 1) < _ - j; omega)
end Go.Ago

/- Contracts of the reference of layer 22: Race and Weak. Conditions: none. -/
set_option maxRecDepth 100000
set_option linter.unusedSimpArgs false
set_option linter.unusedVariables false
namespace Go.Ago
/-! ### Race -/
def sp_Race22 : Sp := ⟨List StepG × Bool × Int × Int, fun x => [.d (.list (x.1.map StepG.row) x.2.1), .d (.int .i64 x.2.2.1), .d (.int .i64 x.2.2.2)],
  fun x => .data (x.1.length ≤ 64 ∧ (0 ≤ x.2.2.1 ∧ x.2.2.1 < x.1.length) ∧ (0 ≤ x.2.2.2 ∧ x.2.2.2 < x.1.length) ∧ ∀ y ∈ x.1, 1 ≤ y.act.kind ∧ y.act.kind ≤ 6) (.d (.bool (rcB (ordG x.1) x.1 x.2.2.1.toNat x.2.2.2.toNat))) true⟩
theorem at_Race22 (ss : List StepG) (g : Bool) (i k : Int) : sp_Race22.at [.d (.list (ss.map StepG.row) g), .d (.int .i64 i), .d (.int .i64 k)] =
    .data (ss.length ≤ 64 ∧ (0 ≤ i ∧ i < ss.length) ∧ (0 ≤ k ∧ k < ss.length) ∧ ∀ y ∈ ss, 1 ≤ y.act.kind ∧ y.act.kind ≤ 6) (.d (.bool (rcB (ordG ss) ss i.toNat k.toNat))) true :=
  Sp.at_enc (s := sp_Race22) (fun x y h => by
    obtain ⟨a, b, c, d⟩ := x; obtain ⟨a', b', c', d'⟩ := y
    simp only [sp_Race22, List.cons.injEq, AV.d.injEq, DV.list.injEq, DV.int.injEq, and_true, true_and] at h
    obtain ⟨⟨h1, h2⟩, h3, h4⟩ := h
    rw [Z1k StepG.row_inj h1, h2, h3, h4]) (ss, g, i, k)
set_option maxHeartbeats 4000000 in
theorem body_ref22_Race {T : Tab} {n1 : Nat} (k1 : Knows T n1 sp_Behind) : sp_Race22.Body T V_ref22_Race (L_ref22_Race n1) R_ref22_Race := by
  have F1 := k1.F; have G1 := k1.G
  rintro ⟨ss, g, i, k⟩ ⟨hn, ⟨hi0, hi1⟩, ⟨hk0, hk1⟩, hkind⟩
  have hn : ss.length ≤ 64 := hn
  have hi1 : i < ss.length := hi1
  have hk1 : k < ss.length := hk1
  have hkind : ∀ y ∈ ss, 1 ≤ y.act.kind ∧ y.act.kind ≤ 6 := hkind
  obtain ⟨i, rfl⟩ := Int.eq_ofNat_of_zero_le hi0
  obtain ⟨k, rfl⟩ := Int.eq_ofNat_of_zero_le hk0
  refine .inl ⟨rfl, ?_⟩
  unfold V_ref22_Race L_ref22_Race R_ref22_Race
  simp (maxSteps := 3000000) only [↓Z0x, ↓Z02, ↓Z0i, ↓Z06, ↓Z0h, ↓Z0g, ↓Z1a, ↓Z0p, ↓Z0m, ↓Z1j, ↓Z0a, Z1g, Z05, Z10, Z0s, Z18, Z0v, evN, Z11, Z0f, Z0u, Z1u, Z0e, Z09, Z0d, Z1v, Z1x, guardG_no, evT, Opd.ev, Z01, Z00, Z0t, Z1q, Z17, Z1i, Z0o, Z0w, Z07, Z16, LOp.isNew, State.prune, Z19, Z13, AV.leaf, Heap.at, Z08, Z15, Z04, idx_Step, Z0b, Z03, loadDT_f, StepG.row, Z1z, Int.toNat_natCast, Z1r, Z20, Z1s, evUn, binT, binQ, chk, Z1y, List.contains_cons, List.contains_nil, Bool.or_false, Bool.and_self, resQ, resV, resT, pickV, Z0z, Z1e, fnOf, Z1d, Z23, putRow, Z0n, RetS, Nat.le_refl, AV.d.injEq, DV.bool.injEq, ↓reduceIte, Nat.reduceAdd, Nat.reduceBEq, List.length_cons, List.length_nil, List.replicate_succ, List.replicate_zero, List.nil_append, List.cons_append, List.append_nil, List.map_cons, List.map_nil, List.all_cons, List.all_nil, List.set_cons_zero, List.set_cons_succ, List.getD_cons_zero, List.getD_cons_succ, List.drop_zero, List.drop_succ_cons, List.take_succ_cons, List.take_zero, List.flatten_cons, List.flatten_nil, Bool.true_and, Bool.not_false, true_and, and_self, Nat.reduceLT, Nat.reduceLeDiff, List.reverse_cons, List.reverse_nil, Nat.zero_add, Nat.add_zero, Bool.false_eq_true, sp_Race22, F1, G1, at_Behind, Z04, Z03]
  have ha := hkind (ss.getD i default) (getD_mem (Int.ofNat_lt.1 hi1))
  have hb := hkind (ss.getD k default) (getD_mem (Int.ofNat_lt.1 hk1))
  unfold rcB
  generalize hasI (ordG ss) i k = h at *
  generalize ss.getD i default = a at *
  generalize ss.getD k default = b at *
  have w1 : IntKind.i64.wrap (a.act.kind * 10) = a.act.kind * 10 := wrap_id (by omega) (by omega)
  have w2 : IntKind.i64.wrap (a.act.kind * 10 + b.act.kind) = a.act.kind * 10 + b.act.kind := wrap_id (by omega) (by omega)
  rw [w1, w2]
  have hi0 : (0 : Int) ≤ i := hi0
  have hk0 : (0 : Int) ≤ k := hk0
  clear hkind
  (repeat' (first | intro _ | apply And.intro))
  all_goals first
    | assumption
    | (cases h <;> simp [isPl] <;> omega)
/-! ### Weak -/
theorem swap_mem {l : List StampG} {i k : Nat} {e : StampG} (hi : i < l.length) (hk : k < l.length) (hne : i ≠ k) : e ∈ swapG l i k ↔ e ∈ l := by
  unfold swapG
  split
  · have hlen : ((l.set i (l.getD k default)).set k (l.getD i default)).length = l.length := by simp
    have hg : ∀ j, j < l.length → ((l.set i (l.getD k default)).set k (l.getD i default)).getD j default = if k = j then l.getD i default else if i = j then l.getD k default else l.getD j default := fun j hj => by
      rw [getD_setQ, List.length_set, getD_setQ]
      by_cases e1 : k = j
      · rw [if_pos ⟨e1, hj⟩, if_pos e1]
      · rw [if_neg (fun h => e1 h.1), if_neg e1]
        by_cases e2 : i = j
        · rw [if_pos ⟨e2, hj⟩, if_pos e2]
        · rw [if_neg (fun h => e2 h.1), if_neg e2]
    constructor
    · intro h
      obtain ⟨j, hj, rfl⟩ := mem_getD h
      rw [hlen] at hj
      rw [hg j hj]
      split
      · exact getD_mem hi
      · split
        · exact getD_mem hk
        · exact getD_mem hj
    · intro h
      obtain ⟨j, hj, rfl⟩ := mem_getD h
      by_cases e1 : j = i
      · subst e1
        have := hg k hk
        rw [if_pos rfl] at this
        have h2 := getD_mem (l := (l.set j (l.getD k default)).set k (l.getD j default)) (i := k) (d := default) (by rw [hlen]; exact hk)
        rw [this] at h2; exact h2
      · by_cases e2 : j = k
        · subst e2
          have := hg i hi
          rw [if_neg (fun h => e1 h), if_pos rfl] at this
          have h2 := getD_mem (l := (l.set i (l.getD j default)).set j (l.getD i default)) (i := i) (d := default) (by rw [hlen]; exact hi)
          rw [this] at h2; exact h2
        · have := hg j hj
          rw [if_neg (fun h => e2 h.symm), if_neg (fun h => e1 h.symm)] at this
          rw [← this]; exact getD_mem (by rw [hlen]; exact hj)
  · rfl
theorem inner_mem {i : Nat} {e : StampG} : ∀ (d : Nat) (l : List StampG) (k : Nat), i < k → k + d = l.length → (e ∈ innerG i d l k ↔ e ∈ l) := by
  intro d
  induction d with
  | zero => intro l k _ _; rfl
  | succ d ih =>
    intro l k h1 h2
    simp only [innerG]
    rw [ih _ _ (by omega) (by rw [swapG_len]; omega), swap_mem (by omega) (by omega) (by omega)]
theorem outer_mem {e : StampG} : ∀ (d : Nat) (l : List StampG) (i : Nat), i + d = l.length → (e ∈ outerG d l i ↔ e ∈ l) := by
  intro d
  induction d with
  | zero => intro l i _; rfl
  | succ d ih =>
    intro l i h
    simp only [outerG]
    rw [ih _ _ (by rw [innerG_len]; omega), inner_mem _ _ _ (by omega) (by omega)]
theorem sort_mem {e : StampG} {l : List StampG} : e ∈ sortG l ↔ e ∈ l := outer_mem _ _ _ (by omega)
def weak22 (l : List LocG) (ss : List StepG) (i : Nat) : Bool := isPl (ss.getD i default).act.kind && (sortG (Z2d l (ss.take i) (ss.getD i default).act.loc)).any fun e => decide (cmpQ' (ss.getD i default).when e.when < 0)
def sp_Weak22 : Sp := ⟨List LocG × Bool × Int × List StepG × Bool × Int, fun x => [.d (.list (x.1.map LocG.row) x.2.1), .d (.int .i64 x.2.2.1), .d (.list (x.2.2.2.1.map StepG.row) x.2.2.2.2.1), .d (.int .i64 x.2.2.2.2.2)],
  fun x => .data (x.2.2.2.1.length ≤ 64 ∧ (0 ≤ x.2.2.2.2.2 ∧ x.2.2.2.2.2 < x.2.2.2.1.length) ∧ (isPl (x.2.2.2.1.getD x.2.2.2.2.2.toNat default).act.kind = true → 0 ≤ (x.2.2.2.1.getD x.2.2.2.2.2.toNat default).act.loc ∧ (x.2.2.2.1.getD x.2.2.2.2.2.toNat default).act.loc < x.1.length)) (.d (.bool (weak22 x.1 x.2.2.2.1 x.2.2.2.2.2.toNat))) true⟩
theorem at_Weak22 (l : List LocG) (f : Bool) (t : Int) (ss : List StepG) (g : Bool) (i : Int) : sp_Weak22.at [.d (.list (l.map LocG.row) f), .d (.int .i64 t), .d (.list (ss.map StepG.row) g), .d (.int .i64 i)] =
    .data (ss.length ≤ 64 ∧ (0 ≤ i ∧ i < ss.length) ∧ (isPl (ss.getD i.toNat default).act.kind = true → 0 ≤ (ss.getD i.toNat default).act.loc ∧ (ss.getD i.toNat default).act.loc < l.length)) (.d (.bool (weak22 l ss i.toNat))) true :=
  Sp.at_enc (s := sp_Weak22) (fun x y h => by
    obtain ⟨l, f, t, ss, g, i⟩ := x; obtain ⟨l', f', t', ss', g', i'⟩ := y
    simp only [sp_Weak22, List.cons.injEq, AV.d.injEq, DV.list.injEq, DV.int.injEq, and_true, true_and] at h
    obtain ⟨⟨h1, h2⟩, h3, ⟨h4, h5⟩, h6⟩ := h
    rw [Z1k LocG.row_inj h1, h2, h3, Z1k StepG.row_inj h4, h5, h6]) (l, f, t, ss, g, i)
set_option maxHeartbeats 4000000 in
theorem body_ref22_Weak {T : Tab} {n1 n2 : Nat} (k1 : Knows T n1 sp_Written) (k2 : Knows T n2 sp_rat_Cmp) : sp_Weak22.Body T V_ref22_Weak (L_ref22_Weak n1 n2) R_ref22_Weak := by
  have F1 := k1.F; have G1 := k1.G; have F2 := k2.F; have G2 := k2.G
  rintro ⟨l, f, t, ss, g, i⟩ ⟨hn, ⟨hi0, hi1⟩, hloc⟩
  have hn : ss.length ≤ 64 := hn
  have hi1 : i < ss.length := hi1
  obtain ⟨i, rfl⟩ := Int.eq_ofNat_of_zero_le hi0
  have hloc : isPl (ss.getD i default).act.kind = true → 0 ≤ (ss.getD i default).act.loc ∧ (ss.getD i default).act.loc < l.length := hloc
  refine .inl ⟨rfl, ?_⟩
  unfold V_ref22_Weak L_ref22_Weak R_ref22_Weak
  simp (maxSteps := 3000000) only [↓Z0k, ↓Z0x, ↓Z02, ↓Z0i, ↓Z0j, ↓Z0c, ↓Z1n, ↓Z06, ↓Z0h, ↓Z1m, ↓Z0g, ↓Z1a, ↓Z0p, ↓Z0m, ↓Z1j, ↓Z0a, Z1g, Z05, Z0s, Z18, Z0v, evN, Z11, Z0f, Z0u, Z0e, Z09, Z0d, Z1v, Z0q, evT, Opd.ev, Z01, Z00, Z0t, Z1q, Z17, Z1i, Z0o, Z0r, Z0w, Z07, Z16, LOp.isNew, State.prune, Z19, Z13, AV.leaf, Heap.at, Z08, Z15, Z04, idx_Step, Z0b, Z03, StepG.row, Z1z, Int.toNat_natCast, Int.reduceToNat, List.length_map, take_mapF, List.take_of_length_le, evSlice, intOr, intOpd, Option.isSome_none, Option.isSome_some, Z1r, Z20, Z1s, binT, binQ, Bool.and_self, resQ, resV, resT, pickV, Z0z, Z1e, fnOf, Z1d, isD, Z23, buildQ, buildT, lens_Step, putRow, Z0n, RetS, Nat.le_refl, AV.d.injEq, DV.bool.injEq, ↓reduceIte, Nat.reduceAdd, Nat.reduceBEq, List.length_cons, List.length_nil, List.replicate_succ, List.replicate_zero, List.nil_append, List.cons_append, List.append_nil, List.map_cons, List.map_nil, List.all_cons, List.all_nil, List.set_cons_zero, List.set_cons_succ, List.getD_cons_zero, List.getD_cons_succ, List.drop_zero, List.drop_succ_cons, List.take_succ_cons, List.take_zero, List.flatten_cons, List.flatten_nil, true_and, and_true, implies_true, and_self, Nat.reduceLT, Nat.reduceLeDiff, Nat.zero_add, Nat.add_zero, Bool.false_eq_true, sp_Weak22, F1, G1, at_Written, Z04, Z03]
  have hm : maxLen = 9223372036854775807 := rfl
  have hb : (0 : Int) ≤ i ∧ (i : Int) < ss.length := ⟨by omega, hi1⟩
  have hsl : (0 : Int) ≤ 0 ∧ (0 : Int) ≤ i ∧ (i : Int) ≤ i ∧ (i : Int) ≤ ss.length := ⟨by omega, by omega, by omega, by omega⟩
  have htl : (List.take i ss).length ≤ 1000000 := by rw [List.length_take]; omega
  have hno : isPl (ss.getD i default).act.kind = false → false = weak22 l ss i := fun h => by unfold weak22; rw [h]; rfl
  have hyes : isPl (ss.getD i default).act.kind = true → weak22 l ss i = (sortG (Z2d l (ss.take i) (ss.getD i default).act.loc)).any fun e => decide (cmpQ' (ss.getD i default).when e.when < 0) := fun h => by unfold weak22; rw [h, Bool.true_and]
  have hWl : (sortG (Z2d l (ss.take i) (ss.getD i default).act.loc)).length ≤ 1000 := by
    have h1 : ∀ (d : Nat) (v : List StampG) (q : Nat), (outerG d v q).length = v.length := by
      intro d
      induction d with
      | zero => intro v q; rfl
      | succ d ih => intro v q; simp only [outerG]; rw [ih, innerG_len]
    unfold sortG
    rw [h1]
    have := writes_len (loc := (ss.getD i default).act.loc) (x := default) (ss.take i) [⟨⟨0, 1⟩, (l.getD (ss.getD i default).act.loc.toNat default).init⟩]
    unfold Z2d
    rw [List.length_take] at this
    simp only [List.length_singleton] at this
    omega
  refine ⟨hb, fun c => ⟨hsl, ⟨hloc (isPl_iff.2 (.inl c)), htl⟩, ?_⟩, fun c => ⟨fun c2 => ⟨hsl, ⟨hloc (isPl_iff.2 (.inr c2)), htl⟩, ?_⟩, fun c2 => hno (by rw [← Bool.not_eq_true, isPl_iff]; omega)⟩⟩
  case' refine_1 => have hy := hyes (isPl_iff.2 (.inl c))
  case' refine_2 => have hy := hyes (isPl_iff.2 (.inr c2))
  all_goals
    generalize sortG (Z2d l (ss.take i) (ss.getD i default).act.loc) = W at *
    rw [hy]
    refine Loop.fam [2, 3, 11, 12] (fun j : Nat => ⟨[(2, .d (.list (ss.map StepG.row) g)), (3, .d (.int .i64 i)), (11, .d (.list (W.map StampG.row) false)), (12, .d (.int .i64 j))], []⟩) (fun j => j ≤ W.length ∧ (W.take j).any (fun e => decide (cmpQ' (ss.getD i default).when e.when < 0)) = false) (fun j => W.length - j) 0 [] (by simp) (by simp) (by simp only [State.can, AV.can, HO.can, Z01, Z00, Heap.at, Nat.reduceBEq, Option.getD_some, List.map_cons, List.map_nil]; rfl) ⟨Nat.zero_le _, rfl⟩ ?_
    rintro j ⟨hj, ha⟩
    have hj : j ≤ W.length := hj
    have ha : (W.take j).any (fun e => decide (cmpQ' (ss.getD i default).when e.when < 0)) = false := ha
    simp (maxSteps := 3000000) only [↓Z0k, ↓Z0x, ↓Z1c, ↓Z02, ↓Z0i, ↓Z0j, ↓Z0c, ↓Z06, ↓Z0h, ↓Z1o, ↓Z1m, ↓Z1h, ↓Z1b, ↓blockK_r, ↓Z0g, ↓Z1a, ↓famK_n, ↓Z26, ↓famK_r, ↓Z0a, Z1g, Z05, Z10, Z0s, Z0v, evN, Z11, Z0f, Z0u, Z1u, Z0e, Z09, Z0d, Z0q, evT, Opd.ev, Z01, Z00, Z0t, Z0o, Z0r, Z07, Z16, LOp.isNew, State.prune, Z15, idx_Step, idx_Stamp, StepG.row, StampG.row, Z1z, Int.toNat_natCast, Z2i, List.length_map, List.take_of_length_le, Z1r, Z1s, binT, binQ, chk, Z1y, Bool.and_self, resQ, resV, resT, Z0z, Z1e, fnOf, Z1d, isD, Z23, Z0n, RetS, Nat.le_refl, AV.d.injEq, DV.bool.injEq, ↓reduceIte, Nat.reduceAdd, Nat.reduceBEq, List.length_cons, List.length_nil, List.replicate_zero, List.nil_append, List.cons_append, List.append_nil, List.map_cons, List.map_nil, List.all_cons, List.all_nil, List.drop_zero, List.drop_succ_cons, List.take_succ_cons, List.take_zero, List.flatten_cons, List.flatten_nil, true_and, Nat.reduceLeDiff, List.reverse_cons, List.reverse_nil, Nat.zero_add, Nat.add_zero, Bool.false_eq_true, F2, G2, at_rat_Cmp]
    refine ⟨fun c3 => ⟨hb, ⟨by omega, c3⟩, fun c4 => ?_, fun c4 => ?_⟩, fun c3 => ?_⟩
    · symm
      rw [List.any_eq_true]
      exact ⟨_, getD_mem (show j < W.length by omega), decide_eq_true c4⟩
    · have hlt : j < W.length := by omega
      have c4 : ¬ cmpQ' (ss.getD i default).when (W.getD j default).when < 0 := c4
      exact Z0l.mk [] (j + 1) (by simp) (by simp) (by simp only [State.can, AV.can, HO.can, Z01, Z00, Heap.at, Nat.reduceBEq, Option.getD_some, List.map_cons, List.map_nil, Z12 hlt (by omega)]) ⟨by show j + 1 ≤ _; omega, by rw [any_take_succ (q := fun e : StampG => decide (cmpQ' (ss.getD i default).when e.when < 0)) (d := default) hlt, ha, decide_eq_false c4]; rfl⟩ (by show _ - (j + 1) < _ - j; omega)
    · have hje : j = W.length := by omega
      subst hje
      rw [List.take_length] at ha
      exact ha.symm
end Go.Ago

/- RaceAll. Conditions: none. -/
set_option maxRecDepth 100000
set_option linter.unusedSimpArgs false
set_option linter.unusedVariables false
namespace Go.Ago
/-! ### Where a pair stands -/
theorem pRow_next (q : Nat → Nat → Bool) (i k : Nat) : pRow q i (k + 1) = pRow q i k ++ (if i < k ∧ q i k = true then [⟨i, k⟩] else []) := by
  unfold pRow
  rw [List.range_succ, List.filter_append, List.map_append]
  congr 1
  rw [List.filter_cons]
  by_cases h : i < k ∧ q i k = true
  · rw [if_pos h, if_pos (by rw [decide_eq_true h.1, h.2]; rfl)]; rfl
  · rw [if_neg h, if_neg (by simpa using h)]; rfl
theorem pRow_pre (q : Nat → Nat → Bool) {i k m : Nat} (h : k ≤ m) : ∃ R, pRow q i m = pRow q i k ++ R := by
  induction h with
  | refl => exact ⟨[], by simp⟩
  | @step m _ ih =>
    obtain ⟨R, e⟩ := ih
    rw [pRow_next, e, List.append_assoc]
    exact ⟨_, rfl⟩
theorem pAll_pre (q : Nat → Nat → Bool) {n i m : Nat} (h : i ≤ m) : ∃ R, pAll q n m = pAll q n i ++ R := by
  induction h with
  | refl => exact ⟨[], by simp⟩
  | @step m _ ih =>
    obtain ⟨R, e⟩ := ih
    rw [pAll_succ, e, List.append_assoc]
    exact ⟨_, rfl⟩
theorem pair_at {q : Nat → Nat → Bool} {n i k : Nat} (hi : i < n) (hk : k < n) (hik : i < k) (h : q i k = true) :
    (pAll q n i).length + (pRow q i k).length < (pAll q n n).length ∧ (pAll q n n).getD ((pAll q n i).length + (pRow q i k).length) default = ⟨i, k⟩ := by
  obtain ⟨R1, e1⟩ := pRow_pre q (i := i) (show k + 1 ≤ n from hk)
  obtain ⟨R2, e2⟩ := pAll_pre q (n := n) (show i + 1 ≤ n from hi)
  rw [pRow_next, if_pos ⟨hik, h⟩] at e1
  rw [pAll_succ, e1] at e2
  have e3 : pAll q n n = (pAll q n i ++ pRow q i k) ++ (⟨i, k⟩ :: (R1 ++ R2)) := by rw [e2]; simp
  rw [← List.length_append, e3]
  exact ⟨by simp, by simp⟩
/-! ### What is weak -/
def Mem.Full' (m : Mem) : Prop := ∀ x, x < m.locs.length → (m.locs.getD x default).atom = false → paAt m x ≠ []
theorem do_full {m : Mem} {s : StepG} {b : Nat} (hg : m.Good b) (he : Z2a m s = 0) (hf : m.Full') : (doMem m s).Full' := by
  intro x hx ha
  rw [doMem_locs] at hx ha
  by_cases h : s.act.kind = 2 ∧ s.act.loc.toNat = x
  · rw [pa_write hg he h.1 h.2]
    intro e
    have := (mem_ins (L := paAt m x) (i := bsAt (paAt m x) s.when) (v := ⟨leastQ s.when, s.act.new⟩)).2 (.inl rfl)
    rw [e] at this; cases this
  · rw [pa_same h]; exact hf x hx ha
theorem full_run {l : List LocG} {t : Int} {ss : List StepG} (he : Z25 l t ss = 0) : ∀ i, i ≤ ss.length → (memAt l t ss i).Full' := by
  have hrun := run_of he
  intro i
  induction i with
  | zero =>
    intro _ x hx ha
    have h := (playErr_new he).1
    have hx : x < (newM l t).plain.locs.length := hx
    have ha : ((newM l t).plain.locs.getD x default).atom = false := ha
    rw [new_locs h] at hx ha
    show paAt (newM l t).plain x ≠ []
    rw [new_past h hx ha]; simp
  | succ i ih =>
    intro hi
    rw [hrun.next i (by omega)]
    exact do_full (hrun.good i (by omega)) (hrun.ok i (by omega)) (ih (by omega))
theorem past_run {l : List LocG} {t : Int} {ss : List StepG} (he : Z25 l t ss = 0) : ∀ i, i ≤ ss.length → AsPast l t (uptoS ss i) (memAt l t ss i) := by
  have hrun := run_of he
  intro i
  induction i with
  | zero => intro _; exact like_new (playErr_new he).1
  | succ i ih =>
    intro hi
    rw [hrun.next i (by omega), uptoS_succ]
    exact like_step (ih (by omega)) (hrun.good i (by omega)) (hrun.ok i (by omega))
theorem weak_eq {l : List LocG} {t : Int} {ss : List StepG} (he : Z25 l t ss = 0) {i : Nat} (hi : i < ss.length) : (weakL l t ss).getD i default = weak22 l ss i := by
  have hrun := run_of he
  have hg := hrun.good i (by omega)
  have hok := hrun.ok i hi
  unfold weakL
  rw [if_pos he, Z28 (by simpa using hi)]
  simp only [List.getElem_map, List.getElem_range]
  unfold weak22
  cases hp : isPl (ss.getD i default).act.kind with
  | false => rw [wk_plain hp]; rfl
  | true =>
    rw [Bool.true_and]
    obtain ⟨hx, ha⟩ := plain_loc hok hp
    have hl0 := (taken hok).loc (.inl hp)
    have hwr := (taken hok).when hp
    have hlocs := run_locs he (show i ≤ ss.length by omega)
    have hne := full_run he i (by omega) _ hx ha
    have hpe : paAt (memAt l t ss i) (stepAt ss i).act.loc.toNat = (paAt (memAt l t ss i) (stepAt ss i).act.loc.toNat).dropLast ++ [(paAt (memAt l t ss i) (stepAt ss i).act.loc.toNat).getLast hne] := (List.dropLast_concat_getLast _).symm
    generalize (paAt (memAt l t ss i) (stepAt ss i).act.loc.toNat).dropLast = P at hpe
    generalize (paAt (memAt l t ss i) (stepAt ss i).act.loc.toNat).getLast hne = e at hpe
    have hr := pa_rising hg hx
    have hmem : ∀ x, x ∈ sortG (Z2d l (ss.take i) (ss.getD i default).act.loc) ↔ x ∈ P ++ [e] := fun x => by
      rw [sort_mem, uptoS_take (by omega), ← hpe]
      have hx2 : (stepAt ss i).act.loc.toNat < l.length := by rw [← hlocs]; exact hx
      have ha2 : (l.getD (stepAt ss i).act.loc.toNat default).atom = false := by rw [← hlocs]; exact ha
      have := (past_run he i (by omega)).past _ hx2 ha2 x
      rw [show (((stepAt ss i).act.loc.toNat : Nat) : Int) = (stepAt ss i).act.loc by omega] at this
      exact this.symm
    have hlast : lastG (goM (newM l t) ss i) (ss.getD i default).act.loc = some e := by
      rw [lastG_plain, if_pos]
      · show (paAt (memAt l t ss i) (stepAt ss i).act.loc.toNat).getLast? = _
        rw [hpe, List.getLast?_append]; rfl
      · refine ⟨hl0.1, ?_⟩
        show _ < ((memAt l t ss i).past.length : Int)
        rw [hg.wf.past]; exact hl0.2
    unfold wkB
    rw [hlast]
    show (isPl (ss.getD i default).act.kind && (decide (cmpQ' (ss.getD i default).when e.when < 0) || (decide ((ss.getD i default).act.kind = 1) && !decide (cmpQ' (ss.getD i default).when e.when = 0)))) = _
    rw [hp, Bool.true_and]
    rw [hpe] at hr
    have her : Z29 e.when = true := by have := hr.get (i := P.length) (by simp); rwa [getD_last] at this
    have hmax : ∀ x ∈ P ++ [e], Z29 x.when = true ∧ cmpQ' x.when e.when ≤ 0 := fun x hx3 => by
      obtain ⟨k, hk, rfl⟩ := mem_getD hx3
      refine ⟨hr.get hk, ?_⟩
      by_cases h : k = P.length
      · subst h; rw [getD_last, cmpQ_self]; omega
      · have hlen : (P ++ [e]).length = P.length + 1 := by simp
        have := hr.lt (i := k) (j := P.length) (by omega) (by omega)
        rw [getD_last] at this; omega
    have hany : (sortG (Z2d l (ss.take i) (ss.getD i default).act.loc)).any (fun x => decide (cmpQ' (ss.getD i default).when x.when < 0)) = decide (cmpQ' (ss.getD i default).when e.when < 0) := by
      rw [Bool.eq_iff_iff, List.any_eq_true, decide_eq_true_eq]
      constructor
      · rintro ⟨x, hx3, h⟩
        obtain ⟨h1, h2⟩ := hmax x ((hmem x).1 hx3)
        exact cmpQ_lt_le hwr h1 her (of_decide_eq_true h) h2
      · intro h
        exact ⟨e, (hmem e).2 (by simp), decide_eq_true h⟩
    rw [hany]
    by_cases h1 : (ss.getD i default).act.kind = 1
    · obtain ⟨hb, -, -⟩ := (taken hok).read h1
      have hpo : pastOf (memAt l t ss i) (stepAt ss i) = P ++ [e] := hpe
      rw [hpo] at hb
      obtain ⟨q1, q2⟩ := bsHas_true hb
      obtain ⟨h3, h4⟩ := hmax _ (getD_mem q1)
      have h5 : cmpQ' (ss.getD i default).when e.when ≤ 0 := by
        have h6 := cmpQ_alike h3 hwr her q2
        have h7 : cmpQ' (stepAt ss i).when e.when = cmpQ' (ss.getD i default).when e.when := rfl
        omega
      by_cases h6 : cmpQ' (ss.getD i default).when e.when < 0
      · rw [decide_eq_true h6]; rfl
      · have h7 : cmpQ' (ss.getD i default).when e.when = 0 := by omega
        rw [h7]; simp
    · rw [decide_eq_false h1]; simp
/-! ### fits -/
def fits22 (l : List LocG) (ss : List StepG) : Bool := decide (l.length ≤ 10) && decide (ss.length ≤ 14)
def sp_fits22 : Sp := ⟨List LocG × Bool × List StepG × Bool, fun x => [.d (.list (x.1.map LocG.row) x.2.1), .d (.list (x.2.2.1.map StepG.row) x.2.2.2)], fun x => .data True (.d (.bool (fits22 x.1 x.2.2.1))) true⟩
theorem at_fits22 (l : List LocG) (f : Bool) (ss : List StepG) (g : Bool) : sp_fits22.at [.d (.list (l.map LocG.row) f), .d (.list (ss.map StepG.row) g)] = .data True (.d (.bool (fits22 l ss))) true :=
  Sp.at_enc (s := sp_fits22) (fun x y h => by
    obtain ⟨l, f, ss, g⟩ := x; obtain ⟨l', f', ss', g'⟩ := y
    simp only [sp_fits22, List.cons.injEq, AV.d.injEq, DV.list.injEq, and_true, true_and] at h
    obtain ⟨⟨h1, h2⟩, h3, h4⟩ := h
    rw [Z1k LocG.row_inj h1, h2, Z1k StepG.row_inj h3, h4]) (l, f, ss, g)
theorem body_law22_fits {T : Tab} : sp_fits22.Body T V_law22_fits L_law22_fits R_law22_fits := by
  rintro ⟨l, f, ss, g⟩ -
  refine .inl ⟨rfl, ?_⟩
  unfold V_law22_fits L_law22_fits R_law22_fits
  simp (maxSteps := 3000000) only [↓Z0x, ↓Z02, ↓Z0i, ↓Z06, ↓Z0h, ↓Z0g, ↓Z1a, ↓Z0p, ↓Z0m, ↓Z0a, Z1g, Z05, Z0s, Z18, Z0v, evN, Z0f, Z0u, Z0e, Z0d, Z1v, evT, Opd.ev, Z01, Z00, Z0t, Z1i, Z0o, Z0w, Z07, Z16, LOp.isNew, State.prune, Z2i, List.length_map, Z1s, binT, binQ, resQ, resV, resT, pickV, RetS, AV.d.injEq, DV.bool.injEq, ↓reduceIte, Nat.reduceBEq, List.length_nil, List.replicate_zero, List.append_nil, List.map_cons, List.map_nil, true_and, Nat.zero_add, Nat.add_zero, Bool.false_eq_true, sp_fits22]
  unfold fits22
  refine ⟨fun h => ?_, fun h => ?_⟩
  · rw [decide_eq_true (by omega : l.length ≤ 10), Bool.true_and]
    by_cases c : ss.length ≤ 14
    · rw [decide_eq_true c, decide_eq_true (by omega)]
    · rw [decide_eq_false c, decide_eq_false (by omega)]
  · rw [decide_eq_false (by omega : ¬ l.length ≤ 10)]; rfl
set_option maxHeartbeats 4000000 in
theorem law_RaceAll {T : Tab} {n1 n2 n3 n4 n5 n6 n7 n8 n9 n10 : Nat} (k1 : Knows T n1 sp_true) (k2 : Knows T n2 sp_rOrder) (k3 : Knows T n3 sp_Has) (k4 : Knows T n4 sp_Races) (k5 : Knows T n5 sp_fits22) (k6 : Knows T n6 sp_Weak) (k7 : Knows T n7 sp_Played22) (k8 : Knows T n8 sp_Weak22) (k9 : Knows T n9 sp_Behind) (k10 : Knows T n10 sp_Race22) (l : List LocG) (f : Bool) (t : Int) (ss : List StepG) (g : Bool) (hl : l.length ≤ maxLen) (hs : ss.length ≤ maxLen) (hin : ∀ y ∈ ss, inI y.act.loc) :
    Holds T V_law22_RaceAll (L_law22_RaceAll n1 n2 n3 n4 n5 n6 n7 n8 n9 n10) R_law22_RaceAll [.d (.list (l.map LocG.row) f), .d (.int .i64 t), .d (.list (ss.map StepG.row) g)] := by
  have F1 := k1.F; have G1 := k1.G; have F2 := k2.F; have G2 := k2.G; have F3 := k3.F; have G3 := k3.G; have F4 := k4.F; have G4 := k4.G; have F5 := k5.F; have G5 := k5.G; have F6 := k6.F; have G6 := k6.G; have F7 := k7.F; have G7 := k7.G; have F8 := k8.F; have G8 := k8.G; have F9 := k9.F; have G9 := k9.G; have F10 := k10.F; have G10 := k10.G
  unfold V_law22_RaceAll L_law22_RaceAll R_law22_RaceAll
  simp (maxSteps := 3000000) only [↓Z0k, ↓Z0x, ↓Z02, ↓Z0i, ↓Z0j, ↓Z0c, ↓Z1n, ↓Z06, ↓Z0h, ↓Z1m, ↓Z0g, ↓Z1a, ↓Z0p, ↓Z0m, ↓Z1j, ↓Z0a, Z1g, Z05, Z0s, Z18, Z0v, evN, Z11, Z0f, Z0u, Z0e, Z09, Z0d, Z1v, Z1x, Z0q, evT, Opd.ev, Z01, Z00, Z0t, Z1i, Z0o, Z0r, Z0w, Z07, Z16, LOp.isNew, State.prune, Z2i, List.length_map, Z1s, evUn, binT, binQ, resQ, resV, resT, pickV, Z0z, Z1e, fnOf, Z1d, Z23, Z0n, RetS, AV.d.injEq, DV.bool.injEq, ↓reduceIte, Nat.reduceAdd, Nat.reduceBEq, List.length_cons, List.length_nil, List.replicate_zero, List.append_nil, List.map_cons, List.map_nil, List.getD_cons_zero, List.getD_cons_succ, List.flatten_cons, List.flatten_nil, Bool.not_true, true_and, decide_true, and_self, Nat.reduceLT, Nat.zero_add, Nat.add_zero, Bool.false_eq_true, F1, G1, F2, G2, F4, G4, F5, G5, F6, G6, F7, G7, at_true, at_rOrder, at_Races, at_fits22, at_Weak, at_Played22]
  have hm : maxLen = 9223372036854775807 := rfl
  refine ⟨fun hq => ⟨⟨hl, hs⟩, ⟨hl, hs⟩, ⟨hl, hs⟩, ⟨hl, hs, hin⟩, fun he => ?_, fun he => ?_⟩, fun _ => trivial⟩
  case refine_2 =>
    have e1 := ordL_no he
    have e2 : racesL l t ss = [] := if_neg he
    have e3 : weakL l t ss = [] := if_neg he
    rw [e1, e2, e3]
    exact ⟨fun _ => ⟨fun _ => rfl, fun h => h rfl⟩, fun h => h rfl⟩
  have hn := playErr_len he
  have hR := ord_len hn
  have hW := weakL_len he
  have hra : racesL l t ss = pAll (rcB (ordG ss) ss) ss.length ss.length := if_pos he
  have hwe : ∀ i, i < ss.length → (weakL l t ss).getD i default = weak22 l ss i := fun i hi => weak_eq he hi
  have hrun := run_of he
  have hkind : ∀ y ∈ ss, 1 ≤ y.act.kind ∧ y.act.kind ≤ 6 := fun y hy => by
    obtain ⟨k, hk, rfl⟩ := mem_getD hy
    have := (taken (hrun.ok k hk)).right
    have e : (stepAt ss k) = ss.getD k default := rfl
    rw [e] at this
    unfold ActG.right at this
    split at this
    · omega
    · simp only [Bool.and_eq_true, decide_eq_true_eq] at this
      omega
  have hplain : ∀ i, i < ss.length → isPl (ss.getD i default).act.kind = true → 0 ≤ (ss.getD i default).act.loc ∧ (ss.getD i default).act.loc < l.length := fun i hi hp => by
    have h2 := (taken (hrun.ok i hi)).loc (.inl hp)
    rw [run_locs he (by omega)] at h2
    exact h2
  have hsm : ∀ i, i ≤ ss.length → (pAll (rcB (ordG ss) ss) ss.length i).length ≤ 4096 := fun i hi => Nat.le_trans (pAll_len _ _ _) (Nat.mul_le_mul (show i ≤ 64 by omega) hn)
  rw [ordL_ok he, hra, hR, hW]
  refine ⟨fun _ => ⟨fun _ => ?_, fun h => h rfl⟩, fun h => h rfl⟩
  generalize weakL l t ss = W at *
  generalize hR0 : ordG ss = R at *
  have hpt : ∀ {i k : Nat}, i < ss.length → k < ss.length → i < k → rcB R ss i k = true → _ := fun h1 h2 h3 h4 => pair_at (q := rcB R ss) h1 h2 h3 h4
  generalize hrc : rcB R ss = rc at *
  have hRl : R.length ≤ maxLen := by omega
  refine Loop.fam [0, 1, 2, 7, 9, 11, 14, 15] (fun i : Nat => ⟨[(0, .d (.list (l.map LocG.row) f)), (1, .d (.int .i64 t)), (2, .d (.list (ss.map StepG.row) g)), (7, .d (.list (R.map rowW) false)), (9, .d (.list ((pAll rc ss.length ss.length).map RatG.row) false)), (11, .d (.list (W.map rowB) false)), (14, .d (.int .i64 (pAll rc ss.length i).length)), (15, .d (.int .i64 i))], []⟩) (fun i => i ≤ ss.length) (fun i => ss.length - i) 0 [] (by simp) (by simp) (by simp only [State.can, AV.can, HO.can, Z01, Z00, Heap.at, Nat.reduceBEq, Option.getD_some, List.map_cons, List.map_nil]; rfl) (Nat.zero_le _) ?_
  intro i hi
  have hi : i ≤ ss.length := hi
  simp (maxSteps := 3000000) only [↓Z0k, ↓Z0x, ↓Z1c, ↓Z02, ↓Z0i, ↓Z0j, ↓Z0c, ↓Z1n, ↓Z06, ↓Z0h, ↓Z1o, ↓Z1m, ↓Z1b, ↓blockK_r, ↓Z0g, ↓Z1a, ↓Z26, ↓famK_r, ↓Z1j, ↓Z0a, Z1g, Z05, Z10, Z0s, Z0v, evN, Z11, Z0f, Z0u, Z1u, Z0e, Z09, Z0d, Z0q, evT, Opd.ev, Z01, Z00, Z0t, Z0o, Z0r, Z07, Z16, LOp.isNew, State.prune, Z15, loadDT_f, Int.toNat_natCast, Z2i, List.length_map, Z1r, Z1s, binT, binQ, chk, Z1y, List.contains_nil, Bool.and_self, resQ, resV, resT, Z0z, Z1e, fnOf, Z1d, Z23, evEq, eqV, Z0n, RetS, AV.d.injEq, DV.bool.injEq, ↓reduceIte, Nat.reduceBEq, List.length_nil, List.replicate_zero, List.nil_append, List.cons_append, List.append_nil, List.map_cons, List.map_nil, List.all_cons, List.all_nil, List.getD_cons_zero, List.getD_cons_succ, List.flatten_cons, List.flatten_nil, Bool.not_false, true_and, Nat.reduceLT, List.reverse_cons, List.reverse_nil, Nat.add_zero, Bool.false_eq_true, F8, G8, at_Weak22, idx_B, rowB_get, rowB_len]
  refine ⟨fun c => ⟨⟨by omega, by omega⟩, ⟨hn, ⟨by omega, c⟩, hplain i (by omega)⟩, fun _ => ?_, fun d => by rw [hwe i (by omega)] at d; simp at d⟩, fun c => ?_⟩
  case refine_2 =>
    have hie : i = ss.length := by omega
    subst hie
    exact decide_eq_true rfl
  have hi' : i < ss.length := by omega
  have hrow : ∀ k, k ≤ ss.length → (pRow rc i k).length ≤ 64 := fun k hk => Nat.le_trans (pRow_len _ _ _) (by omega)
  have hsi := hsm i hi
  refine Loop.fam [0, 1, 2, 7, 9, 11, 14, 15, 16] (fun k : Nat => ⟨[(0, .d (.list (l.map LocG.row) f)), (1, .d (.int .i64 t)), (2, .d (.list (ss.map StepG.row) g)), (7, .d (.list (R.map rowW) false)), (9, .d (.list ((pAll rc ss.length ss.length).map RatG.row) false)), (11, .d (.list (W.map rowB) false)), (14, .d (.int .i64 ((pAll rc ss.length i).length + (pRow rc i k).length : Nat))), (15, .d (.int .i64 i)), (16, .d (.int .i64 k))], []⟩) (fun k => k ≤ ss.length) (fun k => ss.length - k) 0 [] (by simp) (by simp) (by simp only [State.can, AV.can, HO.can, Z01, Z00, Heap.at, Nat.reduceBEq, Option.getD_some, List.map_cons, List.map_nil]; rfl) (Nat.zero_le _) ?_
  intro k hk
  have hk : k ≤ ss.length := hk
  simp (maxSteps := 3000000) only [↓Z0k, ↓Z0x, ↓Z1c, ↓Z02, ↓Z0i, ↓Z0j, ↓Z0c, ↓Z06, ↓Z0h, ↓Z1o, ↓Z1m, ↓Z1h, ↓Z1b, ↓blockK_r, ↓Z0g, ↓Z1a, ↓famK_n, ↓Z26, ↓famK_r, ↓Z0p, ↓Z0m, ↓Z1j, ↓Z0a, ↓boolK_and, Z1g, Z05, Z0s, Z18, Z0v, evN, Z11, Z0f, Z0u, Z0e, Z09, Z0d, Z1v, Z1x, Z0q, evT, Opd.ev, Z01, Z00, Z0t, Z1i, Z0o, Z0r, Z07, Z16, LOp.isNew, State.prune, Z19, Z13, Z15, idx_Rat, RatG.row, Z1z, Int.toNat_natCast, Z2i, List.length_map, List.take_of_length_le, Z1r, Z1s, binT, binQ, resQ, resV, resT, pickV, Z0z, Z1e, fnOf, Z1d, Z23, evEq, eqV, eqK, eqC1, buildQ, buildT, putRow, Z0n, RetS, Nat.le_refl, AV.d.injEq, DV.bool.injEq, ↓reduceIte, Nat.reduceAdd, Nat.reduceBEq, List.length_cons, List.length_nil, List.replicate_zero, List.nil_append, List.cons_append, List.append_nil, List.map_cons, List.map_nil, List.drop_zero, List.drop_succ_cons, List.take_succ_cons, List.take_zero, List.flatten_cons, List.flatten_nil, Bool.and_true, Bool.not_true, true_and, Option.bind_some, Option.map_some, beq_self_eq_true, and_self, Nat.reduceLeDiff, Nat.zero_add, Nat.add_zero, Bool.false_eq_true, F3, G3, F9, G9, F10, G10, at_Has, at_Behind, at_Race22, hR0, hrc]
  have hlen : ∀ k, (pRow rc i (k + 1)).length = (pRow rc i k).length + (if i < k ∧ rc i k = true then 1 else 0) := fun k => by
    rw [pRow_next, List.length_append]; split <;> rfl
  have hb : (k : Int) < ss.length → (0 : Int) ≤ k ∧ (k : Int) < ss.length := fun c => ⟨by omega, c⟩
  have hbi : (0 : Int) ≤ i ∧ (i : Int) < ss.length := ⟨by omega, by omega⟩
  have hp := fun (h1 : k < ss.length) (h2 : i < k) (h3 : rc i k = true) => pair_at (q := rc) hi' h1 h2 h3
  have hrk := hrow k hk
  have hskip : k < ss.length → ¬ (i < k ∧ rc i k = true) → (pRow rc i (k + 1)).length = (pRow rc i k).length := fun _ h => by rw [hlen k, if_neg h]; rfl
  have hAn : (pAll rc ss.length (i + 1)).length = (pAll rc ss.length i).length + (pRow rc i ss.length).length := by rw [pAll_succ, List.length_append]
  generalize (pAll rc ss.length i).length = A at *
  generalize hB : (pRow rc i k).length = B at *
  refine ⟨fun c => ⟨hRl, ⟨hn, hbi, hb c⟩, fun c1 => ⟨⟨hn, hbi, hb c, hkind⟩, fun c2 => ⟨fun c3 => ?_, fun c3 => ⟨⟨by omega, by omega⟩, fun c4 => ?_, fun c4 => ?_⟩⟩, fun c2 => ?_⟩, fun c1 => ?_⟩, fun c => ?_⟩
  · have := (hp (by omega) (by omega) c2).1; omega
  · have e : (pRow rc i (k + 1)).length = B + 1 := by rw [hlen k, if_pos ⟨by omega, c2⟩, hB]
    have w : IntKind.i64.wrap (((A + B : Nat) : Int) + 1) = ((A + (B + 1) : Nat) : Int) := by rw [wrap_id (by omega) (by omega)]; omega
    exact Z0l.mk [] (k + 1) (by simp) (by simp) (by simp only [State.can, AV.can, HO.can, Z01, Z00, Heap.at, Nat.reduceBEq, Option.getD_some, List.map_cons, List.map_nil, Z12 (show k < ss.length by omega) (by omega), e, w]) (by show k + 1 ≤ _; omega) (by show _ - (k + 1) < _ - k; omega)
  · have e := (hp (by omega) (by omega) c2).2
    rw [e] at c4
    simp at c4
  · have e := hskip (by omega) (fun h => by rw [c2] at h; cases h.2)
    exact Z0l.mk [] (k + 1) (by simp) (by simp) (by simp only [State.can, AV.can, HO.can, Z01, Z00, Heap.at, Nat.reduceBEq, Option.getD_some, List.map_cons, List.map_nil, Z12 (show k < ss.length by omega) (by omega), e]) (by show k + 1 ≤ _; omega) (by show _ - (k + 1) < _ - k; omega)
  · have e := hskip (by omega) (fun h => by omega)
    exact Z0l.mk [] (k + 1) (by simp) (by simp) (by simp only [State.can, AV.can, HO.can, Z01, Z00, Heap.at, Nat.reduceBEq, Option.getD_some, List.map_cons, List.map_nil, Z12 (show k < ss.length by omega) (by omega), e]) (by show k + 1 ≤ _; omega) (by show _ - (k + 1) < _ - k; omega)
  · have hke : k = ss.length := by omega
    subst hke
    rw [hB] at hAn
    exact Z0l.mk [] (i + 1) (by simp) (by simp) (by simp only [State.can, AV.can, HO.can, Z01, Z00, Heap.at, Nat.reduceBEq, Option.getD_some, List.map_cons, List.map_nil, Z12 hi' (by omega), hAn]) (by show i + 1 ≤ _; omega) (by show _ - (i + 1) < _ - i; omega)
end Go.Ago
