/- The functions of this cut as the abstract machine has them, and the table of their contracts. Conditions: none. -/
import Derived.Test.YtlecedmhdhmonaaChecked
import Derived.Test.YtlecedmhdhmonaaAgoLaw21
set_option maxRecDepth 100000
set_option linter.unusedVariables false
namespace Go.Proofs.Ytlecedmhdhmonaa
open Go Go.Ago
theorem low21 : lowCode Try.prog Try.f21.ntmps (Try.f21.body.getD .skip) = some (L_act_Right) := by kernel_rfl
theorem ress21 : lowRess Try.prog Try.f21.results.toList = some R_act_Right := by kernel_rfl
theorem has21 : Try.f21.body = some (Try.f21.body.getD .skip) := by kernel_rfl
theorem low22 : lowCode Try.prog Try.f22.ntmps (Try.f22.body.getD .skip) = some (L_slices_Clone_int64) := by kernel_rfl
theorem ress22 : lowRess Try.prog Try.f22.results.toList = some R_slices_Clone_int64 := by kernel_rfl
theorem has22 : Try.f22.body = some (Try.f22.body.getD .skip) := by kernel_rfl
theorem low12 : lowCode Try.prog Try.f12.ntmps (Try.f12.body.getD .skip) = some (L_seq_Do 21 22) := by kernel_rfl
theorem ress12 : lowRess Try.prog Try.f12.results.toList = some R_seq_Do := by kernel_rfl
theorem has12 : Try.f12.body = some (Try.f12.body.getD .skip) := by kernel_rfl
theorem low9 : lowCode Try.prog Try.f9.ntmps (Try.f9.body.getD .skip) = some (L_seq_Run 12) := by kernel_rfl
theorem ress9 : lowRess Try.prog Try.f9.results.toList = some R_seq_Run := by kernel_rfl
theorem has9 : Try.f9.body = some (Try.f9.body.getD .skip) := by kernel_rfl
theorem low7 : lowCode Try.prog Try.f7.ntmps (Try.f7.body.getD .skip) = some (L_law21_awake 9) := by kernel_rfl
theorem ress7 : lowRess Try.prog Try.f7.results.toList = some R_law21_awake := by kernel_rfl
theorem has7 : Try.f7.body = some (Try.f7.body.getD .skip) := by kernel_rfl
theorem low8 : lowCode Try.prog Try.f8.ntmps (Try.f8.body.getD .skip) = some (L_law21_acts) := by kernel_rfl
theorem ress8 : lowRess Try.prog Try.f8.results.toList = some R_law21_acts := by kernel_rfl
theorem has8 : Try.f8.body = some (Try.f8.body.getD .skip) := by kernel_rfl
theorem low16 : lowCode Try.prog Try.f16.ntmps (Try.f16.body.getD .skip) = some (L_ref08_Writes) := by kernel_rfl
theorem ress16 : lowRess Try.prog Try.f16.results.toList = some R_ref08_Writes := by kernel_rfl
theorem has16 : Try.f16.body = some (Try.f16.body.getD .skip) := by kernel_rfl
theorem low11 : lowCode Try.prog Try.f11.ntmps (Try.f11.body.getD .skip) = some (L_ref21_Latest 16) := by kernel_rfl
theorem ress11 : lowRess Try.prog Try.f11.results.toList = some R_ref21_Latest := by kernel_rfl
theorem has11 : Try.f11.body = some (Try.f11.body.getD .skip) := by kernel_rfl
theorem low14 : lowCode Try.prog Try.f14.ntmps (Try.f14.body.getD .skip) = some (L_ref08_Right) := by kernel_rfl
theorem ress14 : lowRess Try.prog Try.f14.results.toList = some R_ref08_Right := by kernel_rfl
theorem has14 : Try.f14.body = some (Try.f14.body.getD .skip) := by kernel_rfl
theorem low15 : lowCode Try.prog Try.f15.ntmps (Try.f15.body.getD .skip) = some (L_ref08_Reads) := by kernel_rfl
theorem ress15 : lowRess Try.prog Try.f15.results.toList = some R_ref08_Reads := by kernel_rfl
theorem has15 : Try.f15.body = some (Try.f15.body.getD .skip) := by kernel_rfl
theorem low10 : lowCode Try.prog Try.f10.ntmps (Try.f10.body.getD .skip) = some (L_ref21_Run 11 14 15) := by kernel_rfl
theorem ress10 : lowRess Try.prog Try.f10.results.toList = some R_ref21_Run := by kernel_rfl
theorem has10 : Try.f10.body = some (Try.f10.body.getD .skip) := by kernel_rfl
theorem low3 : lowCode Try.prog Try.f3.ntmps (Try.f3.body.getD .skip) = some (L_law21_SeqRuns 7 8 9 10 11) := by kernel_rfl
theorem ress3 : lowRess Try.prog Try.f3.results.toList = some R_law21_SeqRuns := by kernel_rfl
theorem has3 : Try.f3.body = some (Try.f3.body.getD .skip) := by kernel_rfl
theorem low13 : lowCode Try.prog Try.f13.ntmps (Try.f13.body.getD .skip) = some (L_ref08_SameNums) := by kernel_rfl
theorem ress13 : lowRess Try.prog Try.f13.results.toList = some R_ref08_SameNums := by kernel_rfl
theorem has13 : Try.f13.body = some (Try.f13.body.getD .skip) := by kernel_rfl
theorem low4 : lowCode Try.prog Try.f4.ntmps (Try.f4.body.getD .skip) = some (L_law21_SeqDo 7 12 13 14 15 16) := by kernel_rfl
theorem ress4 : lowRess Try.prog Try.f4.results.toList = some R_law21_SeqDo := by kernel_rfl
theorem has4 : Try.f4.body = some (Try.f4.body.getD .skip) := by kernel_rfl
theorem low5 : lowCode Try.prog Try.f5.ntmps (Try.f5.body.getD .skip) = some (L_law21_SeqCut 7 8 9 12 13) := by kernel_rfl
theorem ress5 : lowRess Try.prog Try.f5.results.toList = some R_law21_SeqCut := by kernel_rfl
theorem has5 : Try.f5.body = some (Try.f5.body.getD .skip) := by kernel_rfl
noncomputable def T0 : Tab := Tab.none
theorem ok0 : TabOK Try.prog T0 := TabOK.none
noncomputable def T1 : Tab := T0.add 21 sp_act_Right
theorem ok1 : TabOK Try.prog T1 := ok0.add (Sp.Body.ok ok0 (body_act_Right) Try.func21 (by kernel_rfl) has21 low21 ress21 (fun _ => Nat.le_of_ble_eq_true rfl))
noncomputable def T2 : Tab := T1.add 22 (cloneS 1 8)
theorem ok2 : TabOK Try.prog T2 := ok1.add (Sp.Body.ok ok1 (body_slices_Clone_int64) Try.func22 (by kernel_rfl) has22 low22 ress22 (fun _ => Nat.le_of_ble_eq_true rfl))
noncomputable def T3 : Tab := T2.add 12 sp_seq_Do
theorem ok3 : TabOK Try.prog T3 := ok2.add (Sp.Body.ok ok2 (body_seq_Do ⟨rfl, fun _ _ => rfl⟩ ⟨rfl, fun _ _ => rfl⟩) Try.func12 (by kernel_rfl) has12 low12 ress12 (fun _ => Nat.le_of_ble_eq_true rfl))
noncomputable def T4 : Tab := T3.add 9 sp_seq_Run
theorem ok4 : TabOK Try.prog T4 := ok3.add (Sp.Body.ok ok3 (body_seq_Run ⟨rfl, fun _ _ => rfl⟩) Try.func9 (by kernel_rfl) has9 low9 ress9 (fun _ => Nat.le_of_ble_eq_true rfl))
noncomputable def T5 : Tab := T4.add 7 sp_true
theorem ok5 : TabOK Try.prog T5 := ok4.add (Sp.Body.ok ok4 (body_law21_awake ⟨rfl, fun _ _ => rfl⟩) Try.func7 (by kernel_rfl) has7 low7 ress7 (fun _ => Nat.le_of_ble_eq_true rfl))
noncomputable def T6 : Tab := T5.add 8 sp_law21_acts
theorem ok6 : TabOK Try.prog T6 := ok5.add (Sp.Body.ok ok5 (body_law21_acts) Try.func8 (by kernel_rfl) has8 low8 ress8 (fun _ => Nat.le_of_ble_eq_true rfl))
noncomputable def T7 : Tab := T6.add 16 (sp_act_b ActG.isW)
theorem ok7 : TabOK Try.prog T7 := ok6.add (Sp.Body.ok ok6 (body_ref08_Writes) Try.func16 (by kernel_rfl) has16 low16 ress16 (fun _ => Nat.le_of_ble_eq_true rfl))
noncomputable def T8 : Tab := T7.add 11 sp_latest
theorem ok8 : TabOK Try.prog T8 := ok7.add (Sp.Body.ok ok7 (body_ref21_Latest ⟨rfl, fun _ _ => rfl⟩) Try.func11 (by kernel_rfl) has11 low11 ress11 (fun _ => Nat.le_of_ble_eq_true rfl))
noncomputable def T9 : Tab := T8.add 14 sp_act_Right
theorem ok9 : TabOK Try.prog T9 := ok8.add (Sp.Body.ok ok8 (body_ref08_Right) Try.func14 (by kernel_rfl) has14 low14 ress14 (fun _ => Nat.le_of_ble_eq_true rfl))
noncomputable def T10 : Tab := T9.add 15 (sp_act_b ActG.isR)
theorem ok10 : TabOK Try.prog T10 := ok9.add (Sp.Body.ok ok9 (body_ref08_Reads) Try.func15 (by kernel_rfl) has15 low15 ress15 (fun _ => Nat.le_of_ble_eq_true rfl))
noncomputable def T11 : Tab := T10.add 10 sp_refRun
theorem ok11 : TabOK Try.prog T11 := ok10.add (Sp.Body.ok ok10 (body_ref21_Run ⟨rfl, fun _ _ => rfl⟩ ⟨rfl, fun _ _ => rfl⟩ ⟨rfl, fun _ _ => rfl⟩) Try.func10 (by kernel_rfl) has10 low10 ress10 (fun _ => Nat.le_of_ble_eq_true rfl))
noncomputable def T12 : Tab := T11.add 13 sp_sameI
theorem ok12 : TabOK Try.prog T12 := ok11.add (Sp.Body.ok ok11 (body_ref08_SameNums) Try.func13 (by kernel_rfl) has13 low13 ress13 (fun _ => Nat.le_of_ble_eq_true rfl))
noncomputable abbrev TT : Tab := T12
theorem okT : TabOK Try.prog TT := ok12
/-- The law SeqRuns, from its body. -/
theorem acalls_SeqRuns {args : List AV} (ha : args.length ≤ Try.f3.ntmps) (h : Holds TT V_law21_SeqRuns (L_law21_SeqRuns 7 8 9 10 11) R_law21_SeqRuns args) : ACalls Try.prog 3 args [] fun r _ => r = .d (.bool true) :=
  ACalls.of_vck okT V_law21_SeqRuns Try.func3 (by kernel_rfl) has3 low3 ress3 ha h
/-- The law SeqDo, from its body. -/
theorem acalls_SeqDo {args : List AV} (ha : args.length ≤ Try.f4.ntmps) (h : Holds TT V_law21_SeqDo (L_law21_SeqDo 7 12 13 14 15 16) R_law21_SeqDo args) : ACalls Try.prog 4 args [] fun r _ => r = .d (.bool true) :=
  ACalls.of_vck okT V_law21_SeqDo Try.func4 (by kernel_rfl) has4 low4 ress4 ha h
/-- The law SeqCut, from its body. -/
theorem acalls_SeqCut {args : List AV} (ha : args.length ≤ Try.f5.ntmps) (h : Holds TT V_law21_SeqCut (L_law21_SeqCut 7 8 9 12 13) R_law21_SeqCut args) : ACalls Try.prog 5 args [] fun r _ => r = .d (.bool true) :=
  ACalls.of_vck okT V_law21_SeqCut Try.func5 (by kernel_rfl) has5 low5 ress5 ha h
end Go.Proofs.Ytlecedmhdhmonaa
