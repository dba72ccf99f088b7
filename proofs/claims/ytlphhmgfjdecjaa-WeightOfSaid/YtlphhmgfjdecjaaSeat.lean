/- The functions of this cut as the abstract machine has them, and the table of their contracts. Conditions: none. -/
import Derived.Test.YtlphhmgfjdecjaaChecked
import Derived.Test.YtlphhmgfjdecjaaAgoLaw03
set_option maxRecDepth 100000
set_option linter.unusedVariables false
namespace Go.Proofs.Ytlphhmgfjdecjaa
open Go Go.Ago
theorem low21 : lowCode Try.prog Try.f21.ntmps (Try.f21.body.getD .skip) = some (L_math_Signbit) := by kernel_rfl
theorem ress21 : lowRess Try.prog Try.f21.results.toList = some R_math_Signbit := by kernel_rfl
theorem has21 : Try.f21.body = some (Try.f21.body.getD .skip) := by kernel_rfl
theorem low28 : lowCode Try.prog Try.f28.ntmps (Try.f28.body.getD .skip) = some (L_cmp_isNaN_float64) := by kernel_rfl
theorem ress28 : lowRess Try.prog Try.f28.results.toList = some R_cmp_isNaN_float64 := by kernel_rfl
theorem has28 : Try.f28.body = some (Try.f28.body.getD .skip) := by kernel_rfl
theorem low22 : lowCode Try.prog Try.f22.ntmps (Try.f22.body.getD .skip) = some (L_cmp_Less_float64 28) := by kernel_rfl
theorem ress22 : lowRess Try.prog Try.f22.results.toList = some R_cmp_Less_float64 := by kernel_rfl
theorem has22 : Try.f22.body = some (Try.f22.body.getD .skip) := by kernel_rfl
theorem low10 : lowCode Try.prog Try.f10.ntmps (Try.f10.body.getD .skip) = some (L_weight_Less 21 22) := by kernel_rfl
theorem ress10 : lowRess Try.prog Try.f10.results.toList = some R_weight_Less := by kernel_rfl
theorem has10 : Try.f10.body = some (Try.f10.body.getD .skip) := by kernel_rfl
theorem low12 : lowCode Try.prog Try.f12.ntmps (Try.f12.body.getD .skip) = some (L_weight_Of) := by kernel_rfl
theorem ress12 : lowRess Try.prog Try.f12.results.toList = some R_weight_Of := by kernel_rfl
theorem has12 : Try.f12.body = some (Try.f12.body.getD .skip) := by kernel_rfl
theorem low18 : lowCode Try.prog Try.f18.ntmps (Try.f18.body.getD .skip) = some (L_weight_Least 10) := by kernel_rfl
theorem ress18 : lowRess Try.prog Try.f18.results.toList = some R_weight_Least := by kernel_rfl
theorem has18 : Try.f18.body = some (Try.f18.body.getD .skip) := by kernel_rfl
theorem low8 : lowCode Try.prog Try.f8.ntmps (Try.f8.body.getD .skip) = some (L_law03_awake 10 12 18) := by kernel_rfl
theorem ress8 : lowRess Try.prog Try.f8.results.toList = some R_law03_awake := by kernel_rfl
theorem has8 : Try.f8.body = some (Try.f8.body.getD .skip) := by kernel_rfl
theorem low23 : lowCode Try.prog Try.f23.ntmps (Try.f23.body.getD .skip) = some (L_ref03_NaN) := by kernel_rfl
theorem ress23 : lowRess Try.prog Try.f23.results.toList = some R_ref03_NaN := by kernel_rfl
theorem has23 : Try.f23.body = some (Try.f23.body.getD .skip) := by kernel_rfl
theorem low11 : lowCode Try.prog Try.f11.ntmps (Try.f11.body.getD .skip) = some (L_ref03_Rank 23) := by kernel_rfl
theorem ress11 : lowRess Try.prog Try.f11.results.toList = some R_ref03_Rank := by kernel_rfl
theorem has11 : Try.f11.body = some (Try.f11.body.getD .skip) := by kernel_rfl
theorem low3 : lowCode Try.prog Try.f3.ntmps (Try.f3.body.getD .skip) = some (L_law03_WeightLess 8 10 11) := by kernel_rfl
theorem ress3 : lowRess Try.prog Try.f3.results.toList = some R_law03_WeightLess := by kernel_rfl
theorem has3 : Try.f3.body = some (Try.f3.body.getD .skip) := by kernel_rfl
theorem low4 : lowCode Try.prog Try.f4.ntmps (Try.f4.body.getD .skip) = some (L_law03_WeightOrder 8 10) := by kernel_rfl
theorem ress4 : lowRess Try.prog Try.f4.results.toList = some R_law03_WeightOrder := by kernel_rfl
theorem has4 : Try.f4.body = some (Try.f4.body.getD .skip) := by kernel_rfl
theorem low5 : lowCode Try.prog Try.f5.ntmps (Try.f5.body.getD .skip) = some (L_law03_WeightTurned 8 10) := by kernel_rfl
theorem ress5 : lowRess Try.prog Try.f5.results.toList = some R_law03_WeightTurned := by kernel_rfl
theorem has5 : Try.f5.body = some (Try.f5.body.getD .skip) := by kernel_rfl
theorem low13 : lowCode Try.prog Try.f13.ntmps (Try.f13.body.getD .skip) = some (L_math_Inf) := by kernel_rfl
theorem ress13 : lowRess Try.prog Try.f13.results.toList = some R_math_Inf := by kernel_rfl
theorem has13 : Try.f13.body = some (Try.f13.body.getD .skip) := by kernel_rfl
theorem low6 : lowCode Try.prog Try.f6.ntmps (Try.f6.body.getD .skip) = some (L_law03_WeightOf 8 12 13) := by kernel_rfl
theorem ress6 : lowRess Try.prog Try.f6.results.toList = some R_law03_WeightOf := by kernel_rfl
theorem has6 : Try.f6.body = some (Try.f6.body.getD .skip) := by kernel_rfl
noncomputable def T0 : Tab := Tab.none
theorem ok0 : TabOK Try.prog T0 := TabOK.none
noncomputable def T1 : Tab := T0.add 21 (sp_fb fNeg)
theorem ok1 : TabOK Try.prog T1 := ok0.add (Sp.Body.ok ok0 (body_math_Signbit) Try.func21 (by kernel_rfl) has21 low21 ress21 (fun _ => Nat.le_of_ble_eq_true rfl))
noncomputable def T2 : Tab := T1.add 28 (sp_fb fNaN)
theorem ok2 : TabOK Try.prog T2 := ok1.add (Sp.Body.ok ok1 (body_cmp_isNaN_float64) Try.func28 (by kernel_rfl) has28 low28 ress28 (fun _ => Nat.le_of_ble_eq_true rfl))
noncomputable def T3 : Tab := T2.add 22 (sp_fb2 fCmp)
theorem ok3 : TabOK Try.prog T3 := ok2.add (Sp.Body.ok ok2 (body_cmp_Less_float64 ⟨rfl, fun _ _ => rfl⟩) Try.func22 (by kernel_rfl) has22 low22 ress22 (fun _ => Nat.le_of_ble_eq_true rfl))
noncomputable def T4 : Tab := T3.add 10 (sp_fb2 fLess)
theorem ok4 : TabOK Try.prog T4 := ok3.add (Sp.Body.ok ok3 (body_weight_Less ⟨rfl, fun _ _ => rfl⟩ ⟨rfl, fun _ _ => rfl⟩) Try.func10 (by kernel_rfl) has10 low10 ress10 (fun _ => Nat.le_of_ble_eq_true rfl))
noncomputable def T5 : Tab := T4.add 12 sp_wOf
theorem ok5 : TabOK Try.prog T5 := ok4.add (Sp.Body.ok ok4 (body_weight_Of) Try.func12 (by kernel_rfl) has12 low12 ress12 (fun _ => Nat.le_of_ble_eq_true rfl))
noncomputable def T6 : Tab := T5.add 18 sp_least
theorem ok6 : TabOK Try.prog T6 := ok5.add (Sp.Body.ok ok5 (body_weight_Least ⟨rfl, fun _ _ => rfl⟩) Try.func18 (by kernel_rfl) has18 low18 ress18 (fun _ => Nat.le_of_ble_eq_true rfl))
noncomputable def T7 : Tab := T6.add 8 sp_true
theorem ok7 : TabOK Try.prog T7 := ok6.add (Sp.Body.ok ok6 (body_law03_awake ⟨rfl, fun _ _ => rfl⟩ ⟨rfl, fun _ _ => rfl⟩ ⟨rfl, fun _ _ => rfl⟩) Try.func8 (by kernel_rfl) has8 low8 ress8 (fun _ => Nat.le_of_ble_eq_true rfl))
noncomputable def T8 : Tab := T7.add 23 (sp_fb fNaN)
theorem ok8 : TabOK Try.prog T8 := ok7.add (Sp.Body.ok ok7 (body_ref03_NaN) Try.func23 (by kernel_rfl) has23 low23 ress23 (fun _ => Nat.le_of_ble_eq_true rfl))
noncomputable def T9 : Tab := T8.add 11 sp_rank
theorem ok9 : TabOK Try.prog T9 := ok8.add (Sp.Body.ok ok8 (body_ref03_Rank ⟨rfl, fun _ _ => rfl⟩) Try.func11 (by kernel_rfl) has11 low11 ress11 (fun _ => Nat.le_of_ble_eq_true rfl))
noncomputable def T10 : Tab := T9.add 13 sp_inf
theorem ok10 : TabOK Try.prog T10 := ok9.add (Sp.Body.ok ok9 (body_math_Inf) Try.func13 (by kernel_rfl) has13 low13 ress13 (fun _ => Nat.le_of_ble_eq_true rfl))
noncomputable abbrev TT : Tab := T10
theorem okT : TabOK Try.prog TT := ok10
/-- The law WeightLess, from its body. -/
theorem acalls_WeightLess {args : List AV} (ha : args.length ≤ Try.f3.ntmps) (h : Holds TT V_law03_WeightLess (L_law03_WeightLess 8 10 11) R_law03_WeightLess args) : ACalls Try.prog 3 args [] fun r _ => r = .d (.bool true) :=
  ACalls.of_vck okT V_law03_WeightLess Try.func3 (by kernel_rfl) has3 low3 ress3 ha h
/-- The law WeightOrder, from its body. -/
theorem acalls_WeightOrder {args : List AV} (ha : args.length ≤ Try.f4.ntmps) (h : Holds TT V_law03_WeightOrder (L_law03_WeightOrder 8 10) R_law03_WeightOrder args) : ACalls Try.prog 4 args [] fun r _ => r = .d (.bool true) :=
  ACalls.of_vck okT V_law03_WeightOrder Try.func4 (by kernel_rfl) has4 low4 ress4 ha h
/-- The law WeightTurned, from its body. -/
theorem acalls_WeightTurned {args : List AV} (ha : args.length ≤ Try.f5.ntmps) (h : Holds TT V_law03_WeightTurned (L_law03_WeightTurned 8 10) R_law03_WeightTurned args) : ACalls Try.prog 5 args [] fun r _ => r = .d (.bool true) :=
  ACalls.of_vck okT V_law03_WeightTurned Try.func5 (by kernel_rfl) has5 low5 ress5 ha h
/-- The law WeightOf, from its body. -/
theorem acalls_WeightOf {args : List AV} (ha : args.length ≤ Try.f6.ntmps) (h : Holds TT V_law03_WeightOf (L_law03_WeightOf 8 12 13) R_law03_WeightOf args) : ACalls Try.prog 6 args [] fun r _ => r = .d (.bool true) :=
  ACalls.of_vck okT V_law03_WeightOf Try.func6 (by kernel_rfl) has6 low6 ress6 ha h
end Go.Proofs.Ytlphhmgfjdecjaa
