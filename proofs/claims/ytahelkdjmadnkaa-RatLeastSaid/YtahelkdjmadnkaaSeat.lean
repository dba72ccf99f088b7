/- The functions of this cut as the abstract machine has them, and the table of their contracts. Conditions: none. -/
import Derived.Test.YtahelkdjmadnkaaChecked
import Derived.Test.YtahelkdjmadnkaaAgoLaw01
set_option maxRecDepth 100000
set_option linter.unusedVariables false
namespace Go.Proofs.Ytahelkdjmadnkaa
open Go Go.Ago
theorem low9 : lowCode Try.prog Try.f9.ntmps (Try.f9.body.getD .skip) = some (L_rat_Right) := by kernel_rfl
theorem ress9 : lowRess Try.prog Try.f9.results.toList = some R_rat_Right := by kernel_rfl
theorem has9 : Try.f9.body = some (Try.f9.body.getD .skip) := by kernel_rfl
theorem low10 : lowCode Try.prog Try.f10.ntmps (Try.f10.body.getD .skip) = some (L_rat_Cmp 9) := by kernel_rfl
theorem ress10 : lowRess Try.prog Try.f10.results.toList = some R_rat_Cmp := by kernel_rfl
theorem has10 : Try.f10.body = some (Try.f10.body.getD .skip) := by kernel_rfl
theorem low21 : lowCode Try.prog Try.f21.ntmps (Try.f21.body.getD .skip) = some (L_rat_gcd) := by kernel_rfl
theorem ress21 : lowRess Try.prog Try.f21.results.toList = some R_rat_gcd := by kernel_rfl
theorem has21 : Try.f21.body = some (Try.f21.body.getD .skip) := by kernel_rfl
theorem low11 : lowCode Try.prog Try.f11.ntmps (Try.f11.body.getD .skip) = some (L_rat_Least 9 21) := by kernel_rfl
theorem ress11 : lowRess Try.prog Try.f11.results.toList = some R_rat_Least := by kernel_rfl
theorem has11 : Try.f11.body = some (Try.f11.body.getD .skip) := by kernel_rfl
theorem low13 : lowCode Try.prog Try.f13.ntmps (Try.f13.body.getD .skip) = some (L_rat_Between 9 10 11) := by kernel_rfl
theorem ress13 : lowRess Try.prog Try.f13.results.toList = some R_rat_Between := by kernel_rfl
theorem has13 : Try.f13.body = some (Try.f13.body.getD .skip) := by kernel_rfl
theorem low8 : lowCode Try.prog Try.f8.ntmps (Try.f8.body.getD .skip) = some (L_law01_awake 9 10 13) := by kernel_rfl
theorem ress8 : lowRess Try.prog Try.f8.results.toList = some R_law01_awake := by kernel_rfl
theorem has8 : Try.f8.body = some (Try.f8.body.getD .skip) := by kernel_rfl
theorem low3 : lowCode Try.prog Try.f3.ntmps (Try.f3.body.getD .skip) = some (L_law01_RatOrder 8 9 10) := by kernel_rfl
theorem ress3 : lowRess Try.prog Try.f3.results.toList = some R_law01_RatOrder := by kernel_rfl
theorem has3 : Try.f3.body = some (Try.f3.body.getD .skip) := by kernel_rfl
theorem low4 : lowCode Try.prog Try.f4.ntmps (Try.f4.body.getD .skip) = some (L_law01_RatTimes 8 9 10 11) := by kernel_rfl
theorem ress4 : lowRess Try.prog Try.f4.results.toList = some R_law01_RatTimes := by kernel_rfl
theorem has4 : Try.f4.body = some (Try.f4.body.getD .skip) := by kernel_rfl
theorem low12 : lowCode Try.prog Try.f12.ntmps (Try.f12.body.getD .skip) = some (L_rat_Max 10) := by kernel_rfl
theorem ress12 : lowRess Try.prog Try.f12.results.toList = some R_rat_Max := by kernel_rfl
theorem has12 : Try.f12.body = some (Try.f12.body.getD .skip) := by kernel_rfl
theorem low5 : lowCode Try.prog Try.f5.ntmps (Try.f5.body.getD .skip) = some (L_law01_RatLeast 8 9 10 11 12) := by kernel_rfl
theorem ress5 : lowRess Try.prog Try.f5.results.toList = some R_law01_RatLeast := by kernel_rfl
theorem has5 : Try.f5.body = some (Try.f5.body.getD .skip) := by kernel_rfl
theorem low14 : lowCode Try.prog Try.f14.ntmps (Try.f14.body.getD .skip) = some (L_rat_After 9) := by kernel_rfl
theorem ress14 : lowRess Try.prog Try.f14.results.toList = some R_rat_After := by kernel_rfl
theorem has14 : Try.f14.body = some (Try.f14.body.getD .skip) := by kernel_rfl
theorem low6 : lowCode Try.prog Try.f6.ntmps (Try.f6.body.getD .skip) = some (L_law01_RatBetween 8 9 10 13 14) := by kernel_rfl
theorem ress6 : lowRess Try.prog Try.f6.results.toList = some R_law01_RatBetween := by kernel_rfl
theorem has6 : Try.f6.body = some (Try.f6.body.getD .skip) := by kernel_rfl
theorem low17 : lowCode Try.prog Try.f17.ntmps (Try.f17.body.getD .skip) = some (L_ref01_Right) := by kernel_rfl
theorem ress17 : lowRess Try.prog Try.f17.results.toList = some R_ref01_Right := by kernel_rfl
theorem has17 : Try.f17.body = some (Try.f17.body.getD .skip) := by kernel_rfl
theorem low18 : lowCode Try.prog Try.f18.ntmps (Try.f18.body.getD .skip) = some (L_ref01_Cmp 17) := by kernel_rfl
theorem ress18 : lowRess Try.prog Try.f18.results.toList = some R_ref01_Cmp := by kernel_rfl
theorem has18 : Try.f18.body = some (Try.f18.body.getD .skip) := by kernel_rfl
theorem low19 : lowCode Try.prog Try.f19.ntmps (Try.f19.body.getD .skip) = some (L_ref01_Least 17) := by kernel_rfl
theorem ress19 : lowRess Try.prog Try.f19.results.toList = some R_ref01_Least := by kernel_rfl
theorem has19 : Try.f19.body = some (Try.f19.body.getD .skip) := by kernel_rfl
theorem low15 : lowCode Try.prog Try.f15.ntmps (Try.f15.body.getD .skip) = some (L_ref01_Between 17 18 19) := by kernel_rfl
theorem ress15 : lowRess Try.prog Try.f15.results.toList = some R_ref01_Between := by kernel_rfl
theorem has15 : Try.f15.body = some (Try.f15.body.getD .skip) := by kernel_rfl
theorem low16 : lowCode Try.prog Try.f16.ntmps (Try.f16.body.getD .skip) = some (L_ref01_After 17) := by kernel_rfl
theorem ress16 : lowRess Try.prog Try.f16.results.toList = some R_ref01_After := by kernel_rfl
theorem has16 : Try.f16.body = some (Try.f16.body.getD .skip) := by kernel_rfl
theorem low20 : lowCode Try.prog Try.f20.ntmps (Try.f20.body.getD .skip) = some (L_ref01_Max 18) := by kernel_rfl
theorem ress20 : lowRess Try.prog Try.f20.results.toList = some R_ref01_Max := by kernel_rfl
theorem has20 : Try.f20.body = some (Try.f20.body.getD .skip) := by kernel_rfl
theorem low7 : lowCode Try.prog Try.f7.ntmps (Try.f7.body.getD .skip) = some (L_law01_RatAll 8 9 10 11 12 13 14 15 16 17 18 19 20) := by kernel_rfl
theorem ress7 : lowRess Try.prog Try.f7.results.toList = some R_law01_RatAll := by kernel_rfl
theorem has7 : Try.f7.body = some (Try.f7.body.getD .skip) := by kernel_rfl
noncomputable def T0 : Tab := Tab.none
theorem ok0 : TabOK Try.prog T0 := TabOK.none
noncomputable def T1 : Tab := T0.add 9 sp_rat_Right
theorem ok1 : TabOK Try.prog T1 := ok0.add (Sp.Body.ok ok0 (body_rat_Right) Try.func9 (by kernel_rfl) has9 low9 ress9 (fun _ => Nat.le_of_ble_eq_true rfl))
noncomputable def T2 : Tab := T1.add 10 sp_rat_Cmp
theorem ok2 : TabOK Try.prog T2 := ok1.add (Sp.Body.ok ok1 (body_rat_Cmp ⟨rfl, fun _ _ => rfl⟩) Try.func10 (by kernel_rfl) has10 low10 ress10 (fun _ => Nat.le_of_ble_eq_true rfl))
noncomputable def T3 : Tab := T2.add 21 sp_rat_gcd
theorem ok3 : TabOK Try.prog T3 := ok2.add (Sp.Body.ok ok2 (body_rat_gcd) Try.func21 (by kernel_rfl) has21 low21 ress21 (fun _ => Nat.le_of_ble_eq_true rfl))
noncomputable def T4 : Tab := T3.add 11 sp_rat_Least
theorem ok4 : TabOK Try.prog T4 := ok3.add (Sp.Body.ok ok3 (body_rat_Least ⟨rfl, fun _ _ => rfl⟩ ⟨rfl, fun _ _ => rfl⟩) Try.func11 (by kernel_rfl) has11 low11 ress11 (fun _ => Nat.le_of_ble_eq_true rfl))
noncomputable def T5 : Tab := T4.add 13 sp_rat_Between
theorem ok5 : TabOK Try.prog T5 := ok4.add (Sp.Body.ok ok4 (body_rat_Between ⟨rfl, fun _ _ => rfl⟩ ⟨rfl, fun _ _ => rfl⟩ ⟨rfl, fun _ _ => rfl⟩) Try.func13 (by kernel_rfl) has13 low13 ress13 (fun _ => Nat.le_of_ble_eq_true rfl))
noncomputable def T6 : Tab := T5.add 8 sp_true
theorem ok6 : TabOK Try.prog T6 := ok5.add (Sp.Body.ok ok5 (body_law01_awake ⟨rfl, fun _ _ => rfl⟩ ⟨rfl, fun _ _ => rfl⟩ ⟨rfl, fun _ _ => rfl⟩) Try.func8 (by kernel_rfl) has8 low8 ress8 (fun _ => Nat.le_of_ble_eq_true rfl))
noncomputable def T7 : Tab := T6.add 12 sp_rat_Max
theorem ok7 : TabOK Try.prog T7 := ok6.add (Sp.Body.ok ok6 (body_rat_Max ⟨rfl, fun _ _ => rfl⟩) Try.func12 (by kernel_rfl) has12 low12 ress12 (fun _ => Nat.le_of_ble_eq_true rfl))
noncomputable def T8 : Tab := T7.add 14 sp_rat_After
theorem ok8 : TabOK Try.prog T8 := ok7.add (Sp.Body.ok ok7 (body_rat_After ⟨rfl, fun _ _ => rfl⟩) Try.func14 (by kernel_rfl) has14 low14 ress14 (fun _ => Nat.le_of_ble_eq_true rfl))
noncomputable def T9 : Tab := T8.add 17 sp_rat_Right
theorem ok9 : TabOK Try.prog T9 := ok8.add (Sp.Body.ok ok8 (body_ref01_Right) Try.func17 (by kernel_rfl) has17 low17 ress17 (fun _ => Nat.le_of_ble_eq_true rfl))
noncomputable def T10 : Tab := T9.add 18 sp_rat_Cmp
theorem ok10 : TabOK Try.prog T10 := ok9.add (Sp.Body.ok ok9 (body_ref01_Cmp ⟨rfl, fun _ _ => rfl⟩) Try.func18 (by kernel_rfl) has18 low18 ress18 (fun _ => Nat.le_of_ble_eq_true rfl))
noncomputable def T11 : Tab := T10.add 19 sp_rat_Least
theorem ok11 : TabOK Try.prog T11 := ok10.add (Sp.Body.ok ok10 (body_ref01_Least ⟨rfl, fun _ _ => rfl⟩) Try.func19 (by kernel_rfl) has19 low19 ress19 (fun _ => Nat.le_of_ble_eq_true rfl))
noncomputable def T12 : Tab := T11.add 15 sp_rat_Between
theorem ok12 : TabOK Try.prog T12 := ok11.add (Sp.Body.ok ok11 (body_ref01_Between ⟨rfl, fun _ _ => rfl⟩ ⟨rfl, fun _ _ => rfl⟩ ⟨rfl, fun _ _ => rfl⟩) Try.func15 (by kernel_rfl) has15 low15 ress15 (fun _ => Nat.le_of_ble_eq_true rfl))
noncomputable def T13 : Tab := T12.add 16 sp_rat_After
theorem ok13 : TabOK Try.prog T13 := ok12.add (Sp.Body.ok ok12 (body_ref01_After ⟨rfl, fun _ _ => rfl⟩) Try.func16 (by kernel_rfl) has16 low16 ress16 (fun _ => Nat.le_of_ble_eq_true rfl))
noncomputable def T14 : Tab := T13.add 20 sp_rat_Max
theorem ok14 : TabOK Try.prog T14 := ok13.add (Sp.Body.ok ok13 (body_ref01_Max ⟨rfl, fun _ _ => rfl⟩) Try.func20 (by kernel_rfl) has20 low20 ress20 (fun _ => Nat.le_of_ble_eq_true rfl))
noncomputable abbrev TT : Tab := T14
theorem okT : TabOK Try.prog TT := ok14
/-- The law RatOrder, from its body. -/
theorem acalls_RatOrder {args : List AV} (ha : args.length ≤ Try.f3.ntmps) (h : Holds TT V_law01_RatOrder (L_law01_RatOrder 8 9 10) R_law01_RatOrder args) : ACalls Try.prog 3 args [] fun r _ => r = .d (.bool true) :=
  ACalls.of_vck okT V_law01_RatOrder Try.func3 (by kernel_rfl) has3 low3 ress3 ha h
/-- The law RatTimes, from its body. -/
theorem acalls_RatTimes {args : List AV} (ha : args.length ≤ Try.f4.ntmps) (h : Holds TT V_law01_RatTimes (L_law01_RatTimes 8 9 10 11) R_law01_RatTimes args) : ACalls Try.prog 4 args [] fun r _ => r = .d (.bool true) :=
  ACalls.of_vck okT V_law01_RatTimes Try.func4 (by kernel_rfl) has4 low4 ress4 ha h
/-- The law RatLeast, from its body. -/
theorem acalls_RatLeast {args : List AV} (ha : args.length ≤ Try.f5.ntmps) (h : Holds TT V_law01_RatLeast (L_law01_RatLeast 8 9 10 11 12) R_law01_RatLeast args) : ACalls Try.prog 5 args [] fun r _ => r = .d (.bool true) :=
  ACalls.of_vck okT V_law01_RatLeast Try.func5 (by kernel_rfl) has5 low5 ress5 ha h
/-- The law RatBetween, from its body. -/
theorem acalls_RatBetween {args : List AV} (ha : args.length ≤ Try.f6.ntmps) (h : Holds TT V_law01_RatBetween (L_law01_RatBetween 8 9 10 13 14) R_law01_RatBetween args) : ACalls Try.prog 6 args [] fun r _ => r = .d (.bool true) :=
  ACalls.of_vck okT V_law01_RatBetween Try.func6 (by kernel_rfl) has6 low6 ress6 ha h
/-- The law RatAll, from its body. -/
theorem acalls_RatAll {args : List AV} (ha : args.length ≤ Try.f7.ntmps) (h : Holds TT V_law01_RatAll (L_law01_RatAll 8 9 10 11 12 13 14 15 16 17 18 19 20) R_law01_RatAll args) : ACalls Try.prog 7 args [] fun r _ => r = .d (.bool true) :=
  ACalls.of_vck okT V_law01_RatAll Try.func7 (by kernel_rfl) has7 low7 ress7 ha h
end Go.Proofs.Ytahelkdjmadnkaa
