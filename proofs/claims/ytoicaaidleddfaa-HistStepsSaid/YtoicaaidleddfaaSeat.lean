/- The functions of this cut as the abstract machine has them, and the table of their contracts. Conditions: none. -/
import Derived.Test.YtoicaaidleddfaaChecked
import Derived.Test.YtoicaaidleddfaaAgoP7
set_option maxRecDepth 100000
set_option linter.unusedVariables false
namespace Go.Proofs.Ytoicaaidleddfaa
open Go Go.Ago
theorem low20 : lowCode Try.prog Try.f20.ntmps (Try.f20.body.getD .skip) = some (L_slices_Clone_api_Loc) := by kernel_rfl
theorem ress20 : lowRess Try.prog Try.f20.results.toList = some R_slices_Clone_api_Loc := by kernel_rfl
theorem has20 : Try.f20.body = some (Try.f20.body.getD .skip) := by kernel_rfl
theorem low21 : lowCode Try.prog Try.f21.ntmps (Try.f21.body.getD .skip) = some (L_hist_begin) := by kernel_rfl
theorem ress21 : lowRess Try.prog Try.f21.results.toList = some R_hist_begin := by kernel_rfl
theorem has21 : Try.f21.body = some (Try.f21.body.getD .skip) := by kernel_rfl
theorem low9 : lowCode Try.prog Try.f9.ntmps (Try.f9.body.getD .skip) = some (L_hist_New 20 21) := by kernel_rfl
theorem ress9 : lowRess Try.prog Try.f9.results.toList = some R_hist_New := by kernel_rfl
theorem has9 : Try.f9.body = some (Try.f9.body.getD .skip) := by kernel_rfl
theorem low29 : lowCode Try.prog Try.f29.ntmps (Try.f29.body.getD .skip) = some (L_act_Right) := by kernel_rfl
theorem ress29 : lowRess Try.prog Try.f29.results.toList = some R_act_Right := by kernel_rfl
theorem has29 : Try.f29.body = some (Try.f29.body.getD .skip) := by kernel_rfl
theorem low30 : lowCode Try.prog Try.f30.ntmps (Try.f30.body.getD .skip) = some (L_hist_plain) := by kernel_rfl
theorem ress30 : lowRess Try.prog Try.f30.results.toList = some R_hist_plain := by kernel_rfl
theorem has30 : Try.f30.body = some (Try.f30.body.getD .skip) := by kernel_rfl
theorem low19 : lowCode Try.prog Try.f19.ntmps (Try.f19.body.getD .skip) = some (L_rat_Right) := by kernel_rfl
theorem ress19 : lowRess Try.prog Try.f19.results.toList = some R_rat_Right := by kernel_rfl
theorem has19 : Try.f19.body = some (Try.f19.body.getD .skip) := by kernel_rfl
theorem low44 : lowCode Try.prog Try.f44.ntmps (Try.f44.body.getD .skip) = some (L_slices_Clone_int64) := by kernel_rfl
theorem ress44 : lowRess Try.prog Try.f44.results.toList = some R_slices_Clone_int64 := by kernel_rfl
theorem has44 : Try.f44.body = some (Try.f44.body.getD .skip) := by kernel_rfl
theorem low36 : lowCode Try.prog Try.f36.ntmps (Try.f36.body.getD .skip) = some (L_slices_Clone_api_Rat) := by kernel_rfl
theorem ress36 : lowRess Try.prog Try.f36.results.toList = some R_slices_Clone_api_Rat := by kernel_rfl
theorem has36 : Try.f36.body = some (Try.f36.body.getD .skip) := by kernel_rfl
theorem low45 : lowCode Try.prog Try.f45.ntmps (Try.f45.body.getD .skip) = some (L_slices_Clone_api_Stamp_api_Stamp) := by kernel_rfl
theorem ress45 : lowRess Try.prog Try.f45.results.toList = some R_slices_Clone_api_Stamp_api_Stamp := by kernel_rfl
theorem has45 : Try.f45.body = some (Try.f45.body.getD .skip) := by kernel_rfl
theorem low46 : lowCode Try.prog Try.f46.ntmps (Try.f46.body.getD .skip) = some (L_slices_Clone_api_Rat_api_Rat) := by kernel_rfl
theorem ress46 : lowRess Try.prog Try.f46.results.toList = some R_slices_Clone_api_Rat_api_Rat := by kernel_rfl
theorem has46 : Try.f46.body = some (Try.f46.body.getD .skip) := by kernel_rfl
theorem low47 : lowCode Try.prog Try.f47.ntmps (Try.f47.body.getD .skip) = some (L_slices_Clone_api_Stamp) := by kernel_rfl
theorem ress47 : lowRess Try.prog Try.f47.results.toList = some R_slices_Clone_api_Stamp := by kernel_rfl
theorem has47 : Try.f47.body = some (Try.f47.body.getD .skip) := by kernel_rfl
theorem low31 : lowCode Try.prog Try.f31.ntmps (Try.f31.body.getD .skip) = some (L_hist_copied 44 20 36 45 46 47) := by kernel_rfl
theorem ress31 : lowRess Try.prog Try.f31.results.toList = some R_hist_copied := by kernel_rfl
theorem has31 : Try.f31.body = some (Try.f31.body.getD .skip) := by kernel_rfl
theorem low16 : lowCode Try.prog Try.f16.ntmps (Try.f16.body.getD .skip) = some (L_rat_Cmp 19) := by kernel_rfl
theorem ress16 : lowRess Try.prog Try.f16.results.toList = some R_rat_Cmp := by kernel_rfl
theorem has16 : Try.f16.body = some (Try.f16.body.getD .skip) := by kernel_rfl
theorem low49 : lowCode Try.prog Try.f49.ntmps (Try.f49.body.getD .skip) = some (L_hist_at_1 16) := by kernel_rfl
theorem ress49 : lowRess Try.prog Try.f49.results.toList = some R_hist_at_1 := by kernel_rfl
theorem has49 : Try.f49.body = some (Try.f49.body.getD .skip) := by kernel_rfl
theorem low48 : lowCode Try.prog Try.f48.ntmps (Try.f48.body.getD .skip) = some (L_slices_BinarySearchFunc_api_Stamp_api_Rat) := by kernel_rfl
theorem ress48 : lowRess Try.prog Try.f48.results.toList = some R_slices_BinarySearchFunc_api_Stamp_api_Rat := by kernel_rfl
theorem has48 : Try.f48.body = some (Try.f48.body.getD .skip) := by kernel_rfl
theorem low32 : lowCode Try.prog Try.f32.ntmps (Try.f32.body.getD .skip) = some (L_hist_at 48 49) := by kernel_rfl
theorem ress32 : lowRess Try.prog Try.f32.results.toList = some R_hist_at := by kernel_rfl
theorem has32 : Try.f32.body = some (Try.f32.body.getD .skip) := by kernel_rfl
theorem low50 : lowCode Try.prog Try.f50.ntmps (Try.f50.body.getD .skip) = some (L_rat_gcd) := by kernel_rfl
theorem ress50 : lowRess Try.prog Try.f50.results.toList = some R_rat_gcd := by kernel_rfl
theorem has50 : Try.f50.body = some (Try.f50.body.getD .skip) := by kernel_rfl
theorem low33 : lowCode Try.prog Try.f33.ntmps (Try.f33.body.getD .skip) = some (L_rat_Least 19 50) := by kernel_rfl
theorem ress33 : lowRess Try.prog Try.f33.results.toList = some R_rat_Least := by kernel_rfl
theorem has33 : Try.f33.body = some (Try.f33.body.getD .skip) := by kernel_rfl
theorem low55 : lowCode Try.prog Try.f55.ntmps (Try.f55.body.getD .skip) = some (L_slices_Reverse_api_Stamp) := by kernel_rfl
theorem ress55 : lowRess Try.prog Try.f55.results.toList = some R_slices_Reverse_api_Stamp := by kernel_rfl
theorem has55 : Try.f55.body = some (Try.f55.body.getD .skip) := by kernel_rfl
theorem low54 : lowCode Try.prog Try.f54.ntmps (Try.f54.body.getD .skip) = some (L_slices_rotateLeft_api_Stamp 55) := by kernel_rfl
theorem ress54 : lowRess Try.prog Try.f54.results.toList = some R_slices_rotateLeft_api_Stamp := by kernel_rfl
theorem has54 : Try.f54.body = some (Try.f54.body.getD .skip) := by kernel_rfl
theorem low52 : lowCode Try.prog Try.f52.ntmps (Try.f52.body.getD .skip) = some (L_slices_rotateRight_api_Stamp 54) := by kernel_rfl
theorem ress52 : lowRess Try.prog Try.f52.results.toList = some R_slices_rotateRight_api_Stamp := by kernel_rfl
theorem has52 : Try.f52.body = some (Try.f52.body.getD .skip) := by kernel_rfl
theorem low34 : lowCode Try.prog Try.f34.ntmps (Try.f34.body.getD .skip) = some (L_slices_Insert_api_Stamp 52) := by kernel_rfl
theorem ress34 : lowRess Try.prog Try.f34.results.toList = some R_slices_Insert_api_Stamp := by kernel_rfl
theorem has34 : Try.f34.body = some (Try.f34.body.getD .skip) := by kernel_rfl
theorem low53 : lowCode Try.prog Try.f53.ntmps (Try.f53.body.getD .skip) = some (L_rat_Max 16) := by kernel_rfl
theorem ress53 : lowRess Try.prog Try.f53.results.toList = some R_rat_Max := by kernel_rfl
theorem has53 : Try.f53.body = some (Try.f53.body.getD .skip) := by kernel_rfl
theorem low35 : lowCode Try.prog Try.f35.ntmps (Try.f35.body.getD .skip) = some (L_hist_join 36 53) := by kernel_rfl
theorem ress35 : lowRess Try.prog Try.f35.results.toList = some R_hist_join := by kernel_rfl
theorem has35 : Try.f35.body = some (Try.f35.body.getD .skip) := by kernel_rfl
theorem low12 : lowCode Try.prog Try.f12.ntmps (Try.f12.body.getD .skip) = some (L_hist_Do 29 30 19 31 32 16 33 34 35 36) := by kernel_rfl
theorem ress12 : lowRess Try.prog Try.f12.results.toList = some R_hist_Do := by kernel_rfl
theorem has12 : Try.f12.body = some (Try.f12.body.getD .skip) := by kernel_rfl
theorem low17 : lowCode Try.prog Try.f17.ntmps (Try.f17.body.getD .skip) = some (L_hist_Sees 16) := by kernel_rfl
theorem ress17 : lowRess Try.prog Try.f17.results.toList = some R_hist_Sees := by kernel_rfl
theorem has17 : Try.f17.body = some (Try.f17.body.getD .skip) := by kernel_rfl
theorem low8 : lowCode Try.prog Try.f8.ntmps (Try.f8.body.getD .skip) = some (L_law20_awake 9 12 17) := by kernel_rfl
theorem ress8 : lowRess Try.prog Try.f8.results.toList = some R_law20_awake := by kernel_rfl
theorem has8 : Try.f8.body = some (Try.f8.body.getD .skip) := by kernel_rfl
theorem low22 : lowCode Try.prog Try.f22.ntmps (Try.f22.body.getD .skip) = some (L_ref08_SameLocs) := by kernel_rfl
theorem ress22 : lowRess Try.prog Try.f22.results.toList = some R_ref08_SameLocs := by kernel_rfl
theorem has22 : Try.f22.body = some (Try.f22.body.getD .skip) := by kernel_rfl
theorem low23 : lowCode Try.prog Try.f23.ntmps (Try.f23.body.getD .skip) = some (L_ref08_SameNums) := by kernel_rfl
theorem ress23 : lowRess Try.prog Try.f23.results.toList = some R_ref08_SameNums := by kernel_rfl
theorem has23 : Try.f23.body = some (Try.f23.body.getD .skip) := by kernel_rfl
theorem low24 : lowCode Try.prog Try.f24.ntmps (Try.f24.body.getD .skip) = some (L_ref20_SameRats) := by kernel_rfl
theorem ress24 : lowRess Try.prog Try.f24.results.toList = some R_ref20_SameRats := by kernel_rfl
theorem has24 : Try.f24.body = some (Try.f24.body.getD .skip) := by kernel_rfl
theorem low25 : lowCode Try.prog Try.f25.ntmps (Try.f25.body.getD .skip) = some (L_ref20_SameStamps) := by kernel_rfl
theorem ress25 : lowRess Try.prog Try.f25.results.toList = some R_ref20_SameStamps := by kernel_rfl
theorem has25 : Try.f25.body = some (Try.f25.body.getD .skip) := by kernel_rfl
theorem low10 : lowCode Try.prog Try.f10.ntmps (Try.f10.body.getD .skip) = some (L_ref20_Same 22 23 24 25) := by kernel_rfl
theorem ress10 : lowRess Try.prog Try.f10.results.toList = some R_ref20_Same := by kernel_rfl
theorem has10 : Try.f10.body = some (Try.f10.body.getD .skip) := by kernel_rfl
theorem low41 : lowCode Try.prog Try.f41.ntmps (Try.f41.body.getD .skip) = some (L_ref20_zero) := by kernel_rfl
theorem ress41 : lowRess Try.prog Try.f41.results.toList = some R_ref20_zero := by kernel_rfl
theorem has41 : Try.f41.body = some (Try.f41.body.getD .skip) := by kernel_rfl
theorem low38 : lowCode Try.prog Try.f38.ntmps (Try.f38.body.getD .skip) = some (L_ref01_Right) := by kernel_rfl
theorem ress38 : lowRess Try.prog Try.f38.results.toList = some R_ref01_Right := by kernel_rfl
theorem has38 : Try.f38.body = some (Try.f38.body.getD .skip) := by kernel_rfl
theorem low42 : lowCode Try.prog Try.f42.ntmps (Try.f42.body.getD .skip) = some (L_ref01_Least 38) := by kernel_rfl
theorem ress42 : lowRess Try.prog Try.f42.results.toList = some R_ref01_Least := by kernel_rfl
theorem has42 : Try.f42.body = some (Try.f42.body.getD .skip) := by kernel_rfl
theorem low40 : lowCode Try.prog Try.f40.ntmps (Try.f40.body.getD .skip) = some (L_ref01_Cmp 38) := by kernel_rfl
theorem ress40 : lowRess Try.prog Try.f40.results.toList = some R_ref01_Cmp := by kernel_rfl
theorem has40 : Try.f40.body = some (Try.f40.body.getD .skip) := by kernel_rfl
theorem low43 : lowCode Try.prog Try.f43.ntmps (Try.f43.body.getD .skip) = some (L_ref01_Max 40) := by kernel_rfl
theorem ress43 : lowRess Try.prog Try.f43.results.toList = some R_ref01_Max := by kernel_rfl
theorem has43 : Try.f43.body = some (Try.f43.body.getD .skip) := by kernel_rfl
theorem low26 : lowCode Try.prog Try.f26.ntmps (Try.f26.body.getD .skip) = some (L_ref20_Past_Front 26 41 42 43) := by kernel_rfl
theorem ress26 : lowRess Try.prog Try.f26.results.toList = some R_ref20_Past_Front := by kernel_rfl
theorem has26 : Try.f26.body = some (Try.f26.body.getD .skip) := by kernel_rfl
theorem low27 : lowCode Try.prog Try.f27.ntmps (Try.f27.body.getD .skip) = some (L_ref20_Past_Value) := by kernel_rfl
theorem ress27 : lowRess Try.prog Try.f27.results.toList = some R_ref20_Past_Value := by kernel_rfl
theorem has27 : Try.f27.body = some (Try.f27.body.getD .skip) := by kernel_rfl
theorem low39 : lowCode Try.prog Try.f39.ntmps (Try.f39.body.getD .skip) = some (L_ref20_Past_writes 41 42) := by kernel_rfl
theorem ress39 : lowRess Try.prog Try.f39.results.toList = some R_ref20_Past_writes := by kernel_rfl
theorem has39 : Try.f39.body = some (Try.f39.body.getD .skip) := by kernel_rfl
theorem low28 : lowCode Try.prog Try.f28.ntmps (Try.f28.body.getD .skip) = some (L_ref20_Past_Written 39 40) := by kernel_rfl
theorem ress28 : lowRess Try.prog Try.f28.results.toList = some R_ref20_Past_Written := by kernel_rfl
theorem has28 : Try.f28.body = some (Try.f28.body.getD .skip) := by kernel_rfl
theorem low11 : lowCode Try.prog Try.f11.ntmps (Try.f11.body.getD .skip) = some (L_ref20_Past_Memory 26 27 28) := by kernel_rfl
theorem ress11 : lowRess Try.prog Try.f11.results.toList = some R_ref20_Past_Memory := by kernel_rfl
theorem has11 : Try.f11.body = some (Try.f11.body.getD .skip) := by kernel_rfl
theorem low37 : lowCode Try.prog Try.f37.ntmps (Try.f37.body.getD .skip) = some (L_ref08_Right) := by kernel_rfl
theorem ress37 : lowRess Try.prog Try.f37.results.toList = some R_ref08_Right := by kernel_rfl
theorem has37 : Try.f37.body = some (Try.f37.body.getD .skip) := by kernel_rfl
theorem low13 : lowCode Try.prog Try.f13.ntmps (Try.f13.body.getD .skip) = some (L_ref20_Past_Do 26 27 37 38 39 40) := by kernel_rfl
theorem ress13 : lowRess Try.prog Try.f13.results.toList = some R_ref20_Past_Do := by kernel_rfl
theorem has13 : Try.f13.body = some (Try.f13.body.getD .skip) := by kernel_rfl
theorem low3 : lowCode Try.prog Try.f3.ntmps (Try.f3.body.getD .skip) = some (L_law20_HistSteps 8 9 10 11 12 13) := by kernel_rfl
theorem ress3 : lowRess Try.prog Try.f3.results.toList = some R_law20_HistSteps := by kernel_rfl
theorem has3 : Try.f3.body = some (Try.f3.body.getD .skip) := by kernel_rfl
noncomputable def T0 : Tab := Tab.none
theorem ok0 : TabOK Try.prog T0 := TabOK.none
noncomputable def T1 : Tab := T0.add 20 (cloneS 2 16)
theorem ok1 : TabOK Try.prog T1 := ok0.add (Sp.Body.ok ok0 (body_slices_Clone_api_Loc) Try.func20 (by kernel_rfl) has20 low20 ress20 (fun _ => Nat.le_of_ble_eq_true rfl))
noncomputable def T2 : Tab := T1.add 21 sp_begin
theorem ok2 : TabOK Try.prog T2 := ok1.add (Sp.Body.ok ok1 (body_hist_begin) Try.func21 (by kernel_rfl) has21 low21 ress21 (fun _ => Nat.le_of_ble_eq_true rfl))
noncomputable def T3 : Tab := T2.add 9 sp_New
theorem ok3 : TabOK Try.prog T3 := ok2.add (Sp.Body.ok ok2 (body_hist_New (n1 := 20) (n2 := 21) ⟨rfl, fun _ _ => rfl⟩ ⟨rfl, fun _ _ => rfl⟩) Try.func9 (by kernel_rfl) has9 low9 ress9 (fun _ => Nat.le_of_ble_eq_true rfl))
noncomputable def T4 : Tab := T3.add 29 sp_act_Right
theorem ok4 : TabOK Try.prog T4 := ok3.add (Sp.Body.ok ok3 (body_act_Right) Try.func29 (by kernel_rfl) has29 low29 ress29 (fun _ => Nat.le_of_ble_eq_true rfl))
noncomputable def T5 : Tab := T4.add 30 sp_plain
theorem ok5 : TabOK Try.prog T5 := ok4.add (Sp.Body.ok ok4 (body_hist_plain) Try.func30 (by kernel_rfl) has30 low30 ress30 (fun _ => Nat.le_of_ble_eq_true rfl))
noncomputable def T6 : Tab := T5.add 19 sp_rat_Right
theorem ok6 : TabOK Try.prog T6 := ok5.add (Sp.Body.ok ok5 (body_rat_Right) Try.func19 (by kernel_rfl) has19 low19 ress19 (fun _ => Nat.le_of_ble_eq_true rfl))
noncomputable def T7 : Tab := T6.add 44 (cloneS 1 8)
theorem ok7 : TabOK Try.prog T7 := ok6.add (Sp.Body.ok ok6 (body_slices_Clone_int64) Try.func44 (by kernel_rfl) has44 low44 ress44 (fun _ => Nat.le_of_ble_eq_true rfl))
noncomputable def T8 : Tab := T7.add 36 (cloneS 2 16)
theorem ok8 : TabOK Try.prog T8 := ok7.add (Sp.Body.ok ok7 (body_slices_Clone_api_Rat) Try.func36 (by kernel_rfl) has36 low36 ress36 (fun _ => Nat.le_of_ble_eq_true rfl))
noncomputable def T9 : Tab := T8.add 45 (cloneS 1 24)
theorem ok9 : TabOK Try.prog T9 := ok8.add (Sp.Body.ok ok8 (body_slices_Clone_api_Stamp_api_Stamp) Try.func45 (by kernel_rfl) has45 low45 ress45 (fun _ => Nat.le_of_ble_eq_true rfl))
noncomputable def T10 : Tab := T9.add 46 (cloneS 1 24)
theorem ok10 : TabOK Try.prog T10 := ok9.add (Sp.Body.ok ok9 (body_slices_Clone_api_Rat_api_Rat) Try.func46 (by kernel_rfl) has46 low46 ress46 (fun _ => Nat.le_of_ble_eq_true rfl))
noncomputable def T11 : Tab := T10.add 47 (cloneS 3 24)
theorem ok11 : TabOK Try.prog T11 := ok10.add (Sp.Body.ok ok10 (body_slices_Clone_api_Stamp) Try.func47 (by kernel_rfl) has47 low47 ress47 (fun _ => Nat.le_of_ble_eq_true rfl))
noncomputable def T12 : Tab := T11.add 16 sp_rat_Cmp
theorem ok12 : TabOK Try.prog T12 := ok11.add (Sp.Body.ok ok11 (body_rat_Cmp (n1 := 19) ⟨rfl, fun _ _ => rfl⟩) Try.func16 (by kernel_rfl) has16 low16 ress16 (fun _ => Nat.le_of_ble_eq_true rfl))
noncomputable def T13 : Tab := T12.add 49 sp_stampCmp
theorem ok13 : TabOK Try.prog T13 := ok12.add (Sp.Body.ok ok12 (body_hist_at_1 (n1 := 16) ⟨rfl, fun _ _ => rfl⟩) Try.func49 (by kernel_rfl) has49 low49 ress49 (fun _ => Nat.le_of_ble_eq_true rfl))
noncomputable def T14 : Tab := T13.add 48 (sp_bs 49)
theorem ok14 : TabOK Try.prog T14 := ok13.add (Sp.Body.ok ok13 (body_slices_BinarySearchFunc_api_Stamp_api_Rat (n_hist_at_1 := 49) ⟨rfl, fun _ _ => rfl⟩) Try.func48 (by kernel_rfl) has48 low48 ress48 (fun _ => Nat.le_of_ble_eq_true rfl))
noncomputable def T15 : Tab := T14.add 32 sp_hist_at
theorem ok15 : TabOK Try.prog T15 := ok14.add (Sp.Body.ok ok14 (body_hist_at (n1 := 48) (n_hist_at_1 := 49) ⟨rfl, fun _ _ => rfl⟩) Try.func32 (by kernel_rfl) has32 low32 ress32 (fun _ => Nat.le_of_ble_eq_true rfl))
noncomputable def T16 : Tab := T15.add 50 sp_rat_gcd
theorem ok16 : TabOK Try.prog T16 := ok15.add (Sp.Body.ok ok15 (body_rat_gcd) Try.func50 (by kernel_rfl) has50 low50 ress50 (fun _ => Nat.le_of_ble_eq_true rfl))
noncomputable def T17 : Tab := T16.add 33 sp_rat_Least
theorem ok17 : TabOK Try.prog T17 := ok16.add (Sp.Body.ok ok16 (body_rat_Least (n1 := 19) (n2 := 50) ⟨rfl, fun _ _ => rfl⟩ ⟨rfl, fun _ _ => rfl⟩) Try.func33 (by kernel_rfl) has33 low33 ress33 (fun _ => Nat.le_of_ble_eq_true rfl))
noncomputable def T18 : Tab := T17.addG 34 ef_Insert.at
theorem ok18 : TabOK Try.prog T18 := (eff_slices_Insert_api_Stamp (n1 := 52)).tab ok17 ok17 Try.func34 (by kernel_rfl) has34 low34 ress34 (fun _ => Nat.le_of_ble_eq_true rfl)
noncomputable def T19 : Tab := T18.add 53 sp_rat_Max
theorem ok19 : TabOK Try.prog T19 := ok18.add (Sp.Body.ok ok18 (body_rat_Max (n1 := 16) ⟨rfl, fun _ _ => rfl⟩) Try.func53 (by kernel_rfl) has53 low53 ress53 (fun _ => Nat.le_of_ble_eq_true rfl))
noncomputable def T20 : Tab := T19.add 35 sp_join
theorem ok20 : TabOK Try.prog T20 := ok19.add (Sp.Body.ok ok19 (body_hist_join (n1 := 36) (n2 := 53) ⟨rfl, fun _ _ => rfl⟩ ⟨rfl, fun _ _ => rfl⟩) Try.func35 (by kernel_rfl) has35 low35 ress35 (fun _ => Nat.le_of_ble_eq_true rfl))
theorem okD (h : Hole) : TabOK Try.prog (T20.addG 31 (ef_copied h).at) := (eff_hist_copied (T := T20) h ⟨rfl, fun _ _ => rfl⟩ ⟨rfl, fun _ _ => rfl⟩ ⟨rfl, fun _ _ => rfl⟩ ⟨rfl, fun _ _ => rfl⟩ ⟨rfl, fun _ _ => rfl⟩ ⟨rfl, fun _ _ => rfl⟩).tab ok20 ok20 Try.func31 (by kernel_rfl) has31 low31 ress31 (fun _ => Nat.le_of_ble_eq_true rfl)
theorem okD0 : TabOK Try.prog (T20.addG 31 ef_copied0.at) := (eff0_hist_copied (T := T20) ⟨rfl, fun _ _ => rfl⟩ ⟨rfl, fun _ _ => rfl⟩ ⟨rfl, fun _ _ => rfl⟩ ⟨rfl, fun _ _ => rfl⟩ ⟨rfl, fun _ _ => rfl⟩ ⟨rfl, fun _ _ => rfl⟩).tab ok20 ok20 Try.func31 (by kernel_rfl) has31 low31 ress31 (fun _ => Nat.le_of_ble_eq_true rfl)
noncomputable def T21 : Tab := T20.add 12 sp_Do
theorem ok21 : TabOK Try.prog T21 := ok20.add (Do_ok (n1 := 29) (n2 := 30) (n3 := 19) (n4 := 31) (n5 := 32) (n6 := 16) (n7 := 33) (n8 := 34) (n9 := 35) (n10 := 36) okD okD0 ⟨rfl, fun _ _ => rfl⟩ ⟨rfl, fun _ _ => rfl⟩ ⟨rfl, fun _ _ => rfl⟩ ⟨rfl, fun _ _ => rfl⟩ ⟨rfl, fun _ _ => rfl⟩ ⟨rfl, fun _ _ => rfl⟩ ⟨rfl⟩ ⟨rfl, fun _ _ => rfl⟩ ⟨rfl, fun _ _ => rfl⟩ rfl rfl rfl rfl rfl rfl rfl rfl rfl Try.func12 (by kernel_rfl) has12 low12 ress12 (Nat.le_of_ble_eq_true rfl))
noncomputable def T22 : Tab := T21.add 17 sp_Sees
theorem ok22 : TabOK Try.prog T22 := ok21.add (Sp.Body.ok ok21 (body_hist_Sees (n1 := 16) ⟨rfl, fun _ _ => rfl⟩) Try.func17 (by kernel_rfl) has17 low17 ress17 (fun _ => Nat.le_of_ble_eq_true rfl))
noncomputable def T23 : Tab := T22.add 8 sp_true
theorem ok23 : TabOK Try.prog T23 := ok22.add (Sp.Body.ok ok22 (body_law20_awake (n1 := 9) (n2 := 12) (n3 := 17) ⟨rfl, fun _ _ => rfl⟩ ⟨rfl, fun _ _ => rfl⟩ ⟨rfl, fun _ _ => rfl⟩) Try.func8 (by kernel_rfl) has8 low8 ress8 (fun _ => Nat.le_of_ble_eq_true rfl))
noncomputable def T24 : Tab := T23.add 22 sp_sameLoc
theorem ok24 : TabOK Try.prog T24 := ok23.add (Sp.Body.ok ok23 (body_ref08_SameLocs) Try.func22 (by kernel_rfl) has22 low22 ress22 (fun _ => Nat.le_of_ble_eq_true rfl))
noncomputable def T25 : Tab := T24.add 23 sp_sameI
theorem ok25 : TabOK Try.prog T25 := ok24.add (Sp.Body.ok ok24 (body_ref08_SameNums) Try.func23 (by kernel_rfl) has23 low23 ress23 (fun _ => Nat.le_of_ble_eq_true rfl))
noncomputable def T26 : Tab := T25.add 24 sp_sameRats
theorem ok26 : TabOK Try.prog T26 := ok25.add (Sp.Body.ok ok25 (body_ref20_SameRats) Try.func24 (by kernel_rfl) has24 low24 ress24 (fun _ => Nat.le_of_ble_eq_true rfl))
noncomputable def T27 : Tab := T26.add 25 sp_sameStamp
theorem ok27 : TabOK Try.prog T27 := ok26.add (Sp.Body.ok ok26 (body_ref20_SameStamps) Try.func25 (by kernel_rfl) has25 low25 ress25 (fun _ => Nat.le_of_ble_eq_true rfl))
noncomputable def T28 : Tab := T27.add 10 sp_sameMem
theorem ok28 : TabOK Try.prog T28 := ok27.add (Sp.Body.ok ok27 (body_ref20_Same (n1 := 22) (n2 := 23) (n3 := 24) (n4 := 25) ⟨rfl, fun _ _ => rfl⟩ ⟨rfl, fun _ _ => rfl⟩ ⟨rfl, fun _ _ => rfl⟩ ⟨rfl, fun _ _ => rfl⟩) Try.func10 (by kernel_rfl) has10 low10 ress10 (fun _ => Nat.le_of_ble_eq_true rfl))
noncomputable def T29 : Tab := T28.add 41 sp_ratZero
theorem ok29 : TabOK Try.prog T29 := ok28.add (Sp.Body.ok ok28 (body_ref20_zero) Try.func41 (by kernel_rfl) has41 low41 ress41 (fun _ => Nat.le_of_ble_eq_true rfl))
noncomputable def T30 : Tab := T29.add 38 sp_rat_Right
theorem ok30 : TabOK Try.prog T30 := ok29.add (Sp.Body.ok ok29 (body_ref01_Right) Try.func38 (by kernel_rfl) has38 low38 ress38 (fun _ => Nat.le_of_ble_eq_true rfl))
noncomputable def T31 : Tab := T30.add 42 sp_rat_Least
theorem ok31 : TabOK Try.prog T31 := ok30.add (Sp.Body.ok ok30 (body_ref01_Least (n1 := 38) ⟨rfl, fun _ _ => rfl⟩) Try.func42 (by kernel_rfl) has42 low42 ress42 (fun _ => Nat.le_of_ble_eq_true rfl))
noncomputable def T32 : Tab := T31.add 40 sp_rat_Cmp
theorem ok32 : TabOK Try.prog T32 := ok31.add (Sp.Body.ok ok31 (body_ref01_Cmp (n1 := 38) ⟨rfl, fun _ _ => rfl⟩) Try.func40 (by kernel_rfl) has40 low40 ress40 (fun _ => Nat.le_of_ble_eq_true rfl))
noncomputable def T33 : Tab := T32.add 43 sp_rat_Max
theorem ok33 : TabOK Try.prog T33 := ok32.add (Sp.Body.ok ok32 (body_ref01_Max (n1 := 40) ⟨rfl, fun _ _ => rfl⟩) Try.func43 (by kernel_rfl) has43 low43 ress43 (fun _ => Nat.le_of_ble_eq_true rfl))
noncomputable def T34 : Tab := T33.add 26 (sp_Front 1000001)
theorem ok34 : TabOK Try.prog T34 := TabOK.recur (s := sp_Front) ok33 zero_ref20_Past_Front (fun K hT => Sp.Body.ok hT (body_ref20_Past_Front (K := K) (n0 := 26) (n1 := 41) (n2 := 42) (n3 := 43) ⟨rfl, fun _ _ => rfl⟩ ⟨rfl, fun _ _ => rfl⟩ ⟨rfl, fun _ _ => rfl⟩ ⟨rfl, fun _ _ => rfl⟩) Try.func26 (by kernel_rfl) has26 low26 ress26 (fun _ => Nat.le_of_ble_eq_true rfl)) 1000001
noncomputable def T35 : Tab := T34.add 27 sp_Value
theorem ok35 : TabOK Try.prog T35 := ok34.add (Sp.Body.ok ok34 (body_ref20_Past_Value) Try.func27 (by kernel_rfl) has27 low27 ress27 (fun _ => Nat.le_of_ble_eq_true rfl))
noncomputable def T36 : Tab := T35.add 39 sp_writes
theorem ok36 : TabOK Try.prog T36 := ok35.add (Sp.Body.ok ok35 (body_ref20_Past_writes (n1 := 41) (n2 := 42) ⟨rfl, fun _ _ => rfl⟩ ⟨rfl, fun _ _ => rfl⟩) Try.func39 (by kernel_rfl) has39 low39 ress39 (fun _ => Nat.le_of_ble_eq_true rfl))
noncomputable def T37 : Tab := T36.add 28 sp_Written
theorem ok37 : TabOK Try.prog T37 := ok36.add (Sp.Body.ok ok36 (body_ref20_Past_Written (n1 := 39) (n2 := 40) ⟨rfl, fun _ _ => rfl⟩ ⟨rfl, fun _ _ => rfl⟩) Try.func28 (by kernel_rfl) has28 low28 ress28 (fun _ => Nat.le_of_ble_eq_true rfl))
noncomputable def T38 : Tab := T37.add 11 sp_pastMem
theorem ok38 : TabOK Try.prog T38 := ok37.add (Sp.Body.ok ok37 (body_ref20_Past_Memory (n1 := 26) (n2 := 27) (n3 := 28) ⟨rfl, fun _ _ => rfl⟩ ⟨rfl, fun _ _ => rfl⟩ ⟨rfl, fun _ _ => rfl⟩) Try.func11 (by kernel_rfl) has11 low11 ress11 (fun _ => Nat.le_of_ble_eq_true rfl))
noncomputable def T39 : Tab := T38.addG 11 ef_pastMem.at
theorem ok39 : TabOK Try.prog T39 := (eff_ref20_Past_Memory (n1 := 26) (n2 := 27) (n3 := 28) ⟨rfl, fun _ _ => rfl⟩ ⟨rfl, fun _ _ => rfl⟩ ⟨rfl, fun _ _ => rfl⟩).tab ok38 ok38 Try.func11 (by kernel_rfl) has11 low11 ress11 (fun _ => Nat.le_of_ble_eq_true rfl)
noncomputable def T40 : Tab := T39.add 37 sp_act_Right
theorem ok40 : TabOK Try.prog T40 := ok39.add (Sp.Body.ok ok39 (body_ref08_Right) Try.func37 (by kernel_rfl) has37 low37 ress37 (fun _ => Nat.le_of_ble_eq_true rfl))
noncomputable def T41 : Tab := T40.add 13 sp_pastDo
theorem ok41 : TabOK Try.prog T41 := ok40.add (Sp.Body.ok ok40 (body_ref20_Past_Do (n1 := 26) (n2 := 27) (n3 := 37) (n4 := 38) (n5 := 39) (n6 := 40) ⟨rfl, fun _ _ => rfl⟩ ⟨rfl, fun _ _ => rfl⟩ ⟨rfl, fun _ _ => rfl⟩ ⟨rfl, fun _ _ => rfl⟩ ⟨rfl, fun _ _ => rfl⟩ ⟨rfl, fun _ _ => rfl⟩) Try.func13 (by kernel_rfl) has13 low13 ress13 (fun _ => Nat.le_of_ble_eq_true rfl))
noncomputable abbrev TT : Tab := T41
theorem okT : TabOK Try.prog TT := ok41
/-- The law HistSteps, from its body. -/
theorem acalls_HistSteps {args : List AV} (ha : args.length ≤ Try.f3.ntmps) (h : Holds TT V_law20_HistSteps (L_law20_HistSteps 8 9 10 11 12 13) R_law20_HistSteps args) : ACalls Try.prog 3 args [] fun r _ => r = .d (.bool true) :=
  ACalls.of_vck okT V_law20_HistSteps Try.func3 (by kernel_rfl) has3 low3 ress3 ha h
end Go.Proofs.Ytoicaaidleddfaa
