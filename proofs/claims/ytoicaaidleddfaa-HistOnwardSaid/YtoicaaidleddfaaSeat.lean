/- The functions of this cut as the abstract machine has them, and the table of their contracts. Conditions: none. -/
import Derived.Test.YtoicaaidleddfaaChecked
import Derived.Test.YtoicaaidleddfaaAgoP7
set_option maxRecDepth 100000
set_option linter.unusedVariables false
namespace Go.Proofs.Ytoicaaidleddfaa
open Go Go.Ago
theorem low20 : lowCode Try.prog Try.f20.ntmps (Try.f20.body.getD .skip) = some (L_slices_Clone_api_Loc) := by kernel_rfl
theorem ress20 : lowRess Try.prog Try.f20.results.toList = some R_slices_Clone_api_Loc := by kernel_rfl
theorem has20 : Try.f20.body = some (Try.f20.body.getD .skip) := by kernel_rfl
theorem low21 : lowCode Try.prog Try.f21.ntmps (Try.f21.body.getD .skip) = some (L_hist_begin) := by kernel_rfl
theorem ress21 : lowRess Try.prog Try.f21.results.toList = some R_hist_begin := by kernel_rfl
theorem has21 : Try.f21.body = some (Try.f21.body.getD .skip) := by kernel_rfl
theorem low9 : lowCode Try.prog Try.f9.ntmps (Try.f9.body.getD .skip) = some (L_hist_New 20 21) := by kernel_rfl
theorem ress9 : lowRess Try.prog Try.f9.results.toList = some R_hist_New := by kernel_rfl
theorem has9 : Try.f9.body = some (Try.f9.body.getD .skip) := by kernel_rfl
theorem low29 : lowCode Try.prog Try.f29.ntmps (Try.f29.body.getD .skip) = some (L_act_Right) := by kernel_rfl
theorem ress29 : lowRess Try.prog Try.f29.results.toList = some R_act_Right := by kernel_rfl
theorem has29 : Try.f29.body = some (Try.f29.body.getD .skip) := by kernel_rfl
theorem low30 : lowCode Try.prog Try.f30.ntmps (Try.f30.body.getD .skip) = some (L_hist_plain) := by kernel_rfl
theorem ress30 : lowRess Try.prog Try.f30.results.toList = some R_hist_plain := by kernel_rfl
theorem has30 : Try.f30.body = some (Try.f30.body.getD .skip) := by kernel_rfl
theorem low19 : lowCode Try.prog Try.f19.ntmps (Try.f19.body.getD .skip) = some (L_rat_Right) := by kernel_rfl
theorem ress19 : lowRess Try.prog Try.f19.results.toList = some R_rat_Right := by kernel_rfl
theorem has19 : Try.f19.body = some (Try.f19.body.getD .skip) := by kernel_rfl
theorem low44 : lowCode Try.prog Try.f44.ntmps (Try.f44.body.getD .skip) = some (L_slices_Clone_int64) := by kernel_rfl
theorem ress44 : lowRess Try.prog Try.f44.results.toList = some R_slices_Clone_int64 := by kernel_rfl
theorem has44 : Try.f44.body = some (Try.f44.body.getD .skip) := by kernel_rfl
theorem low36 : lowCode Try.prog Try.f36.ntmps (Try.f36.body.getD .skip) = some (L_slices_Clone_api_Rat) := by kernel_rfl
theorem ress36 : lowRess Try.prog Try.f36.results.toList = some R_slices_Clone_api_Rat := by kernel_rfl
theorem has36 : Try.f36.body = some (Try.f36.body.getD .skip) := by kernel_rfl
theorem low45 : lowCode Try.prog Try.f45.ntmps (Try.f45.body.getD .skip) = some (L_slices_Clone_api_Stamp_api_Stamp) := by kernel_rfl
theorem ress45 : lowRess Try.prog Try.f45.results.toList = some R_slices_Clone_api_Stamp_api_Stamp := by kernel_rfl
theorem has45 : Try.f45.body = some (Try.f45.body.getD .skip) := by kernel_rfl
theorem low46 : lowCode Try.prog Try.f46.ntmps (Try.f46.body.getD .skip) = some (L_slices_Clone_api_Rat_api_Rat) := by kernel_rfl
theorem ress46 : lowRess Try.prog Try.f46.results.toList = some R_slices_Clone_api_Rat_api_Rat := by kernel_rfl
theorem has46 : Try.f46.body = some (Try.f46.body.getD .skip) := by kernel_rfl
theorem low47 : lowCode Try.prog Try.f47.ntmps (Try.f47.body.getD .skip) = some (L_slices_Clone_api_Stamp) := by kernel_rfl
theorem ress47 : lowRess Try.prog Try.f47.results.toList = some R_slices_Clone_api_Stamp := by kernel_rfl
theorem has47 : Try.f47.body = some (Try.f47.body.getD .skip) := by kernel_rfl
theorem low31 : lowCode Try.prog Try.f31.ntmps (Try.f31.body.getD .skip) = some (L_hist_copied 44 20 36 45 46 47) := by kernel_rfl
theorem ress31 : lowRess Try.prog Try.f31.results.toList = some R_hist_copied := by kernel_rfl
theorem has31 : Try.f31.body = some (Try.f31.body.getD .skip) := by kernel_rfl
theorem low16 : lowCode Try.prog Try.f16.ntmps (Try.f16.body.getD .skip) = some (L_rat_Cmp 19) := by kernel_rfl
theorem ress16 : lowRess Try.prog Try.f16.results.toList = some R_rat_Cmp := by kernel_rfl
theorem has16 : Try.f16.body = some (Try.f16.body.getD .skip) := by kernel_rfl
theorem low49 : lowCode Try.prog Try.f49.ntmps (Try.f49.body.getD .skip) = some (L_hist_at_1 16) := by kernel_rfl
theorem ress49 : lowRess Try.prog Try.f49.results.toList = some R_hist_at_1 := by kernel_rfl
theorem has49 : Try.f49.body = some (Try.f49.body.getD .skip) := by kernel_rfl
theorem low48 : lowCode Try.prog Try.f48.ntmps (Try.f48.body.getD .skip) = some (L_slices_BinarySearchFunc_api_Stamp_api_Rat) := by kernel_rfl
theorem ress48 : lowRess Try.prog Try.f48.results.toList = some R_slices_BinarySearchFunc_api_Stamp_api_Rat := by kernel_rfl
theorem has48 : Try.f48.body = some (Try.f48.body.getD .skip) := by kernel_rfl
theorem low32 : lowCode Try.prog Try.f32.ntmps (Try.f32.body.getD .skip) = some (L_hist_at 48 49) := by kernel_rfl
theorem ress32 : lowRess Try.prog Try.f32.results.toList = some R_hist_at := by kernel_rfl
theorem has32 : Try.f32.body = some (Try.f32.body.getD .skip) := by kernel_rfl
theorem low50 : lowCode Try.prog Try.f50.ntmps (Try.f50.body.getD .skip) = some (L_rat_gcd) := by kernel_rfl
theorem ress50 : lowRess Try.prog Try.f50.results.toList = some R_rat_gcd := by kernel_rfl
theorem has50 : Try.f50.body = some (Try.f50.body.getD .skip) := by kernel_rfl
theorem low33 : lowCode Try.prog Try.f33.ntmps (Try.f33.body.getD .skip) = some (L_rat_Least 19 50) := by kernel_rfl
theorem ress33 : lowRess Try.prog Try.f33.results.toList = some R_rat_Least := by kernel_rfl
theorem has33 : Try.f33.body = some (Try.f33.body.getD .skip) := by kernel_rfl
theorem low55 : lowCode Try.prog Try.f55.ntmps (Try.f55.body.getD .skip) = some (L_slices_Reverse_api_Stamp) := by kernel_rfl
theorem ress55 : lowRess Try.prog Try.f55.results.toList = some R_slices_Reverse_api_Stamp := by kernel_rfl
theorem has55 : Try.f55.body = some (Try.f55.body.getD .skip) := by kernel_rfl
theorem low54 : lowCode Try.prog Try.f54.ntmps (Try.f54.body.getD .skip) = some (L_slices_rotateLeft_api_Stamp 55) := by kernel_rfl
theorem ress54 : lowRess Try.prog Try.f54.results.toList = some R_slices_rotateLeft_api_Stamp := by kernel_rfl
theorem has54 : Try.f54.body = some (Try.f54.body.getD .skip) := by kernel_rfl
theorem low52 : lowCode Try.prog Try.f52.ntmps (Try.f52.body.getD .skip) = some (L_slices_rotateRight_api_Stamp 54) := by kernel_rfl
theorem ress52 : lowRess Try.prog Try.f52.results.toList = some R_slices_rotateRight_api_Stamp := by kernel_rfl
theorem has52 : Try.f52.body = some (Try.f52.body.getD .skip) := by kernel_rfl
theorem low34 : lowCode Try.prog Try.f34.ntmps (Try.f34.body.getD .skip) = some (L_slices_Insert_api_Stamp 52) := by kernel_rfl
theorem ress34 : lowRess Try.prog Try.f34.results.toList = some R_slices_Insert_api_Stamp := by kernel_rfl
theorem has34 : Try.f34.body = some (Try.f34.body.getD .skip) := by kernel_rfl
theorem low53 : lowCode Try.prog Try.f53.ntmps (Try.f53.body.getD .skip) = some (L_rat_Max 16) := by kernel_rfl
theorem ress53 : lowRess Try.prog Try.f53.results.toList = some R_rat_Max := by kernel_rfl
theorem has53 : Try.f53.body = some (Try.f53.body.getD .skip) := by kernel_rfl
theorem low35 : lowCode Try.prog Try.f35.ntmps (Try.f35.body.getD .skip) = some (L_hist_join 36 53) := by kernel_rfl
theorem ress35 : lowRess Try.prog Try.f35.results.toList = some R_hist_join := by kernel_rfl
theorem has35 : Try.f35.body = some (Try.f35.body.getD .skip) := by kernel_rfl
theorem low12 : lowCode Try.prog Try.f12.ntmps (Try.f12.body.getD .skip) = some (L_hist_Do 29 30 19 31 32 16 33 34 35 36) := by kernel_rfl
theorem ress12 : lowRess Try.prog Try.f12.results.toList = some R_hist_Do := by kernel_rfl
theorem has12 : Try.f12.body = some (Try.f12.body.getD .skip) := by kernel_rfl
theorem low17 : lowCode Try.prog Try.f17.ntmps (Try.f17.body.getD .skip) = some (L_hist_Sees 16) := by kernel_rfl
theorem ress17 : lowRess Try.prog Try.f17.results.toList = some R_hist_Sees := by kernel_rfl
theorem has17 : Try.f17.body = some (Try.f17.body.getD .skip) := by kernel_rfl
theorem low8 : lowCode Try.prog Try.f8.ntmps (Try.f8.body.getD .skip) = some (L_law20_awake 9 12 17) := by kernel_rfl
theorem ress8 : lowRess Try.prog Try.f8.results.toList = some R_law20_awake := by kernel_rfl
theorem has8 : Try.f8.body = some (Try.f8.body.getD .skip) := by kernel_rfl
theorem low14 : lowCode Try.prog Try.f14.ntmps (Try.f14.body.getD .skip) = some (L_law20_done 9 12) := by kernel_rfl
theorem ress14 : lowRess Try.prog Try.f14.results.toList = some R_law20_done := by kernel_rfl
theorem has14 : Try.f14.body = some (Try.f14.body.getD .skip) := by kernel_rfl
theorem low15 : lowCode Try.prog Try.f15.ntmps (Try.f15.body.getD .skip) = some (L_law20_onward 16 19) := by kernel_rfl
theorem ress15 : lowRess Try.prog Try.f15.results.toList = some R_law20_onward := by kernel_rfl
theorem has15 : Try.f15.body = some (Try.f15.body.getD .skip) := by kernel_rfl
theorem low4 : lowCode Try.prog Try.f4.ntmps (Try.f4.body.getD .skip) = some (L_law20_HistOnward 8 12 14 15 16) := by kernel_rfl
theorem ress4 : lowRess Try.prog Try.f4.results.toList = some R_law20_HistOnward := by kernel_rfl
theorem has4 : Try.f4.body = some (Try.f4.body.getD .skip) := by kernel_rfl
theorem low5 : lowCode Try.prog Try.f5.ntmps (Try.f5.body.getD .skip) = some (L_law20_HistOwn 8 12 14 16 17) := by kernel_rfl
theorem ress5 : lowRess Try.prog Try.f5.results.toList = some R_law20_HistOwn := by kernel_rfl
theorem has5 : Try.f5.body = some (Try.f5.body.getD .skip) := by kernel_rfl
theorem low18 : lowCode Try.prog Try.f18.ntmps (Try.f18.body.getD .skip) = some (L_hist_Last) := by kernel_rfl
theorem ress18 : lowRess Try.prog Try.f18.results.toList = some R_hist_Last := by kernel_rfl
theorem has18 : Try.f18.body = some (Try.f18.body.getD .skip) := by kernel_rfl
theorem low7 : lowCode Try.prog Try.f7.ntmps (Try.f7.body.getD .skip) = some (L_law20_HistSees 8 12 14 16 17 18 19) := by kernel_rfl
theorem ress7 : lowRess Try.prog Try.f7.results.toList = some R_law20_HistSees := by kernel_rfl
theorem has7 : Try.f7.body = some (Try.f7.body.getD .skip) := by kernel_rfl
noncomputable def T0 : Tab := Tab.none
theorem ok0 : TabOK Try.prog T0 := TabOK.none
noncomputable def T1 : Tab := T0.add 20 (cloneS 2 16)
theorem ok1 : TabOK Try.prog T1 := ok0.add (Sp.Body.ok ok0 (body_slices_Clone_api_Loc) Try.func20 (by kernel_rfl) has20 low20 ress20 (fun _ => Nat.le_of_ble_eq_true rfl))
noncomputable def T2 : Tab := T1.add 21 sp_begin
theorem ok2 : TabOK Try.prog T2 := ok1.add (Sp.Body.ok ok1 (body_hist_begin) Try.func21 (by kernel_rfl) has21 low21 ress21 (fun _ => Nat.le_of_ble_eq_true rfl))
noncomputable def T3 : Tab := T2.add 9 sp_New
theorem ok3 : TabOK Try.prog T3 := ok2.add (Sp.Body.ok ok2 (body_hist_New (n1 := 20) (n2 := 21) ⟨rfl, fun _ _ => rfl⟩ ⟨rfl, fun _ _ => rfl⟩) Try.func9 (by kernel_rfl) has9 low9 ress9 (fun _ => Nat.le_of_ble_eq_true rfl))
noncomputable def T4 : Tab := T3.add 29 sp_act_Right
theorem ok4 : TabOK Try.prog T4 := ok3.add (Sp.Body.ok ok3 (body_act_Right) Try.func29 (by kernel_rfl) has29 low29 ress29 (fun _ => Nat.le_of_ble_eq_true rfl))
noncomputable def T5 : Tab := T4.add 30 sp_plain
theorem ok5 : TabOK Try.prog T5 := ok4.add (Sp.Body.ok ok4 (body_hist_plain) Try.func30 (by kernel_rfl) has30 low30 ress30 (fun _ => Nat.le_of_ble_eq_true rfl))
noncomputable def T6 : Tab := T5.add 19 sp_rat_Right
theorem ok6 : TabOK Try.prog T6 := ok5.add (Sp.Body.ok ok5 (body_rat_Right) Try.func19 (by kernel_rfl) has19 low19 ress19 (fun _ => Nat.le_of_ble_eq_true rfl))
noncomputable def T7 : Tab := T6.add 44 (cloneS 1 8)
theorem ok7 : TabOK Try.prog T7 := ok6.add (Sp.Body.ok ok6 (body_slices_Clone_int64) Try.func44 (by kernel_rfl) has44 low44 ress44 (fun _ => Nat.le_of_ble_eq_true rfl))
noncomputable def T8 : Tab := T7.add 36 (cloneS 2 16)
theorem ok8 : TabOK Try.prog T8 := ok7.add (Sp.Body.ok ok7 (body_slices_Clone_api_Rat) Try.func36 (by kernel_rfl) has36 low36 ress36 (fun _ => Nat.le_of_ble_eq_true rfl))
noncomputable def T9 : Tab := T8.add 45 (cloneS 1 24)
theorem ok9 : TabOK Try.prog T9 := ok8.add (Sp.Body.ok ok8 (body_slices_Clone_api_Stamp_api_Stamp) Try.func45 (by kernel_rfl) has45 low45 ress45 (fun _ => Nat.le_of_ble_eq_true rfl))
noncomputable def T10 : Tab := T9.add 46 (cloneS 1 24)
theorem ok10 : TabOK Try.prog T10 := ok9.add (Sp.Body.ok ok9 (body_slices_Clone_api_Rat_api_Rat) Try.func46 (by kernel_rfl) has46 low46 ress46 (fun _ => Nat.le_of_ble_eq_true rfl))
noncomputable def T11 : Tab := T10.add 47 (cloneS 3 24)
theorem ok11 : TabOK Try.prog T11 := ok10.add (Sp.Body.ok ok10 (body_slices_Clone_api_Stamp) Try.func47 (by kernel_rfl) has47 low47 ress47 (fun _ => Nat.le_of_ble_eq_true rfl))
noncomputable def T12 : Tab := T11.add 16 sp_rat_Cmp
theorem ok12 : TabOK Try.prog T12 := ok11.add (Sp.Body.ok ok11 (body_rat_Cmp (n1 := 19) ⟨rfl, fun _ _ => rfl⟩) Try.func16 (by kernel_rfl) has16 low16 ress16 (fun _ => Nat.le_of_ble_eq_true rfl))
noncomputable def T13 : Tab := T12.add 49 sp_stampCmp
theorem ok13 : TabOK Try.prog T13 := ok12.add (Sp.Body.ok ok12 (body_hist_at_1 (n1 := 16) ⟨rfl, fun _ _ => rfl⟩) Try.func49 (by kernel_rfl) has49 low49 ress49 (fun _ => Nat.le_of_ble_eq_true rfl))
noncomputable def T14 : Tab := T13.add 48 (sp_bs 49)
theorem ok14 : TabOK Try.prog T14 := ok13.add (Sp.Body.ok ok13 (body_slices_BinarySearchFunc_api_Stamp_api_Rat (n_hist_at_1 := 49) ⟨rfl, fun _ _ => rfl⟩) Try.func48 (by kernel_rfl) has48 low48 ress48 (fun _ => Nat.le_of_ble_eq_true rfl))
noncomputable def T15 : Tab := T14.add 32 sp_hist_at
theorem ok15 : TabOK Try.prog T15 := ok14.add (Sp.Body.ok ok14 (body_hist_at (n1 := 48) (n_hist_at_1 := 49) ⟨rfl, fun _ _ => rfl⟩) Try.func32 (by kernel_rfl) has32 low32 ress32 (fun _ => Nat.le_of_ble_eq_true rfl))
noncomputable def T16 : Tab := T15.add 50 sp_rat_gcd
theorem ok16 : TabOK Try.prog T16 := ok15.add (Sp.Body.ok ok15 (body_rat_gcd) Try.func50 (by kernel_rfl) has50 low50 ress50 (fun _ => Nat.le_of_ble_eq_true rfl))
noncomputable def T17 : Tab := T16.add 33 sp_rat_Least
theorem ok17 : TabOK Try.prog T17 := ok16.add (Sp.Body.ok ok16 (body_rat_Least (n1 := 19) (n2 := 50) ⟨rfl, fun _ _ => rfl⟩ ⟨rfl, fun _ _ => rfl⟩) Try.func33 (by kernel_rfl) has33 low33 ress33 (fun _ => Nat.le_of_ble_eq_true rfl))
noncomputable def T18 : Tab := T17.addG 34 ef_Insert.at
theorem ok18 : TabOK Try.prog T18 := (eff_slices_Insert_api_Stamp (n1 := 52)).tab ok17 ok17 Try.func34 (by kernel_rfl) has34 low34 ress34 (fun _ => Nat.le_of_ble_eq_true rfl)
noncomputable def T19 : Tab := T18.add 53 sp_rat_Max
theorem ok19 : TabOK Try.prog T19 := ok18.add (Sp.Body.ok ok18 (body_rat_Max (n1 := 16) ⟨rfl, fun _ _ => rfl⟩) Try.func53 (by kernel_rfl) has53 low53 ress53 (fun _ => Nat.le_of_ble_eq_true rfl))
noncomputable def T20 : Tab := T19.add 35 sp_join
theorem ok20 : TabOK Try.prog T20 := ok19.add (Sp.Body.ok ok19 (body_hist_join (n1 := 36) (n2 := 53) ⟨rfl, fun _ _ => rfl⟩ ⟨rfl, fun _ _ => rfl⟩) Try.func35 (by kernel_rfl) has35 low35 ress35 (fun _ => Nat.le_of_ble_eq_true rfl))
theorem okD (h : Hole) : TabOK Try.prog (T20.addG 31 (ef_copied h).at) := (eff_hist_copied (T := T20) h ⟨rfl, fun _ _ => rfl⟩ ⟨rfl, fun _ _ => rfl⟩ ⟨rfl, fun _ _ => rfl⟩ ⟨rfl, fun _ _ => rfl⟩ ⟨rfl, fun _ _ => rfl⟩ ⟨rfl, fun _ _ => rfl⟩).tab ok20 ok20 Try.func31 (by kernel_rfl) has31 low31 ress31 (fun _ => Nat.le_of_ble_eq_true rfl)
theorem okD0 : TabOK Try.prog (T20.addG 31 ef_copied0.at) := (eff0_hist_copied (T := T20) ⟨rfl, fun _ _ => rfl⟩ ⟨rfl, fun _ _ => rfl⟩ ⟨rfl, fun _ _ => rfl⟩ ⟨rfl, fun _ _ => rfl⟩ ⟨rfl, fun _ _ => rfl⟩ ⟨rfl, fun _ _ => rfl⟩).tab ok20 ok20 Try.func31 (by kernel_rfl) has31 low31 ress31 (fun _ => Nat.le_of_ble_eq_true rfl)
noncomputable def T21 : Tab := T20.add 12 sp_Do
theorem ok21 : TabOK Try.prog T21 := ok20.add (Do_ok (n1 := 29) (n2 := 30) (n3 := 19) (n4 := 31) (n5 := 32) (n6 := 16) (n7 := 33) (n8 := 34) (n9 := 35) (n10 := 36) okD okD0 ⟨rfl, fun _ _ => rfl⟩ ⟨rfl, fun _ _ => rfl⟩ ⟨rfl, fun _ _ => rfl⟩ ⟨rfl, fun _ _ => rfl⟩ ⟨rfl, fun _ _ => rfl⟩ ⟨rfl, fun _ _ => rfl⟩ ⟨rfl⟩ ⟨rfl, fun _ _ => rfl⟩ ⟨rfl, fun _ _ => rfl⟩ rfl rfl rfl rfl rfl rfl rfl rfl rfl Try.func12 (by kernel_rfl) has12 low12 ress12 (Nat.le_of_ble_eq_true rfl))
noncomputable def T22 : Tab := T21.add 17 sp_Sees
theorem ok22 : TabOK Try.prog T22 := ok21.add (Sp.Body.ok ok21 (body_hist_Sees (n1 := 16) ⟨rfl, fun _ _ => rfl⟩) Try.func17 (by kernel_rfl) has17 low17 ress17 (fun _ => Nat.le_of_ble_eq_true rfl))
noncomputable def T23 : Tab := T22.add 8 sp_true
theorem ok23 : TabOK Try.prog T23 := ok22.add (Sp.Body.ok ok22 (body_law20_awake (n1 := 9) (n2 := 12) (n3 := 17) ⟨rfl, fun _ _ => rfl⟩ ⟨rfl, fun _ _ => rfl⟩ ⟨rfl, fun _ _ => rfl⟩) Try.func8 (by kernel_rfl) has8 low8 ress8 (fun _ => Nat.le_of_ble_eq_true rfl))
noncomputable def T24 : Tab := T23.add 14 sp_done
theorem ok24 : TabOK Try.prog T24 := ok23.add (Sp.Body.ok ok23 (body_law20_done (n1 := 9) (n2 := 12) ⟨rfl, fun _ _ => rfl⟩ ⟨rfl, fun _ _ => rfl⟩) Try.func14 (by kernel_rfl) has14 low14 ress14 (fun _ => Nat.le_of_ble_eq_true rfl))
noncomputable def T25 : Tab := T24.add 15 sp_onward
theorem ok25 : TabOK Try.prog T25 := ok24.add (Sp.Body.ok ok24 (body_law20_onward (n1 := 16) (n2 := 19) ⟨rfl, fun _ _ => rfl⟩ ⟨rfl, fun _ _ => rfl⟩) Try.func15 (by kernel_rfl) has15 low15 ress15 (fun _ => Nat.le_of_ble_eq_true rfl))
noncomputable def T26 : Tab := T25.add 18 sp_Last
theorem ok26 : TabOK Try.prog T26 := ok25.add (Sp.Body.ok ok25 (body_hist_Last) Try.func18 (by kernel_rfl) has18 low18 ress18 (fun _ => Nat.le_of_ble_eq_true rfl))
noncomputable abbrev TT : Tab := T26
theorem okT : TabOK Try.prog TT := ok26
/-- The law HistOnward, from its body. -/
theorem acalls_HistOnward {args : List AV} (ha : args.length ≤ Try.f4.ntmps) (h : Holds TT V_law20_HistOnward (L_law20_HistOnward 8 12 14 15 16) R_law20_HistOnward args) : ACalls Try.prog 4 args [] fun r _ => r = .d (.bool true) :=
  ACalls.of_vck okT V_law20_HistOnward Try.func4 (by kernel_rfl) has4 low4 ress4 ha h
/-- The law HistOwn, from its body. -/
theorem acalls_HistOwn {args : List AV} (ha : args.length ≤ Try.f5.ntmps) (h : Holds TT V_law20_HistOwn (L_law20_HistOwn 8 12 14 16 17) R_law20_HistOwn args) : ACalls Try.prog 5 args [] fun r _ => r = .d (.bool true) :=
  ACalls.of_vck okT V_law20_HistOwn Try.func5 (by kernel_rfl) has5 low5 ress5 ha h
/-- The law HistSees, from its body. -/
theorem acalls_HistSees {args : List AV} (ha : args.length ≤ Try.f7.ntmps) (h : Holds TT V_law20_HistSees (L_law20_HistSees 8 12 14 16 17 18 19) R_law20_HistSees args) : ACalls Try.prog 7 args [] fun r _ => r = .d (.bool true) :=
  ACalls.of_vck okT V_law20_HistSees Try.func7 (by kernel_rfl) has7 low7 ress7 ha h
end Go.Proofs.Ytoicaaidleddfaa
