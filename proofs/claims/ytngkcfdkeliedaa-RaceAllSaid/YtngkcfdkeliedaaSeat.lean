/- The functions of this cut as the abstract machine has them, and the table of their contracts. Conditions: none. -/
import Derived.Test.YtngkcfdkeliedaaChecked
import Derived.Test.YtngkcfdkeliedaaAgoP7
set_option maxRecDepth 100000
set_option linter.unusedVariables false
namespace Go.Proofs.Ytngkcfdkeliedaa
open Go Go.Ago
theorem low22 : lowCode Try.prog Try.f22.ntmps (Try.f22.body.getD .skip) = some (L_rel_size) := by kernel_rfl
theorem ress22 : lowRess Try.prog Try.f22.results.toList = some R_rel_size := by kernel_rfl
theorem has22 : Try.f22.body = some (Try.f22.body.getD .skip) := by kernel_rfl
theorem low10 : lowCode Try.prog Try.f10.ntmps (Try.f10.body.getD .skip) = some (L_rel_Has 22) := by kernel_rfl
theorem ress10 : lowRess Try.prog Try.f10.results.toList = some R_rel_Has := by kernel_rfl
theorem has10 : Try.f10.body = some (Try.f10.body.getD .skip) := by kernel_rfl
theorem low44 : lowCode Try.prog Try.f44.ntmps (Try.f44.body.getD .skip) = some (L_slices_Clone_api_Loc) := by kernel_rfl
theorem ress44 : lowRess Try.prog Try.f44.results.toList = some R_slices_Clone_api_Loc := by kernel_rfl
theorem has44 : Try.f44.body = some (Try.f44.body.getD .skip) := by kernel_rfl
theorem low45 : lowCode Try.prog Try.f45.ntmps (Try.f45.body.getD .skip) = some (L_hist_begin) := by kernel_rfl
theorem ress45 : lowRess Try.prog Try.f45.results.toList = some R_hist_begin := by kernel_rfl
theorem has45 : Try.f45.body = some (Try.f45.body.getD .skip) := by kernel_rfl
theorem low31 : lowCode Try.prog Try.f31.ntmps (Try.f31.body.getD .skip) = some (L_hist_New 44 45) := by kernel_rfl
theorem ress31 : lowRess Try.prog Try.f31.results.toList = some R_hist_New := by kernel_rfl
theorem has31 : Try.f31.body = some (Try.f31.body.getD .skip) := by kernel_rfl
theorem low42 : lowCode Try.prog Try.f42.ntmps (Try.f42.body.getD .skip) = some (L_act_Right) := by kernel_rfl
theorem ress42 : lowRess Try.prog Try.f42.results.toList = some R_act_Right := by kernel_rfl
theorem has42 : Try.f42.body = some (Try.f42.body.getD .skip) := by kernel_rfl
theorem low46 : lowCode Try.prog Try.f46.ntmps (Try.f46.body.getD .skip) = some (L_hist_plain) := by kernel_rfl
theorem ress46 : lowRess Try.prog Try.f46.results.toList = some R_hist_plain := by kernel_rfl
theorem has46 : Try.f46.body = some (Try.f46.body.getD .skip) := by kernel_rfl
theorem low36 : lowCode Try.prog Try.f36.ntmps (Try.f36.body.getD .skip) = some (L_rat_Right) := by kernel_rfl
theorem ress36 : lowRess Try.prog Try.f36.results.toList = some R_rat_Right := by kernel_rfl
theorem has36 : Try.f36.body = some (Try.f36.body.getD .skip) := by kernel_rfl
theorem low43 : lowCode Try.prog Try.f43.ntmps (Try.f43.body.getD .skip) = some (L_slices_Clone_int64) := by kernel_rfl
theorem ress43 : lowRess Try.prog Try.f43.results.toList = some R_slices_Clone_int64 := by kernel_rfl
theorem has43 : Try.f43.body = some (Try.f43.body.getD .skip) := by kernel_rfl
theorem low52 : lowCode Try.prog Try.f52.ntmps (Try.f52.body.getD .skip) = some (L_slices_Clone_api_Rat) := by kernel_rfl
theorem ress52 : lowRess Try.prog Try.f52.results.toList = some R_slices_Clone_api_Rat := by kernel_rfl
theorem has52 : Try.f52.body = some (Try.f52.body.getD .skip) := by kernel_rfl
theorem low58 : lowCode Try.prog Try.f58.ntmps (Try.f58.body.getD .skip) = some (L_slices_Clone_api_Stamp_api_Stamp) := by kernel_rfl
theorem ress58 : lowRess Try.prog Try.f58.results.toList = some R_slices_Clone_api_Stamp_api_Stamp := by kernel_rfl
theorem has58 : Try.f58.body = some (Try.f58.body.getD .skip) := by kernel_rfl
theorem low59 : lowCode Try.prog Try.f59.ntmps (Try.f59.body.getD .skip) = some (L_slices_Clone_api_Rat_api_Rat) := by kernel_rfl
theorem ress59 : lowRess Try.prog Try.f59.results.toList = some R_slices_Clone_api_Rat_api_Rat := by kernel_rfl
theorem has59 : Try.f59.body = some (Try.f59.body.getD .skip) := by kernel_rfl
theorem low60 : lowCode Try.prog Try.f60.ntmps (Try.f60.body.getD .skip) = some (L_slices_Clone_api_Stamp) := by kernel_rfl
theorem ress60 : lowRess Try.prog Try.f60.results.toList = some R_slices_Clone_api_Stamp := by kernel_rfl
theorem has60 : Try.f60.body = some (Try.f60.body.getD .skip) := by kernel_rfl
theorem low47 : lowCode Try.prog Try.f47.ntmps (Try.f47.body.getD .skip) = some (L_hist_copied 43 44 52 58 59 60) := by kernel_rfl
theorem ress47 : lowRess Try.prog Try.f47.results.toList = some R_hist_copied := by kernel_rfl
theorem has47 : Try.f47.body = some (Try.f47.body.getD .skip) := by kernel_rfl
theorem low25 : lowCode Try.prog Try.f25.ntmps (Try.f25.body.getD .skip) = some (L_rat_Cmp 36) := by kernel_rfl
theorem ress25 : lowRess Try.prog Try.f25.results.toList = some R_rat_Cmp := by kernel_rfl
theorem has25 : Try.f25.body = some (Try.f25.body.getD .skip) := by kernel_rfl
theorem low62 : lowCode Try.prog Try.f62.ntmps (Try.f62.body.getD .skip) = some (L_hist_at_1 25) := by kernel_rfl
theorem ress62 : lowRess Try.prog Try.f62.results.toList = some R_hist_at_1 := by kernel_rfl
theorem has62 : Try.f62.body = some (Try.f62.body.getD .skip) := by kernel_rfl
theorem low61 : lowCode Try.prog Try.f61.ntmps (Try.f61.body.getD .skip) = some (L_slices_BinarySearchFunc_api_Stamp_api_Rat) := by kernel_rfl
theorem ress61 : lowRess Try.prog Try.f61.results.toList = some R_slices_BinarySearchFunc_api_Stamp_api_Rat := by kernel_rfl
theorem has61 : Try.f61.body = some (Try.f61.body.getD .skip) := by kernel_rfl
theorem low48 : lowCode Try.prog Try.f48.ntmps (Try.f48.body.getD .skip) = some (L_hist_at 61 62) := by kernel_rfl
theorem ress48 : lowRess Try.prog Try.f48.results.toList = some R_hist_at := by kernel_rfl
theorem has48 : Try.f48.body = some (Try.f48.body.getD .skip) := by kernel_rfl
theorem low63 : lowCode Try.prog Try.f63.ntmps (Try.f63.body.getD .skip) = some (L_rat_gcd) := by kernel_rfl
theorem ress63 : lowRess Try.prog Try.f63.results.toList = some R_rat_gcd := by kernel_rfl
theorem has63 : Try.f63.body = some (Try.f63.body.getD .skip) := by kernel_rfl
theorem low49 : lowCode Try.prog Try.f49.ntmps (Try.f49.body.getD .skip) = some (L_rat_Least 36 63) := by kernel_rfl
theorem ress49 : lowRess Try.prog Try.f49.results.toList = some R_rat_Least := by kernel_rfl
theorem has49 : Try.f49.body = some (Try.f49.body.getD .skip) := by kernel_rfl
theorem low70 : lowCode Try.prog Try.f70.ntmps (Try.f70.body.getD .skip) = some (L_slices_Reverse_api_Stamp) := by kernel_rfl
theorem ress70 : lowRess Try.prog Try.f70.results.toList = some R_slices_Reverse_api_Stamp := by kernel_rfl
theorem has70 : Try.f70.body = some (Try.f70.body.getD .skip) := by kernel_rfl
theorem low68 : lowCode Try.prog Try.f68.ntmps (Try.f68.body.getD .skip) = some (L_slices_rotateLeft_api_Stamp 70) := by kernel_rfl
theorem ress68 : lowRess Try.prog Try.f68.results.toList = some R_slices_rotateLeft_api_Stamp := by kernel_rfl
theorem has68 : Try.f68.body = some (Try.f68.body.getD .skip) := by kernel_rfl
theorem low65 : lowCode Try.prog Try.f65.ntmps (Try.f65.body.getD .skip) = some (L_slices_rotateRight_api_Stamp 68) := by kernel_rfl
theorem ress65 : lowRess Try.prog Try.f65.results.toList = some R_slices_rotateRight_api_Stamp := by kernel_rfl
theorem has65 : Try.f65.body = some (Try.f65.body.getD .skip) := by kernel_rfl
theorem low50 : lowCode Try.prog Try.f50.ntmps (Try.f50.body.getD .skip) = some (L_slices_Insert_api_Stamp 65) := by kernel_rfl
theorem ress50 : lowRess Try.prog Try.f50.results.toList = some R_slices_Insert_api_Stamp := by kernel_rfl
theorem has50 : Try.f50.body = some (Try.f50.body.getD .skip) := by kernel_rfl
theorem low66 : lowCode Try.prog Try.f66.ntmps (Try.f66.body.getD .skip) = some (L_rat_Max 25) := by kernel_rfl
theorem ress66 : lowRess Try.prog Try.f66.results.toList = some R_rat_Max := by kernel_rfl
theorem has66 : Try.f66.body = some (Try.f66.body.getD .skip) := by kernel_rfl
theorem low51 : lowCode Try.prog Try.f51.ntmps (Try.f51.body.getD .skip) = some (L_hist_join 52 66) := by kernel_rfl
theorem ress51 : lowRess Try.prog Try.f51.results.toList = some R_hist_join := by kernel_rfl
theorem has51 : Try.f51.body = some (Try.f51.body.getD .skip) := by kernel_rfl
theorem low32 : lowCode Try.prog Try.f32.ntmps (Try.f32.body.getD .skip) = some (L_hist_Do 42 46 36 47 48 25 49 50 51 52) := by kernel_rfl
theorem ress32 : lowRess Try.prog Try.f32.results.toList = some R_hist_Do := by kernel_rfl
theorem has32 : Try.f32.body = some (Try.f32.body.getD .skip) := by kernel_rfl
theorem low20 : lowCode Try.prog Try.f20.ntmps (Try.f20.body.getD .skip) = some (L_race_played 31 32) := by kernel_rfl
theorem ress20 : lowRess Try.prog Try.f20.results.toList = some R_race_played := by kernel_rfl
theorem has20 : Try.f20.body = some (Try.f20.body.getD .skip) := by kernel_rfl
theorem low33 : lowCode Try.prog Try.f33.ntmps (Try.f33.body.getD .skip) = some (L_race_atomic) := by kernel_rfl
theorem ress33 : lowRess Try.prog Try.f33.results.toList = some R_race_atomic := by kernel_rfl
theorem has33 : Try.f33.body = some (Try.f33.body.getD .skip) := by kernel_rfl
theorem low34 : lowCode Try.prog Try.f34.ntmps (Try.f34.body.getD .skip) = some (L_rel_Of) := by kernel_rfl
theorem ress34 : lowRess Try.prog Try.f34.results.toList = some R_rel_Of := by kernel_rfl
theorem has34 : Try.f34.body = some (Try.f34.body.getD .skip) := by kernel_rfl
theorem low69 : lowCode Try.prog Try.f69.ntmps (Try.f69.body.getD .skip) = some (L_rel_all) := by kernel_rfl
theorem ress69 : lowRess Try.prog Try.f69.results.toList = some R_rel_all := by kernel_rfl
theorem has69 : Try.f69.body = some (Try.f69.body.getD .skip) := by kernel_rfl
theorem low67 : lowCode Try.prog Try.f67.ntmps (Try.f67.body.getD .skip) = some (L_rel_row 22 69) := by kernel_rfl
theorem ress67 : lowRess Try.prog Try.f67.results.toList = some R_rel_row := by kernel_rfl
theorem has67 : Try.f67.body = some (Try.f67.body.getD .skip) := by kernel_rfl
theorem low54 : lowCode Try.prog Try.f54.ntmps (Try.f54.body.getD .skip) = some (L_rel_Plus_1) := by kernel_rfl
theorem ress54 : lowRess Try.prog Try.f54.results.toList = some R_rel_Plus_1 := by kernel_rfl
theorem has54 : Try.f54.body = some (Try.f54.body.getD .skip) := by kernel_rfl
theorem low53 : lowCode Try.prog Try.f53.ntmps (Try.f53.body.getD .skip) = some (L_rel_lay 22 67) := by kernel_rfl
theorem ress53 : lowRess Try.prog Try.f53.results.toList = some R_rel_lay := by kernel_rfl
theorem has53 : Try.f53.body = some (Try.f53.body.getD .skip) := by kernel_rfl
theorem low35 : lowCode Try.prog Try.f35.ntmps (Try.f35.body.getD .skip) = some (L_rel_Plus 53 54) := by kernel_rfl
theorem ress35 : lowRess Try.prog Try.f35.results.toList = some R_rel_Plus := by kernel_rfl
theorem has35 : Try.f35.body = some (Try.f35.body.getD .skip) := by kernel_rfl
theorem low21 : lowCode Try.prog Try.f21.ntmps (Try.f21.body.getD .skip) = some (L_race_ordered 33 34 35) := by kernel_rfl
theorem ress21 : lowRess Try.prog Try.f21.results.toList = some R_race_ordered := by kernel_rfl
theorem has21 : Try.f21.body = some (Try.f21.body.getD .skip) := by kernel_rfl
theorem low23 : lowCode Try.prog Try.f23.ntmps (Try.f23.body.getD .skip) = some (L_race_plain) := by kernel_rfl
theorem ress23 : lowRess Try.prog Try.f23.results.toList = some R_race_plain := by kernel_rfl
theorem has23 : Try.f23.body = some (Try.f23.body.getD .skip) := by kernel_rfl
theorem low11 : lowCode Try.prog Try.f11.ntmps (Try.f11.body.getD .skip) = some (L_race_Races 10 20 21 23) := by kernel_rfl
theorem ress11 : lowRess Try.prog Try.f11.results.toList = some R_race_Races := by kernel_rfl
theorem has11 : Try.f11.body = some (Try.f11.body.getD .skip) := by kernel_rfl
theorem low8 : lowCode Try.prog Try.f8.ntmps (Try.f8.body.getD .skip) = some (L_law22_awake 11) := by kernel_rfl
theorem ress8 : lowRess Try.prog Try.f8.results.toList = some R_law22_awake := by kernel_rfl
theorem has8 : Try.f8.body = some (Try.f8.body.getD .skip) := by kernel_rfl
theorem low9 : lowCode Try.prog Try.f9.ntmps (Try.f9.body.getD .skip) = some (L_race_Order 20 21) := by kernel_rfl
theorem ress9 : lowRess Try.prog Try.f9.results.toList = some R_race_Order := by kernel_rfl
theorem has9 : Try.f9.body = some (Try.f9.body.getD .skip) := by kernel_rfl
theorem low13 : lowCode Try.prog Try.f13.ntmps (Try.f13.body.getD .skip) = some (L_law22_fits) := by kernel_rfl
theorem ress13 : lowRess Try.prog Try.f13.results.toList = some R_law22_fits := by kernel_rfl
theorem has13 : Try.f13.body = some (Try.f13.body.getD .skip) := by kernel_rfl
theorem low24 : lowCode Try.prog Try.f24.ntmps (Try.f24.body.getD .skip) = some (L_hist_Last) := by kernel_rfl
theorem ress24 : lowRess Try.prog Try.f24.results.toList = some R_hist_Last := by kernel_rfl
theorem has24 : Try.f24.body = some (Try.f24.body.getD .skip) := by kernel_rfl
theorem low14 : lowCode Try.prog Try.f14.ntmps (Try.f14.body.getD .skip) = some (L_race_Weak 20 23 24 25) := by kernel_rfl
theorem ress14 : lowRess Try.prog Try.f14.results.toList = some R_race_Weak := by kernel_rfl
theorem has14 : Try.f14.body = some (Try.f14.body.getD .skip) := by kernel_rfl
theorem low55 : lowCode Try.prog Try.f55.ntmps (Try.f55.body.getD .skip) = some (L_ref20_zero) := by kernel_rfl
theorem ress55 : lowRess Try.prog Try.f55.results.toList = some R_ref20_zero := by kernel_rfl
theorem has55 : Try.f55.body = some (Try.f55.body.getD .skip) := by kernel_rfl
theorem low38 : lowCode Try.prog Try.f38.ntmps (Try.f38.body.getD .skip) = some (L_ref01_Right) := by kernel_rfl
theorem ress38 : lowRess Try.prog Try.f38.results.toList = some R_ref01_Right := by kernel_rfl
theorem has38 : Try.f38.body = some (Try.f38.body.getD .skip) := by kernel_rfl
theorem low56 : lowCode Try.prog Try.f56.ntmps (Try.f56.body.getD .skip) = some (L_ref01_Least 38) := by kernel_rfl
theorem ress56 : lowRess Try.prog Try.f56.results.toList = some R_ref01_Least := by kernel_rfl
theorem has56 : Try.f56.body = some (Try.f56.body.getD .skip) := by kernel_rfl
theorem low28 : lowCode Try.prog Try.f28.ntmps (Try.f28.body.getD .skip) = some (L_ref01_Cmp 38) := by kernel_rfl
theorem ress28 : lowRess Try.prog Try.f28.results.toList = some R_ref01_Cmp := by kernel_rfl
theorem has28 : Try.f28.body = some (Try.f28.body.getD .skip) := by kernel_rfl
theorem low57 : lowCode Try.prog Try.f57.ntmps (Try.f57.body.getD .skip) = some (L_ref01_Max 28) := by kernel_rfl
theorem ress57 : lowRess Try.prog Try.f57.results.toList = some R_ref01_Max := by kernel_rfl
theorem has57 : Try.f57.body = some (Try.f57.body.getD .skip) := by kernel_rfl
theorem low40 : lowCode Try.prog Try.f40.ntmps (Try.f40.body.getD .skip) = some (L_ref20_Past_Front 40 55 56 57) := by kernel_rfl
theorem ress40 : lowRess Try.prog Try.f40.results.toList = some R_ref20_Past_Front := by kernel_rfl
theorem has40 : Try.f40.body = some (Try.f40.body.getD .skip) := by kernel_rfl
theorem low39 : lowCode Try.prog Try.f39.ntmps (Try.f39.body.getD .skip) = some (L_ref20_Past_Value) := by kernel_rfl
theorem ress39 : lowRess Try.prog Try.f39.results.toList = some R_ref20_Past_Value := by kernel_rfl
theorem has39 : Try.f39.body = some (Try.f39.body.getD .skip) := by kernel_rfl
theorem low37 : lowCode Try.prog Try.f37.ntmps (Try.f37.body.getD .skip) = some (L_ref08_Right) := by kernel_rfl
theorem ress37 : lowRess Try.prog Try.f37.results.toList = some R_ref08_Right := by kernel_rfl
theorem has37 : Try.f37.body = some (Try.f37.body.getD .skip) := by kernel_rfl
theorem low41 : lowCode Try.prog Try.f41.ntmps (Try.f41.body.getD .skip) = some (L_ref20_Past_writes 55 56) := by kernel_rfl
theorem ress41 : lowRess Try.prog Try.f41.results.toList = some R_ref20_Past_writes := by kernel_rfl
theorem has41 : Try.f41.body = some (Try.f41.body.getD .skip) := by kernel_rfl
theorem low26 : lowCode Try.prog Try.f26.ntmps (Try.f26.body.getD .skip) = some (L_ref20_Past_Do 40 39 37 38 41 28) := by kernel_rfl
theorem ress26 : lowRess Try.prog Try.f26.results.toList = some R_ref20_Past_Do := by kernel_rfl
theorem has26 : Try.f26.body = some (Try.f26.body.getD .skip) := by kernel_rfl
theorem low15 : lowCode Try.prog Try.f15.ntmps (Try.f15.body.getD .skip) = some (L_ref22_Played 26) := by kernel_rfl
theorem ress15 : lowRess Try.prog Try.f15.results.toList = some R_ref22_Played := by kernel_rfl
theorem has15 : Try.f15.body = some (Try.f15.body.getD .skip) := by kernel_rfl
theorem low27 : lowCode Try.prog Try.f27.ntmps (Try.f27.body.getD .skip) = some (L_ref20_Past_Written 41 28) := by kernel_rfl
theorem ress27 : lowRess Try.prog Try.f27.results.toList = some R_ref20_Past_Written := by kernel_rfl
theorem has27 : Try.f27.body = some (Try.f27.body.getD .skip) := by kernel_rfl
theorem low16 : lowCode Try.prog Try.f16.ntmps (Try.f16.body.getD .skip) = some (L_ref22_Weak 27 28) := by kernel_rfl
theorem ress16 : lowRess Try.prog Try.f16.results.toList = some R_ref22_Weak := by kernel_rfl
theorem has16 : Try.f16.body = some (Try.f16.body.getD .skip) := by kernel_rfl
theorem low29 : lowCode Try.prog Try.f29.ntmps (Try.f29.body.getD .skip) = some (L_ref22_direct) := by kernel_rfl
theorem ress29 : lowRess Try.prog Try.f29.results.toList = some R_ref22_direct := by kernel_rfl
theorem has29 : Try.f29.body = some (Try.f29.body.getD .skip) := by kernel_rfl
theorem low17 : lowCode Try.prog Try.f17.ntmps (Try.f17.body.getD .skip) = some (L_ref22_Behind 29) := by kernel_rfl
theorem ress17 : lowRess Try.prog Try.f17.results.toList = some R_ref22_Behind := by kernel_rfl
theorem has17 : Try.f17.body = some (Try.f17.body.getD .skip) := by kernel_rfl
theorem low18 : lowCode Try.prog Try.f18.ntmps (Try.f18.body.getD .skip) = some (L_ref22_Race 17) := by kernel_rfl
theorem ress18 : lowRess Try.prog Try.f18.results.toList = some R_ref22_Race := by kernel_rfl
theorem has18 : Try.f18.body = some (Try.f18.body.getD .skip) := by kernel_rfl
theorem low5 : lowCode Try.prog Try.f5.ntmps (Try.f5.body.getD .skip) = some (L_law22_RaceAll 8 9 10 11 13 14 15 16 17 18) := by kernel_rfl
theorem ress5 : lowRess Try.prog Try.f5.results.toList = some R_law22_RaceAll := by kernel_rfl
theorem has5 : Try.f5.body = some (Try.f5.body.getD .skip) := by kernel_rfl
noncomputable def T0 : Tab := Tab.none
theorem ok0 : TabOK Try.prog T0 := TabOK.none
noncomputable def T1 : Tab := T0.add 22 sp_size
theorem ok1 : TabOK Try.prog T1 := ok0.add (Sp.Body.ok ok0 (body_rel_size) Try.func22 (by kernel_rfl) has22 low22 ress22 (fun _ => Nat.le_of_ble_eq_true rfl))
noncomputable def T2 : Tab := T1.add 10 sp_Has
theorem ok2 : TabOK Try.prog T2 := ok1.add (Sp.Body.ok ok1 (body_rel_Has (n1 := 22) ⟨rfl, fun _ _ => rfl⟩) Try.func10 (by kernel_rfl) has10 low10 ress10 (fun _ => Nat.le_of_ble_eq_true rfl))
noncomputable def T3 : Tab := T2.add 44 (cloneS 2 16)
theorem ok3 : TabOK Try.prog T3 := ok2.add (Sp.Body.ok ok2 (body_slices_Clone_api_Loc) Try.func44 (by kernel_rfl) has44 low44 ress44 (fun _ => Nat.le_of_ble_eq_true rfl))
noncomputable def T4 : Tab := T3.add 45 sp_begin
theorem ok4 : TabOK Try.prog T4 := ok3.add (Sp.Body.ok ok3 (body_hist_begin) Try.func45 (by kernel_rfl) has45 low45 ress45 (fun _ => Nat.le_of_ble_eq_true rfl))
noncomputable def T5 : Tab := T4.add 31 sp_New
theorem ok5 : TabOK Try.prog T5 := ok4.add (Sp.Body.ok ok4 (body_hist_New (n1 := 44) (n2 := 45) ⟨rfl, fun _ _ => rfl⟩ ⟨rfl, fun _ _ => rfl⟩) Try.func31 (by kernel_rfl) has31 low31 ress31 (fun _ => Nat.le_of_ble_eq_true rfl))
noncomputable def T6 : Tab := T5.add 42 sp_act_Right
theorem ok6 : TabOK Try.prog T6 := ok5.add (Sp.Body.ok ok5 (body_act_Right) Try.func42 (by kernel_rfl) has42 low42 ress42 (fun _ => Nat.le_of_ble_eq_true rfl))
noncomputable def T7 : Tab := T6.add 46 sp_plain
theorem ok7 : TabOK Try.prog T7 := ok6.add (Sp.Body.ok ok6 (body_hist_plain) Try.func46 (by kernel_rfl) has46 low46 ress46 (fun _ => Nat.le_of_ble_eq_true rfl))
noncomputable def T8 : Tab := T7.add 36 sp_rat_Right
theorem ok8 : TabOK Try.prog T8 := ok7.add (Sp.Body.ok ok7 (body_rat_Right) Try.func36 (by kernel_rfl) has36 low36 ress36 (fun _ => Nat.le_of_ble_eq_true rfl))
noncomputable def T9 : Tab := T8.add 43 (cloneS 1 8)
theorem ok9 : TabOK Try.prog T9 := ok8.add (Sp.Body.ok ok8 (body_slices_Clone_int64) Try.func43 (by kernel_rfl) has43 low43 ress43 (fun _ => Nat.le_of_ble_eq_true rfl))
noncomputable def T10 : Tab := T9.add 52 (cloneS 2 16)
theorem ok10 : TabOK Try.prog T10 := ok9.add (Sp.Body.ok ok9 (body_slices_Clone_api_Rat) Try.func52 (by kernel_rfl) has52 low52 ress52 (fun _ => Nat.le_of_ble_eq_true rfl))
noncomputable def T11 : Tab := T10.add 58 (cloneS 1 24)
theorem ok11 : TabOK Try.prog T11 := ok10.add (Sp.Body.ok ok10 (body_slices_Clone_api_Stamp_api_Stamp) Try.func58 (by kernel_rfl) has58 low58 ress58 (fun _ => Nat.le_of_ble_eq_true rfl))
noncomputable def T12 : Tab := T11.add 59 (cloneS 1 24)
theorem ok12 : TabOK Try.prog T12 := ok11.add (Sp.Body.ok ok11 (body_slices_Clone_api_Rat_api_Rat) Try.func59 (by kernel_rfl) has59 low59 ress59 (fun _ => Nat.le_of_ble_eq_true rfl))
noncomputable def T13 : Tab := T12.add 60 (cloneS 3 24)
theorem ok13 : TabOK Try.prog T13 := ok12.add (Sp.Body.ok ok12 (body_slices_Clone_api_Stamp) Try.func60 (by kernel_rfl) has60 low60 ress60 (fun _ => Nat.le_of_ble_eq_true rfl))
noncomputable def T14 : Tab := T13.add 25 sp_rat_Cmp
theorem ok14 : TabOK Try.prog T14 := ok13.add (Sp.Body.ok ok13 (body_rat_Cmp (n1 := 36) ⟨rfl, fun _ _ => rfl⟩) Try.func25 (by kernel_rfl) has25 low25 ress25 (fun _ => Nat.le_of_ble_eq_true rfl))
noncomputable def T15 : Tab := T14.add 62 sp_stampCmp
theorem ok15 : TabOK Try.prog T15 := ok14.add (Sp.Body.ok ok14 (body_hist_at_1 (n1 := 25) ⟨rfl, fun _ _ => rfl⟩) Try.func62 (by kernel_rfl) has62 low62 ress62 (fun _ => Nat.le_of_ble_eq_true rfl))
noncomputable def T16 : Tab := T15.add 61 (sp_bs 62)
theorem ok16 : TabOK Try.prog T16 := ok15.add (Sp.Body.ok ok15 (body_slices_BinarySearchFunc_api_Stamp_api_Rat (n_hist_at_1 := 62) ⟨rfl, fun _ _ => rfl⟩) Try.func61 (by kernel_rfl) has61 low61 ress61 (fun _ => Nat.le_of_ble_eq_true rfl))
noncomputable def T17 : Tab := T16.add 48 sp_hist_at
theorem ok17 : TabOK Try.prog T17 := ok16.add (Sp.Body.ok ok16 (body_hist_at (n1 := 61) (n_hist_at_1 := 62) ⟨rfl, fun _ _ => rfl⟩) Try.func48 (by kernel_rfl) has48 low48 ress48 (fun _ => Nat.le_of_ble_eq_true rfl))
noncomputable def T18 : Tab := T17.add 63 sp_rat_gcd
theorem ok18 : TabOK Try.prog T18 := ok17.add (Sp.Body.ok ok17 (body_rat_gcd) Try.func63 (by kernel_rfl) has63 low63 ress63 (fun _ => Nat.le_of_ble_eq_true rfl))
noncomputable def T19 : Tab := T18.add 49 sp_rat_Least
theorem ok19 : TabOK Try.prog T19 := ok18.add (Sp.Body.ok ok18 (body_rat_Least (n1 := 36) (n2 := 63) ⟨rfl, fun _ _ => rfl⟩ ⟨rfl, fun _ _ => rfl⟩) Try.func49 (by kernel_rfl) has49 low49 ress49 (fun _ => Nat.le_of_ble_eq_true rfl))
noncomputable def T20 : Tab := T19.addG 50 ef_Insert.at
theorem ok20 : TabOK Try.prog T20 := (eff_slices_Insert_api_Stamp (n1 := 65)).tab ok19 ok19 Try.func50 (by kernel_rfl) has50 low50 ress50 (fun _ => Nat.le_of_ble_eq_true rfl)
noncomputable def T21 : Tab := T20.add 66 sp_rat_Max
theorem ok21 : TabOK Try.prog T21 := ok20.add (Sp.Body.ok ok20 (body_rat_Max (n1 := 25) ⟨rfl, fun _ _ => rfl⟩) Try.func66 (by kernel_rfl) has66 low66 ress66 (fun _ => Nat.le_of_ble_eq_true rfl))
noncomputable def T22 : Tab := T21.add 51 sp_join
theorem ok22 : TabOK Try.prog T22 := ok21.add (Sp.Body.ok ok21 (body_hist_join (n1 := 52) (n2 := 66) ⟨rfl, fun _ _ => rfl⟩ ⟨rfl, fun _ _ => rfl⟩) Try.func51 (by kernel_rfl) has51 low51 ress51 (fun _ => Nat.le_of_ble_eq_true rfl))
theorem okD (h : Hole) : TabOK Try.prog (T22.addG 47 (ef_copied h).at) := (eff_hist_copied (T := T22) h ⟨rfl, fun _ _ => rfl⟩ ⟨rfl, fun _ _ => rfl⟩ ⟨rfl, fun _ _ => rfl⟩ ⟨rfl, fun _ _ => rfl⟩ ⟨rfl, fun _ _ => rfl⟩ ⟨rfl, fun _ _ => rfl⟩).tab ok22 ok22 Try.func47 (by kernel_rfl) has47 low47 ress47 (fun _ => Nat.le_of_ble_eq_true rfl)
theorem okD0 : TabOK Try.prog (T22.addG 47 ef_copied0.at) := (eff0_hist_copied (T := T22) ⟨rfl, fun _ _ => rfl⟩ ⟨rfl, fun _ _ => rfl⟩ ⟨rfl, fun _ _ => rfl⟩ ⟨rfl, fun _ _ => rfl⟩ ⟨rfl, fun _ _ => rfl⟩ ⟨rfl, fun _ _ => rfl⟩).tab ok22 ok22 Try.func47 (by kernel_rfl) has47 low47 ress47 (fun _ => Nat.le_of_ble_eq_true rfl)
noncomputable def T23 : Tab := T22.add 32 sp_Do
theorem ok23 : TabOK Try.prog T23 := ok22.add (Do_ok (n1 := 42) (n2 := 46) (n3 := 36) (n4 := 47) (n5 := 48) (n6 := 25) (n7 := 49) (n8 := 50) (n9 := 51) (n10 := 52) okD okD0 ⟨rfl, fun _ _ => rfl⟩ ⟨rfl, fun _ _ => rfl⟩ ⟨rfl, fun _ _ => rfl⟩ ⟨rfl, fun _ _ => rfl⟩ ⟨rfl, fun _ _ => rfl⟩ ⟨rfl, fun _ _ => rfl⟩ ⟨rfl⟩ ⟨rfl, fun _ _ => rfl⟩ ⟨rfl, fun _ _ => rfl⟩ rfl rfl rfl rfl rfl rfl rfl rfl rfl Try.func32 (by kernel_rfl) has32 low32 ress32 (Nat.le_of_ble_eq_true rfl))
noncomputable def T24 : Tab := T23.add 20 sp_played
theorem ok24 : TabOK Try.prog T24 := ok23.add (Sp.Body.ok ok23 (body_race_played (n1 := 31) (n2 := 32) ⟨rfl, fun _ _ => rfl⟩ ⟨rfl, fun _ _ => rfl⟩) Try.func20 (by kernel_rfl) has20 low20 ress20 (fun _ => Nat.le_of_ble_eq_true rfl))
noncomputable def T25 : Tab := T24.add 33 sp_ratomic
theorem ok25 : TabOK Try.prog T25 := ok24.add (Sp.Body.ok ok24 (body_race_atomic) Try.func33 (by kernel_rfl) has33 low33 ress33 (fun _ => Nat.le_of_ble_eq_true rfl))
noncomputable def T26 : Tab := T25.add 34 sp_Of
theorem ok26 : TabOK Try.prog T26 := ok25.add (Sp.Body.ok ok25 (body_rel_Of) Try.func34 (by kernel_rfl) has34 low34 ress34 (fun _ => Nat.le_of_ble_eq_true rfl))
noncomputable def T27 : Tab := T26.add 69 sp_all
theorem ok27 : TabOK Try.prog T27 := ok26.add (Sp.Body.ok ok26 (body_rel_all) Try.func69 (by kernel_rfl) has69 low69 ress69 (fun _ => Nat.le_of_ble_eq_true rfl))
noncomputable def T28 : Tab := T27.add 67 sp_row
theorem ok28 : TabOK Try.prog T28 := ok27.add (Sp.Body.ok ok27 (body_rel_row (n1 := 22) (n2 := 69) ⟨rfl, fun _ _ => rfl⟩ ⟨rfl, fun _ _ => rfl⟩) Try.func67 (by kernel_rfl) has67 low67 ress67 (fun _ => Nat.le_of_ble_eq_true rfl))
noncomputable def T29 : Tab := T28.add 54 (sp_h2 fstW)
theorem ok29 : TabOK Try.prog T29 := ok28.add (Sp.Body.ok ok28 (body_rel_Plus_1) Try.func54 (by kernel_rfl) has54 low54 ress54 (fun _ => Nat.le_of_ble_eq_true rfl))
noncomputable def T30 : Tab := T29.add 53 (sp_lay (hs1 54))
theorem ok30 : TabOK Try.prog T30 := ok29.add (Sp.Body.ok ok29 (bodyP_rel_lay (n1 := 22) (n2 := 67) (n_rel_Plus_1 := 54) ⟨rfl, fun _ _ => rfl⟩ ⟨rfl, fun _ _ => rfl⟩ ⟨rfl, fun _ _ => rfl⟩) Try.func53 (by kernel_rfl) has53 low53 ress53 (fun _ => Nat.le_of_ble_eq_true rfl))
noncomputable def T31 : Tab := T30.add 35 sp_Plus
theorem ok31 : TabOK Try.prog T31 := ok30.add (Sp.Body.ok ok30 (bodyP_rel_Plus (n1 := 53) (n2 := 54) (n_rel_Plus_1 := 54) ⟨rfl, fun _ _ => rfl⟩ rfl) Try.func35 (by kernel_rfl) has35 low35 ress35 (fun _ => Nat.le_of_ble_eq_true rfl))
noncomputable def T32 : Tab := T31.add 21 sp_ordered
theorem ok32 : TabOK Try.prog T32 := ok31.add (Sp.Body.ok ok31 (body_race_ordered (n1 := 33) (n2 := 34) (n3 := 35) ⟨rfl, fun _ _ => rfl⟩ ⟨rfl, fun _ _ => rfl⟩ ⟨rfl, fun _ _ => rfl⟩) Try.func21 (by kernel_rfl) has21 low21 ress21 (fun _ => Nat.le_of_ble_eq_true rfl))
noncomputable def T33 : Tab := T32.add 23 sp_rplain
theorem ok33 : TabOK Try.prog T33 := ok32.add (Sp.Body.ok ok32 (body_race_plain) Try.func23 (by kernel_rfl) has23 low23 ress23 (fun _ => Nat.le_of_ble_eq_true rfl))
noncomputable def T34 : Tab := T33.add 11 sp_Races
theorem ok34 : TabOK Try.prog T34 := ok33.add (Sp.Body.ok ok33 (body_race_Races (n1 := 10) (n2 := 20) (n3 := 21) (n4 := 23) ⟨rfl, fun _ _ => rfl⟩ ⟨rfl, fun _ _ => rfl⟩ ⟨rfl, fun _ _ => rfl⟩ ⟨rfl, fun _ _ => rfl⟩) Try.func11 (by kernel_rfl) has11 low11 ress11 (fun _ => Nat.le_of_ble_eq_true rfl))
noncomputable def T35 : Tab := T34.add 8 sp_true
theorem ok35 : TabOK Try.prog T35 := ok34.add (Sp.Body.ok ok34 (body_law22_awake (n1 := 11) ⟨rfl, fun _ _ => rfl⟩) Try.func8 (by kernel_rfl) has8 low8 ress8 (fun _ => Nat.le_of_ble_eq_true rfl))
noncomputable def T36 : Tab := T35.add 9 sp_rOrder
theorem ok36 : TabOK Try.prog T36 := ok35.add (Sp.Body.ok ok35 (body_race_Order (n1 := 20) (n2 := 21) ⟨rfl, fun _ _ => rfl⟩ ⟨rfl, fun _ _ => rfl⟩) Try.func9 (by kernel_rfl) has9 low9 ress9 (fun _ => Nat.le_of_ble_eq_true rfl))
noncomputable def T37 : Tab := T36.add 13 sp_fits22
theorem ok37 : TabOK Try.prog T37 := ok36.add (Sp.Body.ok ok36 (body_law22_fits) Try.func13 (by kernel_rfl) has13 low13 ress13 (fun _ => Nat.le_of_ble_eq_true rfl))
noncomputable def T38 : Tab := T37.add 24 sp_Last
theorem ok38 : TabOK Try.prog T38 := ok37.add (Sp.Body.ok ok37 (body_hist_Last) Try.func24 (by kernel_rfl) has24 low24 ress24 (fun _ => Nat.le_of_ble_eq_true rfl))
noncomputable def T39 : Tab := T38.add 14 sp_Weak
theorem ok39 : TabOK Try.prog T39 := ok38.add (Sp.Body.ok ok38 (body_race_Weak (n1 := 20) (n2 := 23) (n3 := 24) (n4 := 25) ⟨rfl, fun _ _ => rfl⟩ ⟨rfl, fun _ _ => rfl⟩ ⟨rfl, fun _ _ => rfl⟩ ⟨rfl, fun _ _ => rfl⟩) Try.func14 (by kernel_rfl) has14 low14 ress14 (fun _ => Nat.le_of_ble_eq_true rfl))
noncomputable def T40 : Tab := T39.add 55 sp_ratZero
theorem ok40 : TabOK Try.prog T40 := ok39.add (Sp.Body.ok ok39 (body_ref20_zero) Try.func55 (by kernel_rfl) has55 low55 ress55 (fun _ => Nat.le_of_ble_eq_true rfl))
noncomputable def T41 : Tab := T40.add 38 sp_rat_Right
theorem ok41 : TabOK Try.prog T41 := ok40.add (Sp.Body.ok ok40 (body_ref01_Right) Try.func38 (by kernel_rfl) has38 low38 ress38 (fun _ => Nat.le_of_ble_eq_true rfl))
noncomputable def T42 : Tab := T41.add 56 sp_rat_Least
theorem ok42 : TabOK Try.prog T42 := ok41.add (Sp.Body.ok ok41 (body_ref01_Least (n1 := 38) ⟨rfl, fun _ _ => rfl⟩) Try.func56 (by kernel_rfl) has56 low56 ress56 (fun _ => Nat.le_of_ble_eq_true rfl))
noncomputable def T43 : Tab := T42.add 28 sp_rat_Cmp
theorem ok43 : TabOK Try.prog T43 := ok42.add (Sp.Body.ok ok42 (body_ref01_Cmp (n1 := 38) ⟨rfl, fun _ _ => rfl⟩) Try.func28 (by kernel_rfl) has28 low28 ress28 (fun _ => Nat.le_of_ble_eq_true rfl))
noncomputable def T44 : Tab := T43.add 57 sp_rat_Max
theorem ok44 : TabOK Try.prog T44 := ok43.add (Sp.Body.ok ok43 (body_ref01_Max (n1 := 28) ⟨rfl, fun _ _ => rfl⟩) Try.func57 (by kernel_rfl) has57 low57 ress57 (fun _ => Nat.le_of_ble_eq_true rfl))
noncomputable def T45 : Tab := T44.add 40 (sp_Front 1000001)
theorem ok45 : TabOK Try.prog T45 := TabOK.recur (s := sp_Front) ok44 zero_ref20_Past_Front (fun K hT => Sp.Body.ok hT (body_ref20_Past_Front (K := K) (n0 := 40) (n1 := 55) (n2 := 56) (n3 := 57) ⟨rfl, fun _ _ => rfl⟩ ⟨rfl, fun _ _ => rfl⟩ ⟨rfl, fun _ _ => rfl⟩ ⟨rfl, fun _ _ => rfl⟩) Try.func40 (by kernel_rfl) has40 low40 ress40 (fun _ => Nat.le_of_ble_eq_true rfl)) 1000001
noncomputable def T46 : Tab := T45.add 39 sp_Value
theorem ok46 : TabOK Try.prog T46 := ok45.add (Sp.Body.ok ok45 (body_ref20_Past_Value) Try.func39 (by kernel_rfl) has39 low39 ress39 (fun _ => Nat.le_of_ble_eq_true rfl))
noncomputable def T47 : Tab := T46.add 37 sp_act_Right
theorem ok47 : TabOK Try.prog T47 := ok46.add (Sp.Body.ok ok46 (body_ref08_Right) Try.func37 (by kernel_rfl) has37 low37 ress37 (fun _ => Nat.le_of_ble_eq_true rfl))
noncomputable def T48 : Tab := T47.add 41 sp_writes
theorem ok48 : TabOK Try.prog T48 := ok47.add (Sp.Body.ok ok47 (body_ref20_Past_writes (n1 := 55) (n2 := 56) ⟨rfl, fun _ _ => rfl⟩ ⟨rfl, fun _ _ => rfl⟩) Try.func41 (by kernel_rfl) has41 low41 ress41 (fun _ => Nat.le_of_ble_eq_true rfl))
noncomputable def T49 : Tab := T48.add 26 sp_pastDo
theorem ok49 : TabOK Try.prog T49 := ok48.add (Sp.Body.ok ok48 (body_ref20_Past_Do (n1 := 40) (n2 := 39) (n3 := 37) (n4 := 38) (n5 := 41) (n6 := 28) ⟨rfl, fun _ _ => rfl⟩ ⟨rfl, fun _ _ => rfl⟩ ⟨rfl, fun _ _ => rfl⟩ ⟨rfl, fun _ _ => rfl⟩ ⟨rfl, fun _ _ => rfl⟩ ⟨rfl, fun _ _ => rfl⟩) Try.func26 (by kernel_rfl) has26 low26 ress26 (fun _ => Nat.le_of_ble_eq_true rfl))
noncomputable def T50 : Tab := T49.add 15 sp_Played22
theorem ok50 : TabOK Try.prog T50 := ok49.add (Sp.Body.ok ok49 (body_ref22_Played (n1 := 26) ⟨rfl, fun _ _ => rfl⟩) Try.func15 (by kernel_rfl) has15 low15 ress15 (fun _ => Nat.le_of_ble_eq_true rfl))
noncomputable def T51 : Tab := T50.add 27 sp_Written
theorem ok51 : TabOK Try.prog T51 := ok50.add (Sp.Body.ok ok50 (body_ref20_Past_Written (n1 := 41) (n2 := 28) ⟨rfl, fun _ _ => rfl⟩ ⟨rfl, fun _ _ => rfl⟩) Try.func27 (by kernel_rfl) has27 low27 ress27 (fun _ => Nat.le_of_ble_eq_true rfl))
noncomputable def T52 : Tab := T51.add 16 sp_Weak22
theorem ok52 : TabOK Try.prog T52 := ok51.add (Sp.Body.ok ok51 (body_ref22_Weak (n1 := 27) (n2 := 28) ⟨rfl, fun _ _ => rfl⟩ ⟨rfl, fun _ _ => rfl⟩) Try.func16 (by kernel_rfl) has16 low16 ress16 (fun _ => Nat.le_of_ble_eq_true rfl))
noncomputable def T53 : Tab := T52.add 29 sp_direct
theorem ok53 : TabOK Try.prog T53 := ok52.add (Sp.Body.ok ok52 (body_ref22_direct) Try.func29 (by kernel_rfl) has29 low29 ress29 (fun _ => Nat.le_of_ble_eq_true rfl))
noncomputable def T54 : Tab := T53.add 17 sp_Behind
theorem ok54 : TabOK Try.prog T54 := ok53.add (Sp.Body.ok ok53 (body_ref22_Behind (n1 := 29) ⟨rfl, fun _ _ => rfl⟩) Try.func17 (by kernel_rfl) has17 low17 ress17 (fun _ => Nat.le_of_ble_eq_true rfl))
noncomputable def T55 : Tab := T54.add 18 sp_Race22
theorem ok55 : TabOK Try.prog T55 := ok54.add (Sp.Body.ok ok54 (body_ref22_Race (n1 := 17) ⟨rfl, fun _ _ => rfl⟩) Try.func18 (by kernel_rfl) has18 low18 ress18 (fun _ => Nat.le_of_ble_eq_true rfl))
noncomputable abbrev TT : Tab := T55
theorem okT : TabOK Try.prog TT := ok55
/-- The law RaceAll, from its body. -/
theorem acalls_RaceAll {args : List AV} (ha : args.length ≤ Try.f5.ntmps) (h : Holds TT V_law22_RaceAll (L_law22_RaceAll 8 9 10 11 13 14 15 16 17 18) R_law22_RaceAll args) : ACalls Try.prog 5 args [] fun r _ => r = .d (.bool true) :=
  ACalls.of_vck okT V_law22_RaceAll Try.func5 (by kernel_rfl) has5 low5 ress5 ha h
end Go.Proofs.Ytngkcfdkeliedaa
