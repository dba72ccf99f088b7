/- The functions of this cut as the abstract machine has them, and the table of their contracts. Conditions: none. -/
import Derived.Test.YtmolmchdnpekaaaDoorChecked
import Derived.Test.YtmolmchdnpekaaaDoorAgoP7
import Derived.Test.YtmolmchdnpekaaaDoorAgoTied
set_option maxRecDepth 100000
set_option linter.unusedVariables false
namespace Go.Proofs.YtmolmchdnpekaaaDoor
open Go Go.Ago
theorem low10 : lowCode Tryd.prog Tryd.f10.ntmps (Tryd.f10.body.getD .skip) = some (L_rel_Of) := by kernel_rfl
theorem ress10 : lowRess Tryd.prog Tryd.f10.results.toList = some R_rel_Of := by kernel_rfl
theorem has10 : Tryd.f10.body = some (Tryd.f10.body.getD .skip) := by kernel_rfl
theorem low35 : lowCode Tryd.prog Tryd.f35.ntmps (Tryd.f35.body.getD .skip) = some (L_rel_size) := by kernel_rfl
theorem ress35 : lowRess Tryd.prog Tryd.f35.results.toList = some R_rel_size := by kernel_rfl
theorem has35 : Tryd.f35.body = some (Tryd.f35.body.getD .skip) := by kernel_rfl
theorem low45 : lowCode Tryd.prog Tryd.f45.ntmps (Tryd.f45.body.getD .skip) = some (L_rel_all) := by kernel_rfl
theorem ress45 : lowRess Tryd.prog Tryd.f45.results.toList = some R_rel_all := by kernel_rfl
theorem has45 : Tryd.f45.body = some (Tryd.f45.body.getD .skip) := by kernel_rfl
theorem low36 : lowCode Tryd.prog Tryd.f36.ntmps (Tryd.f36.body.getD .skip) = some (L_rel_row 35 45) := by kernel_rfl
theorem ress36 : lowRess Tryd.prog Tryd.f36.results.toList = some R_rel_row := by kernel_rfl
theorem has36 : Tryd.f36.body = some (Tryd.f36.body.getD .skip) := by kernel_rfl
theorem low37 : lowCode Tryd.prog Tryd.f37.ntmps (Tryd.f37.body.getD .skip) = some (L_math_bits_TrailingZeros64) := by kernel_rfl
theorem ress37 : lowRess Tryd.prog Tryd.f37.results.toList = some R_math_bits_TrailingZeros64 := by kernel_rfl
theorem has37 : Tryd.f37.body = some (Tryd.f37.body.getD .skip) := by kernel_rfl
theorem low17 : lowCode Tryd.prog Tryd.f17.ntmps (Tryd.f17.body.getD .skip) = some (L_rel_Back 35 36 37) := by kernel_rfl
theorem ress17 : lowRess Tryd.prog Tryd.f17.results.toList = some R_rel_Back := by kernel_rfl
theorem has17 : Tryd.f17.body = some (Tryd.f17.body.getD .skip) := by kernel_rfl
theorem low14 : lowCode Tryd.prog Tryd.f14.ntmps (Tryd.f14.body.getD .skip) = some (L_rel_Order 17) := by kernel_rfl
theorem ress14 : lowRess Tryd.prog Tryd.f14.results.toList = some R_rel_Order := by kernel_rfl
theorem has14 : Tryd.f14.body = some (Tryd.f14.body.getD .skip) := by kernel_rfl
theorem low16 : lowCode Tryd.prog Tryd.f16.ntmps (Tryd.f16.body.getD .skip) = some (L_rel_Has 35) := by kernel_rfl
theorem ress16 : lowRess Tryd.prog Tryd.f16.results.toList = some R_rel_Has := by kernel_rfl
theorem has16 : Tryd.f16.body = some (Tryd.f16.body.getD .skip) := by kernel_rfl
theorem low40 : lowCode Tryd.prog Tryd.f40.ntmps (Tryd.f40.body.getD .skip) = some (L_rel_Union_1) := by kernel_rfl
theorem ress40 : lowRess Tryd.prog Tryd.f40.results.toList = some R_rel_Union_1 := by kernel_rfl
theorem has40 : Tryd.f40.body = some (Tryd.f40.body.getD .skip) := by kernel_rfl
theorem low43 : lowCode Tryd.prog Tryd.f43.ntmps (Tryd.f43.body.getD .skip) = some (L_rel_Inter_1) := by kernel_rfl
theorem ress43 : lowRess Tryd.prog Tryd.f43.results.toList = some R_rel_Inter_1 := by kernel_rfl
theorem has43 : Tryd.f43.body = some (Tryd.f43.body.getD .skip) := by kernel_rfl
theorem low41 : lowCode Tryd.prog Tryd.f41.ntmps (Tryd.f41.body.getD .skip) = some (L_rel_Minus_1) := by kernel_rfl
theorem ress41 : lowRess Tryd.prog Tryd.f41.results.toList = some R_rel_Minus_1 := by kernel_rfl
theorem has41 : Tryd.f41.body = some (Tryd.f41.body.getD .skip) := by kernel_rfl
theorem low39 : lowCode Tryd.prog Tryd.f39.ntmps (Tryd.f39.body.getD .skip) = some (L_rel_Plus_1) := by kernel_rfl
theorem ress39 : lowRess Tryd.prog Tryd.f39.results.toList = some R_rel_Plus_1 := by kernel_rfl
theorem has39 : Tryd.f39.body = some (Tryd.f39.body.getD .skip) := by kernel_rfl
theorem low38 : lowCode Tryd.prog Tryd.f38.ntmps (Tryd.f38.body.getD .skip) = some (L_rel_lay 35 36) := by kernel_rfl
theorem ress38 : lowRess Tryd.prog Tryd.f38.results.toList = some R_rel_lay := by kernel_rfl
theorem has38 : Tryd.f38.body = some (Tryd.f38.body.getD .skip) := by kernel_rfl
theorem low18 : lowCode Tryd.prog Tryd.f18.ntmps (Tryd.f18.body.getD .skip) = some (L_rel_Plus 38 39) := by kernel_rfl
theorem ress18 : lowRess Tryd.prog Tryd.f18.results.toList = some R_rel_Plus := by kernel_rfl
theorem has18 : Tryd.f18.body = some (Tryd.f18.body.getD .skip) := by kernel_rfl
theorem low9 : lowCode Tryd.prog Tryd.f9.ntmps (Tryd.f9.body.getD .skip) = some (L_law02_awake 10 14 16 18) := by kernel_rfl
theorem ress9 : lowRess Tryd.prog Tryd.f9.results.toList = some R_law02_awake := by kernel_rfl
theorem has9 : Tryd.f9.body = some (Tryd.f9.body.getD .skip) := by kernel_rfl
theorem low44 : lowCode Tryd.prog Tryd.f44.ntmps (Tryd.f44.body.getD .skip) = some (L_ref02_Size) := by kernel_rfl
theorem ress44 : lowRess Tryd.prog Tryd.f44.results.toList = some R_ref02_Size := by kernel_rfl
theorem has44 : Tryd.f44.body = some (Tryd.f44.body.getD .skip) := by kernel_rfl
theorem low26 : lowCode Tryd.prog Tryd.f26.ntmps (Tryd.f26.body.getD .skip) = some (L_ref02_Has 44) := by kernel_rfl
theorem ress26 : lowRess Tryd.prog Tryd.f26.results.toList = some R_ref02_Has := by kernel_rfl
theorem has26 : Tryd.f26.body = some (Tryd.f26.body.getD .skip) := by kernel_rfl
theorem low34 : lowCode Tryd.prog Tryd.f34.ntmps (Tryd.f34.body.getD .skip) = some (L_ref02_Put 26) := by kernel_rfl
theorem ress34 : lowRess Tryd.prog Tryd.f34.results.toList = some R_ref02_Put := by kernel_rfl
theorem has34 : Tryd.f34.body = some (Tryd.f34.body.getD .skip) := by kernel_rfl
theorem low11 : lowCode Tryd.prog Tryd.f11.ntmps (Tryd.f11.body.getD .skip) = some (L_ref02_Of 34) := by kernel_rfl
theorem ress11 : lowRess Tryd.prog Tryd.f11.results.toList = some R_ref02_Of := by kernel_rfl
theorem has11 : Tryd.f11.body = some (Tryd.f11.body.getD .skip) := by kernel_rfl
theorem low12 : lowCode Tryd.prog Tryd.f12.ntmps (Tryd.f12.body.getD .skip) = some (L_ref02_Same) := by kernel_rfl
theorem ress12 : lowRess Tryd.prog Tryd.f12.results.toList = some R_ref02_Same := by kernel_rfl
theorem has12 : Tryd.f12.body = some (Tryd.f12.body.getD .skip) := by kernel_rfl
theorem low3 : lowCode Tryd.prog Tryd.f3.ntmps (Tryd.f3.body.getD .skip) = some (L_law02_RelOf 9 10 11 12) := by kernel_rfl
theorem ress3 : lowRess Tryd.prog Tryd.f3.results.toList = some R_law02_RelOf := by kernel_rfl
theorem has3 : Tryd.f3.body = some (Tryd.f3.body.getD .skip) := by kernel_rfl
theorem low22 : lowCode Tryd.prog Tryd.f22.ntmps (Tryd.f22.body.getD .skip) = some (L_ref02_Copy) := by kernel_rfl
theorem ress22 : lowRess Tryd.prog Tryd.f22.results.toList = some R_ref02_Copy := by kernel_rfl
theorem has22 : Tryd.f22.body = some (Tryd.f22.body.getD .skip) := by kernel_rfl
theorem low13 : lowCode Tryd.prog Tryd.f13.ntmps (Tryd.f13.body.getD .skip) = some (L_law02_few 22) := by kernel_rfl
theorem ress13 : lowRess Tryd.prog Tryd.f13.results.toList = some R_law02_few := by kernel_rfl
theorem has13 : Tryd.f13.body = some (Tryd.f13.body.getD .skip) := by kernel_rfl
theorem low15 : lowCode Tryd.prog Tryd.f15.ntmps (Tryd.f15.body.getD .skip) = some (L_rel_Ring 18) := by kernel_rfl
theorem ress15 : lowRess Tryd.prog Tryd.f15.results.toList = some R_rel_Ring := by kernel_rfl
theorem has15 : Tryd.f15.body = some (Tryd.f15.body.getD .skip) := by kernel_rfl
theorem low4 : lowCode Tryd.prog Tryd.f4.ntmps (Tryd.f4.body.getD .skip) = some (L_law02_RelOrder 9 13 14 15 16) := by kernel_rfl
theorem ress4 : lowRess Tryd.prog Tryd.f4.results.toList = some R_law02_RelOrder := by kernel_rfl
theorem has4 : Tryd.f4.body = some (Tryd.f4.body.getD .skip) := by kernel_rfl
theorem low19 : lowCode Tryd.prog Tryd.f19.ntmps (Tryd.f19.body.getD .skip) = some (L_rel_Union 38 40) := by kernel_rfl
theorem ress19 : lowRess Tryd.prog Tryd.f19.results.toList = some R_rel_Union := by kernel_rfl
theorem has19 : Tryd.f19.body = some (Tryd.f19.body.getD .skip) := by kernel_rfl
theorem low5 : lowCode Tryd.prog Tryd.f5.ntmps (Tryd.f5.body.getD .skip) = some (L_law02_RelTurned 9 12 13 15 17 18 19) := by kernel_rfl
theorem ress5 : lowRess Tryd.prog Tryd.f5.results.toList = some R_law02_RelTurned := by kernel_rfl
theorem has5 : Tryd.f5.body = some (Tryd.f5.body.getD .skip) := by kernel_rfl
theorem low20 : lowCode Tryd.prog Tryd.f20.ntmps (Tryd.f20.body.getD .skip) = some (L_rel_Then 35 36 37) := by kernel_rfl
theorem ress20 : lowRess Tryd.prog Tryd.f20.results.toList = some R_rel_Then := by kernel_rfl
theorem has20 : Tryd.f20.body = some (Tryd.f20.body.getD .skip) := by kernel_rfl
theorem low21 : lowCode Tryd.prog Tryd.f21.ntmps (Tryd.f21.body.getD .skip) = some (L_rel_Minus 38 41) := by kernel_rfl
theorem ress21 : lowRess Tryd.prog Tryd.f21.results.toList = some R_rel_Minus := by kernel_rfl
theorem has21 : Tryd.f21.body = some (Tryd.f21.body.getD .skip) := by kernel_rfl
theorem low6 : lowCode Tryd.prog Tryd.f6.ntmps (Tryd.f6.body.getD .skip) = some (L_law02_RelLaws 9 12 13 17 18 19 20 21) := by kernel_rfl
theorem ress6 : lowRess Tryd.prog Tryd.f6.results.toList = some R_law02_RelLaws := by kernel_rfl
theorem has6 : Tryd.f6.body = some (Tryd.f6.body.getD .skip) := by kernel_rfl
theorem low42 : lowCode Tryd.prog Tryd.f42.ntmps (Tryd.f42.body.getD .skip) = some (L_ref02_most 44) := by kernel_rfl
theorem ress42 : lowRess Tryd.prog Tryd.f42.results.toList = some R_ref02_most := by kernel_rfl
theorem has42 : Tryd.f42.body = some (Tryd.f42.body.getD .skip) := by kernel_rfl
theorem low23 : lowCode Tryd.prog Tryd.f23.ntmps (Tryd.f23.body.getD .skip) = some (L_ref02_Lay 26 34 42) := by kernel_rfl
theorem ress23 : lowRess Tryd.prog Tryd.f23.results.toList = some R_ref02_Lay := by kernel_rfl
theorem has23 : Tryd.f23.body = some (Tryd.f23.body.getD .skip) := by kernel_rfl
theorem low24 : lowCode Tryd.prog Tryd.f24.ntmps (Tryd.f24.body.getD .skip) = some (L_rel_Inter 38 43) := by kernel_rfl
theorem ress24 : lowRess Tryd.prog Tryd.f24.results.toList = some R_rel_Inter := by kernel_rfl
theorem has24 : Tryd.f24.body = some (Tryd.f24.body.getD .skip) := by kernel_rfl
theorem low25 : lowCode Tryd.prog Tryd.f25.ntmps (Tryd.f25.body.getD .skip) = some (L_ref02_Then 26 34 42) := by kernel_rfl
theorem ress25 : lowRess Tryd.prog Tryd.f25.results.toList = some R_ref02_Then := by kernel_rfl
theorem has25 : Tryd.f25.body = some (Tryd.f25.body.getD .skip) := by kernel_rfl
theorem low27 : lowCode Tryd.prog Tryd.f27.ntmps (Tryd.f27.body.getD .skip) = some (L_ref02_Back 26 34 44) := by kernel_rfl
theorem ress27 : lowRess Tryd.prog Tryd.f27.results.toList = some R_ref02_Back := by kernel_rfl
theorem has27 : Tryd.f27.body = some (Tryd.f27.body.getD .skip) := by kernel_rfl
theorem low7 : lowCode Tryd.prog Tryd.f7.ntmps (Tryd.f7.body.getD .skip) = some (L_law02_RelAll 9 12 13 16 17 19 20 21 22 23 24 25 26 27) := by kernel_rfl
theorem ress7 : lowRess Tryd.prog Tryd.f7.results.toList = some R_law02_RelAll := by kernel_rfl
theorem has7 : Tryd.f7.body = some (Tryd.f7.body.getD .skip) := by kernel_rfl
theorem low28 : lowCode Tryd.prog Tryd.f28.ntmps (Tryd.f28.body.getD .skip) = some (L_ref02_Order 26 44) := by kernel_rfl
theorem ress28 : lowRess Tryd.prog Tryd.f28.results.toList = some R_ref02_Order := by kernel_rfl
theorem has28 : Tryd.f28.body = some (Tryd.f28.body.getD .skip) := by kernel_rfl
theorem low29 : lowCode Tryd.prog Tryd.f29.ntmps (Tryd.f29.body.getD .skip) = some (L_ref02_Plus 26 34 44) := by kernel_rfl
theorem ress29 : lowRess Tryd.prog Tryd.f29.results.toList = some R_ref02_Plus := by kernel_rfl
theorem has29 : Tryd.f29.body = some (Tryd.f29.body.getD .skip) := by kernel_rfl
theorem low30 : lowCode Tryd.prog Tryd.f30.ntmps (Tryd.f30.body.getD .skip) = some (L_rel_Star 18) := by kernel_rfl
theorem ress30 : lowRess Tryd.prog Tryd.f30.results.toList = some R_rel_Star := by kernel_rfl
theorem has30 : Tryd.f30.body = some (Tryd.f30.body.getD .skip) := by kernel_rfl
theorem low31 : lowCode Tryd.prog Tryd.f31.ntmps (Tryd.f31.body.getD .skip) = some (L_ref02_Star 29 34) := by kernel_rfl
theorem ress31 : lowRess Tryd.prog Tryd.f31.results.toList = some R_ref02_Star := by kernel_rfl
theorem has31 : Tryd.f31.body = some (Tryd.f31.body.getD .skip) := by kernel_rfl
theorem low32 : lowCode Tryd.prog Tryd.f32.ntmps (Tryd.f32.body.getD .skip) = some (L_ref02_Ring 26 29) := by kernel_rfl
theorem ress32 : lowRess Tryd.prog Tryd.f32.results.toList = some R_ref02_Ring := by kernel_rfl
theorem has32 : Tryd.f32.body = some (Tryd.f32.body.getD .skip) := by kernel_rfl
theorem low33 : lowCode Tryd.prog Tryd.f33.ntmps (Tryd.f33.body.getD .skip) = some (L_ref02_SameInts) := by kernel_rfl
theorem ress33 : lowRess Tryd.prog Tryd.f33.results.toList = some R_ref02_SameInts := by kernel_rfl
theorem has33 : Tryd.f33.body = some (Tryd.f33.body.getD .skip) := by kernel_rfl
theorem low8 : lowCode Tryd.prog Tryd.f8.ntmps (Tryd.f8.body.getD .skip) = some (L_law02_RelWays 9 12 13 14 15 18 28 29 30 31 32 33) := by kernel_rfl
theorem ress8 : lowRess Tryd.prog Tryd.f8.results.toList = some R_law02_RelWays := by kernel_rfl
theorem has8 : Tryd.f8.body = some (Tryd.f8.body.getD .skip) := by kernel_rfl
noncomputable def T0 : Tab := Tab.none
theorem ok0 : TabOK Tryd.prog T0 := TabOK.none
noncomputable def T1 : Tab := T0.add 10 sp_Of
theorem ok1 : TabOK Tryd.prog T1 := ok0.add (Sp.Body.ok ok0 (body_rel_Of) Tryd.func10 (by kernel_rfl) has10 low10 ress10 (fun _ => Nat.le_of_ble_eq_true rfl))
noncomputable def T2 : Tab := T1.add 35 sp_size
theorem ok2 : TabOK Tryd.prog T2 := ok1.add (Sp.Body.ok ok1 (body_rel_size) Tryd.func35 (by kernel_rfl) has35 low35 ress35 (fun _ => Nat.le_of_ble_eq_true rfl))
noncomputable def T3 : Tab := T2.add 45 sp_all
theorem ok3 : TabOK Tryd.prog T3 := ok2.add (Sp.Body.ok ok2 (body_rel_all) Tryd.func45 (by kernel_rfl) has45 low45 ress45 (fun _ => Nat.le_of_ble_eq_true rfl))
noncomputable def T4 : Tab := T3.add 36 sp_row
theorem ok4 : TabOK Tryd.prog T4 := ok3.add (Sp.Body.ok ok3 (body_rel_row (n1 := 35) (n2 := 45) ⟨rfl, fun _ _ => rfl⟩ ⟨rfl, fun _ _ => rfl⟩) Tryd.func36 (by kernel_rfl) has36 low36 ress36 (fun _ => Nat.le_of_ble_eq_true rfl))
noncomputable def T5 : Tab := T4.add 37 sp_tz
theorem ok5 : TabOK Tryd.prog T5 := ok4.add (Sp.Body.ok ok4 (body_math_bits_TrailingZeros64) Tryd.func37 (by kernel_rfl) has37 low37 ress37 (fun _ => Nat.le_of_ble_eq_true rfl))
noncomputable def T6 : Tab := T5.add 17 sp_Back
theorem ok6 : TabOK Tryd.prog T6 := ok5.add (Sp.Body.ok ok5 (body_rel_Back (n1 := 35) (n2 := 36) (n3 := 37) ⟨rfl, fun _ _ => rfl⟩ ⟨rfl, fun _ _ => rfl⟩ ⟨rfl, fun _ _ => rfl⟩) Tryd.func17 (by kernel_rfl) has17 low17 ress17 (fun _ => Nat.le_of_ble_eq_true rfl))
noncomputable def T7 : Tab := T6.add 14 sp_Order
theorem ok7 : TabOK Tryd.prog T7 := ok6.add (Sp.Body.ok ok6 (body_rel_Order (n1 := 17) ⟨rfl, fun _ _ => rfl⟩) Tryd.func14 (by kernel_rfl) has14 low14 ress14 (fun _ => Nat.le_of_ble_eq_true rfl))
noncomputable def T8 : Tab := T7.add 16 sp_Has
theorem ok8 : TabOK Tryd.prog T8 := ok7.add (Sp.Body.ok ok7 (body_rel_Has (n1 := 35) ⟨rfl, fun _ _ => rfl⟩) Tryd.func16 (by kernel_rfl) has16 low16 ress16 (fun _ => Nat.le_of_ble_eq_true rfl))
noncomputable def T9 : Tab := T8.add 40 (sp_h2 orW)
theorem ok9 : TabOK Tryd.prog T9 := ok8.add (Sp.Body.ok ok8 (body_rel_Union_1) Tryd.func40 (by kernel_rfl) has40 low40 ress40 (fun _ => Nat.le_of_ble_eq_true rfl))
noncomputable def T10 : Tab := T9.add 43 (sp_h2 andW)
theorem ok10 : TabOK Tryd.prog T10 := ok9.add (Sp.Body.ok ok9 (body_rel_Inter_1) Tryd.func43 (by kernel_rfl) has43 low43 ress43 (fun _ => Nat.le_of_ble_eq_true rfl))
noncomputable def T11 : Tab := T10.add 41 (sp_h2 minusW)
theorem ok11 : TabOK Tryd.prog T11 := ok10.add (Sp.Body.ok ok10 (body_rel_Minus_1) Tryd.func41 (by kernel_rfl) has41 low41 ress41 (fun _ => Nat.le_of_ble_eq_true rfl))
noncomputable def T12 : Tab := T11.add 39 (sp_h2 fstW)
theorem ok12 : TabOK Tryd.prog T12 := ok11.add (Sp.Body.ok ok11 (body_rel_Plus_1) Tryd.func39 (by kernel_rfl) has39 low39 ress39 (fun _ => Nat.le_of_ble_eq_true rfl))
noncomputable def T13 : Tab := T12.add 38 (sp_lay (hs4 40 43 41 39))
theorem ok13 : TabOK Tryd.prog T13 := ok12.add (Sp.Body.ok ok12 (body_rel_lay (n1 := 35) (n2 := 36) (n_rel_Union_1 := 40) (n_rel_Inter_1 := 43) (n_rel_Minus_1 := 41) (n_rel_Plus_1 := 39) ⟨rfl, fun _ _ => rfl⟩ ⟨rfl, fun _ _ => rfl⟩ ⟨rfl, fun _ _ => rfl⟩ ⟨rfl, fun _ _ => rfl⟩ ⟨rfl, fun _ _ => rfl⟩ ⟨rfl, fun _ _ => rfl⟩) Tryd.func38 (by kernel_rfl) has38 low38 ress38 (fun _ => Nat.le_of_ble_eq_true rfl))
noncomputable def T14 : Tab := T13.add 18 sp_Plus
theorem ok14 : TabOK Tryd.prog T14 := ok13.add (Sp.Body.ok ok13 (body_rel_Plus (n1 := 38) (n2 := 39) (n_rel_Union_1 := 40) (n_rel_Inter_1 := 43) (n_rel_Minus_1 := 41) (n_rel_Plus_1 := 39) ⟨rfl, fun _ _ => rfl⟩ rfl) Tryd.func18 (by kernel_rfl) has18 low18 ress18 (fun _ => Nat.le_of_ble_eq_true rfl))
noncomputable def T15 : Tab := T14.add 9 sp_true
theorem ok15 : TabOK Tryd.prog T15 := ok14.add (Sp.Body.ok ok14 (body_law02_awake (n1 := 10) (n2 := 14) (n3 := 16) (n4 := 18) ⟨rfl, fun _ _ => rfl⟩ ⟨rfl, fun _ _ => rfl⟩ ⟨rfl, fun _ _ => rfl⟩ ⟨rfl, fun _ _ => rfl⟩) Tryd.func9 (by kernel_rfl) has9 low9 ress9 (fun _ => Nat.le_of_ble_eq_true rfl))
noncomputable def T16 : Tab := T15.add 44 sp_size
theorem ok16 : TabOK Tryd.prog T16 := ok15.add (Sp.Body.ok ok15 (body_ref02_Size) Tryd.func44 (by kernel_rfl) has44 low44 ress44 (fun _ => Nat.le_of_ble_eq_true rfl))
noncomputable def T17 : Tab := T16.add 26 sp_Has
theorem ok17 : TabOK Tryd.prog T17 := ok16.add (Sp.Body.ok ok16 (body_ref02_Has (n1 := 44) ⟨rfl, fun _ _ => rfl⟩) Tryd.func26 (by kernel_rfl) has26 low26 ress26 (fun _ => Nat.le_of_ble_eq_true rfl))
noncomputable def T18 : Tab := T17.addG 34 ef_Put.at
theorem ok18 : TabOK Tryd.prog T18 := ok17.addG (Ef.Body.ok ok17 (eff_ref02_Put (n1 := 26) ⟨rfl, fun _ _ => rfl⟩) Tryd.func34 (by kernel_rfl) has34 low34 ress34 (fun _ => Nat.le_of_ble_eq_true rfl))
noncomputable def T19 : Tab := T18.add 11 sp_Of
theorem ok19 : TabOK Tryd.prog T19 := ok18.add (Sp.Body.ok ok18 (body_ref02_Of (n1 := 34) ⟨rfl⟩) Tryd.func11 (by kernel_rfl) has11 low11 ress11 (fun _ => Nat.le_of_ble_eq_true rfl))
noncomputable def T20 : Tab := T19.add 12 sp_sameW
theorem ok20 : TabOK Tryd.prog T20 := ok19.add (Sp.Body.ok ok19 (body_ref02_Same) Tryd.func12 (by kernel_rfl) has12 low12 ress12 (fun _ => Nat.le_of_ble_eq_true rfl))
noncomputable def T21 : Tab := T20.add 22 sp_copyW
theorem ok21 : TabOK Tryd.prog T21 := ok20.add (Sp.Body.ok ok20 (body_ref02_Copy) Tryd.func22 (by kernel_rfl) has22 low22 ress22 (fun _ => Nat.le_of_ble_eq_true rfl))
noncomputable def T22 : Tab := T21.add 13 sp_few
theorem ok22 : TabOK Tryd.prog T22 := ok21.add (Sp.Body.ok ok21 (body_law02_few (n1 := 22) ⟨rfl, fun _ _ => rfl⟩) Tryd.func13 (by kernel_rfl) has13 low13 ress13 (fun _ => Nat.le_of_ble_eq_true rfl))
noncomputable def T23 : Tab := T22.add 15 sp_Ring
theorem ok23 : TabOK Tryd.prog T23 := ok22.add (Sp.Body.ok ok22 (body_rel_Ring (n1 := 18) ⟨rfl, fun _ _ => rfl⟩) Tryd.func15 (by kernel_rfl) has15 low15 ress15 (fun _ => Nat.le_of_ble_eq_true rfl))
noncomputable def T24 : Tab := T23.add 19 (sp_lay2 qOr)
theorem ok24 : TabOK Tryd.prog T24 := ok23.add (Sp.Body.ok ok23 (body_rel_Union (n1 := 38) (n2 := 40) (n_rel_Union_1 := 40) (n_rel_Inter_1 := 43) (n_rel_Minus_1 := 41) (n_rel_Plus_1 := 39) ⟨rfl, fun _ _ => rfl⟩ rfl) Tryd.func19 (by kernel_rfl) has19 low19 ress19 (fun _ => Nat.le_of_ble_eq_true rfl))
noncomputable def T25 : Tab := T24.add 20 sp_Then
theorem ok25 : TabOK Tryd.prog T25 := ok24.add (Sp.Body.ok ok24 (body_rel_Then (n1 := 35) (n2 := 36) (n3 := 37) ⟨rfl, fun _ _ => rfl⟩ ⟨rfl, fun _ _ => rfl⟩ ⟨rfl, fun _ _ => rfl⟩) Tryd.func20 (by kernel_rfl) has20 low20 ress20 (fun _ => Nat.le_of_ble_eq_true rfl))
noncomputable def T26 : Tab := T25.add 21 (sp_lay2 qMinus)
theorem ok26 : TabOK Tryd.prog T26 := ok25.add (Sp.Body.ok ok25 (body_rel_Minus (n1 := 38) (n2 := 41) (n_rel_Union_1 := 40) (n_rel_Inter_1 := 43) (n_rel_Minus_1 := 41) (n_rel_Plus_1 := 39) ⟨rfl, fun _ _ => rfl⟩ rfl) Tryd.func21 (by kernel_rfl) has21 low21 ress21 (fun _ => Nat.le_of_ble_eq_true rfl))
noncomputable def T27 : Tab := T26.add 42 sp_most
theorem ok27 : TabOK Tryd.prog T27 := ok26.add (Sp.Body.ok ok26 (body_ref02_most (n1 := 44) ⟨rfl, fun _ _ => rfl⟩) Tryd.func42 (by kernel_rfl) has42 low42 ress42 (fun _ => Nat.le_of_ble_eq_true rfl))
noncomputable def T28 : Tab := T27.add 23 sp_layR
theorem ok28 : TabOK Tryd.prog T28 := ok27.add (Sp.Body.ok ok27 (body_ref02_Lay (n1 := 26) (n2 := 34) (n3 := 42) ⟨rfl, fun _ _ => rfl⟩ ⟨rfl⟩ ⟨rfl, fun _ _ => rfl⟩) Tryd.func23 (by kernel_rfl) has23 low23 ress23 (fun _ => Nat.le_of_ble_eq_true rfl))
noncomputable def T29 : Tab := T28.add 24 (sp_lay2 qAnd)
theorem ok29 : TabOK Tryd.prog T29 := ok28.add (Sp.Body.ok ok28 (body_rel_Inter (n1 := 38) (n2 := 43) (n_rel_Union_1 := 40) (n_rel_Inter_1 := 43) (n_rel_Minus_1 := 41) (n_rel_Plus_1 := 39) ⟨rfl, fun _ _ => rfl⟩ rfl) Tryd.func24 (by kernel_rfl) has24 low24 ress24 (fun _ => Nat.le_of_ble_eq_true rfl))
noncomputable def T30 : Tab := T29.add 25 sp_Then
theorem ok30 : TabOK Tryd.prog T30 := ok29.add (Sp.Body.ok ok29 (body_ref02_Then (n1 := 26) (n2 := 34) (n3 := 42) ⟨rfl, fun _ _ => rfl⟩ ⟨rfl⟩ ⟨rfl, fun _ _ => rfl⟩) Tryd.func25 (by kernel_rfl) has25 low25 ress25 (fun _ => Nat.le_of_ble_eq_true rfl))
noncomputable def T31 : Tab := T30.add 27 sp_Back
theorem ok31 : TabOK Tryd.prog T31 := ok30.add (Sp.Body.ok ok30 (body_ref02_Back (n1 := 26) (n2 := 34) (n3 := 44) ⟨rfl, fun _ _ => rfl⟩ ⟨rfl⟩ ⟨rfl, fun _ _ => rfl⟩) Tryd.func27 (by kernel_rfl) has27 low27 ress27 (fun _ => Nat.le_of_ble_eq_true rfl))
noncomputable def T32 : Tab := T31.add 28 sp_Order
theorem ok32 : TabOK Tryd.prog T32 := ok31.add (Sp.Body.ok ok31 (body_ref02_Order (n1 := 26) (n2 := 44) ⟨rfl, fun _ _ => rfl⟩ ⟨rfl, fun _ _ => rfl⟩) Tryd.func28 (by kernel_rfl) has28 low28 ress28 (fun _ => Nat.le_of_ble_eq_true rfl))
noncomputable def T33 : Tab := T32.add 29 sp_Plus
theorem ok33 : TabOK Tryd.prog T33 := ok32.add (Sp.Body.ok ok32 (body_ref02_Plus (n1 := 26) (n2 := 34) (n3 := 44) ⟨rfl, fun _ _ => rfl⟩ ⟨rfl⟩ ⟨rfl, fun _ _ => rfl⟩) Tryd.func29 (by kernel_rfl) has29 low29 ress29 (fun _ => Nat.le_of_ble_eq_true rfl))
noncomputable def T34 : Tab := T33.add 30 sp_Star
theorem ok34 : TabOK Tryd.prog T34 := ok33.add (Sp.Body.ok ok33 (body_rel_Star (n1 := 18) ⟨rfl, fun _ _ => rfl⟩) Tryd.func30 (by kernel_rfl) has30 low30 ress30 (fun _ => Nat.le_of_ble_eq_true rfl))
noncomputable def T35 : Tab := T34.add 31 sp_Star
theorem ok35 : TabOK Tryd.prog T35 := ok34.add (Sp.Body.ok ok34 (body_ref02_Star (n1 := 29) (n2 := 34) ⟨rfl, fun _ _ => rfl⟩ ⟨rfl⟩) Tryd.func31 (by kernel_rfl) has31 low31 ress31 (fun _ => Nat.le_of_ble_eq_true rfl))
noncomputable def T36 : Tab := T35.add 32 sp_Ring
theorem ok36 : TabOK Tryd.prog T36 := ok35.add (Sp.Body.ok ok35 (body_ref02_Ring (n1 := 26) (n2 := 29) ⟨rfl, fun _ _ => rfl⟩ ⟨rfl, fun _ _ => rfl⟩) Tryd.func32 (by kernel_rfl) has32 low32 ress32 (fun _ => Nat.le_of_ble_eq_true rfl))
noncomputable def T37 : Tab := T36.add 33 sp_sameI
theorem ok37 : TabOK Tryd.prog T37 := ok36.add (Sp.Body.ok ok36 (body_ref02_SameInts) Tryd.func33 (by kernel_rfl) has33 low33 ress33 (fun _ => Nat.le_of_ble_eq_true rfl))
noncomputable abbrev TT : Tab := T37
theorem okT : TabOK Tryd.prog TT := ok37
/-- The law RelOf, from its body. -/
theorem acalls_RelOf {args : List AV} (ha : args.length ≤ Tryd.f3.ntmps) (h : Holds TT V_law02_RelOf (L_law02_RelOf 9 10 11 12) R_law02_RelOf args) : ACalls Tryd.prog 3 args [] fun r _ => r = .d (.bool true) :=
  ACalls.of_vck okT V_law02_RelOf Tryd.func3 (by kernel_rfl) has3 low3 ress3 ha h
/-- The law RelOrder, from its body. -/
theorem acalls_RelOrder {args : List AV} (ha : args.length ≤ Tryd.f4.ntmps) (h : Holds TT V_law02_RelOrder (L_law02_RelOrder 9 13 14 15 16) R_law02_RelOrder args) : ACalls Tryd.prog 4 args [] fun r _ => r = .d (.bool true) :=
  ACalls.of_vck okT V_law02_RelOrder Tryd.func4 (by kernel_rfl) has4 low4 ress4 ha h
/-- The law RelTurned, from its body. -/
theorem acalls_RelTurned {args : List AV} (ha : args.length ≤ Tryd.f5.ntmps) (h : Holds TT V_law02_RelTurned (L_law02_RelTurned 9 12 13 15 17 18 19) R_law02_RelTurned args) : ACalls Tryd.prog 5 args [] fun r _ => r = .d (.bool true) :=
  ACalls.of_vck okT V_law02_RelTurned Tryd.func5 (by kernel_rfl) has5 low5 ress5 ha h
/-- The law RelLaws, from its body. -/
theorem acalls_RelLaws {args : List AV} (ha : args.length ≤ Tryd.f6.ntmps) (h : Holds TT V_law02_RelLaws (L_law02_RelLaws 9 12 13 17 18 19 20 21) R_law02_RelLaws args) : ACalls Tryd.prog 6 args [] fun r _ => r = .d (.bool true) :=
  ACalls.of_vck okT V_law02_RelLaws Tryd.func6 (by kernel_rfl) has6 low6 ress6 ha h
/-- The law RelAll, from its body. -/
theorem acalls_RelAll {args : List AV} (ha : args.length ≤ Tryd.f7.ntmps) (h : Holds TT V_law02_RelAll (L_law02_RelAll 9 12 13 16 17 19 20 21 22 23 24 25 26 27) R_law02_RelAll args) : ACalls Tryd.prog 7 args [] fun r _ => r = .d (.bool true) :=
  ACalls.of_vck okT V_law02_RelAll Tryd.func7 (by kernel_rfl) has7 low7 ress7 ha h
/-- The law RelWays, from its body. -/
theorem acalls_RelWays {args : List AV} (ha : args.length ≤ Tryd.f8.ntmps) (h : Holds TT V_law02_RelWays (L_law02_RelWays 9 12 13 14 15 18 28 29 30 31 32 33) R_law02_RelWays args) : ACalls Tryd.prog 8 args [] fun r _ => r = .d (.bool true) :=
  ACalls.of_vck okT V_law02_RelWays Tryd.func8 (by kernel_rfl) has8 low8 ress8 ha h
end Go.Proofs.YtmolmchdnpekaaaDoor
