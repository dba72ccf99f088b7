/- The functions of this cut as the abstract machine has them, and the table of their contracts. Conditions: none. -/
import Derived.Test.YtlecedmhdhmonaaChecked
import Derived.Test.YtlecedmhdhmonaaAgoP6
set_option maxRecDepth 100000
set_option linter.unusedVariables false
namespace Go.Proofs.Ytlecedmhdhmonaa
open Go Go.Ago
theorem low21 : lowCode Try.prog Try.f21.ntmps (Try.f21.body.getD .skip) = some (L_act_Right) := by kernel_rfl
theorem ress21 : lowRess Try.prog Try.f21.results.toList = some R_act_Right := by kernel_rfl
theorem has21 : Try.f21.body = some (Try.f21.body.getD .skip) := by kernel_rfl
theorem low22 : lowCode Try.prog Try.f22.ntmps (Try.f22.body.getD .skip) = some (L_slices_Clone_int64) := by kernel_rfl
theorem ress22 : lowRess Try.prog Try.f22.results.toList = some R_slices_Clone_int64 := by kernel_rfl
theorem has22 : Try.f22.body = some (Try.f22.body.getD .skip) := by kernel_rfl
theorem low12 : lowCode Try.prog Try.f12.ntmps (Try.f12.body.getD .skip) = some (L_seq_Do 21 22) := by kernel_rfl
theorem ress12 : lowRess Try.prog Try.f12.results.toList = some R_seq_Do := by kernel_rfl
theorem has12 : Try.f12.body = some (Try.f12.body.getD .skip) := by kernel_rfl
theorem low9 : lowCode Try.prog Try.f9.ntmps (Try.f9.body.getD .skip) = some (L_seq_Run 12) := by kernel_rfl
theorem ress9 : lowRess Try.prog Try.f9.results.toList = some R_seq_Run := by kernel_rfl
theorem has9 : Try.f9.body = some (Try.f9.body.getD .skip) := by kernel_rfl
theorem low7 : lowCode Try.prog Try.f7.ntmps (Try.f7.body.getD .skip) = some (L_law21_awake 9) := by kernel_rfl
theorem ress7 : lowRess Try.prog Try.f7.results.toList = some R_law21_awake := by kernel_rfl
theorem has7 : Try.f7.body = some (Try.f7.body.getD .skip) := by kernel_rfl
theorem low8 : lowCode Try.prog Try.f8.ntmps (Try.f8.body.getD .skip) = some (L_law21_acts) := by kernel_rfl
theorem ress8 : lowRess Try.prog Try.f8.results.toList = some R_law21_acts := by kernel_rfl
theorem has8 : Try.f8.body = some (Try.f8.body.getD .skip) := by kernel_rfl
theorem low16 : lowCode Try.prog Try.f16.ntmps (Try.f16.body.getD .skip) = some (L_ref08_Writes) := by kernel_rfl
theorem ress16 : lowRess Try.prog Try.f16.results.toList = some R_ref08_Writes := by kernel_rfl
theorem has16 : Try.f16.body = some (Try.f16.body.getD .skip) := by kernel_rfl
theorem low11 : lowCode Try.prog Try.f11.ntmps (Try.f11.body.getD .skip) = some (L_ref21_Latest 16) := by kernel_rfl
theorem ress11 : lowRess Try.prog Try.f11.results.toList = some R_ref21_Latest := by kernel_rfl
theorem has11 : Try.f11.body = some (Try.f11.body.getD .skip) := by kernel_rfl
theorem low14 : lowCode Try.prog Try.f14.ntmps (Try.f14.body.getD .skip) = some (L_ref08_Right) := by kernel_rfl
theorem ress14 : lowRess Try.prog Try.f14.results.toList = some R_ref08_Right := by kernel_rfl
theorem has14 : Try.f14.body = some (Try.f14.body.getD .skip) := by kernel_rfl
theorem low15 : lowCode Try.prog Try.f15.ntmps (Try.f15.body.getD .skip) = some (L_ref08_Reads) := by kernel_rfl
theorem ress15 : lowRess Try.prog Try.f15.results.toList = some R_ref08_Reads := by kernel_rfl
theorem has15 : Try.f15.body = some (Try.f15.body.getD .skip) := by kernel_rfl
theorem low10 : lowCode Try.prog Try.f10.ntmps (Try.f10.body.getD .skip) = some (L_ref21_Run 11 14 15) := by kernel_rfl
theorem ress10 : lowRess Try.prog Try.f10.results.toList = some R_ref21_Run := by kernel_rfl
theorem has10 : Try.f10.body = some (Try.f10.body.getD .skip) := by kernel_rfl
theorem low27 : lowCode Try.prog Try.f27.ntmps (Try.f27.body.getD .skip) = some (L_rat_Right) := by kernel_rfl
theorem ress27 : lowRess Try.prog Try.f27.results.toList = some R_rat_Right := by kernel_rfl
theorem has27 : Try.f27.body = some (Try.f27.body.getD .skip) := by kernel_rfl
theorem low23 : lowCode Try.prog Try.f23.ntmps (Try.f23.body.getD .skip) = some (L_rat_After 27) := by kernel_rfl
theorem ress23 : lowRess Try.prog Try.f23.results.toList = some R_rat_After := by kernel_rfl
theorem has23 : Try.f23.body = some (Try.f23.body.getD .skip) := by kernel_rfl
theorem low17 : lowCode Try.prog Try.f17.ntmps (Try.f17.body.getD .skip) = some (L_seq_Lift 9 23) := by kernel_rfl
theorem ress17 : lowRess Try.prog Try.f17.results.toList = some R_seq_Lift := by kernel_rfl
theorem has17 : Try.f17.body = some (Try.f17.body.getD .skip) := by kernel_rfl
theorem low24 : lowCode Try.prog Try.f24.ntmps (Try.f24.body.getD .skip) = some (L_slices_Clone_api_Loc) := by kernel_rfl
theorem ress24 : lowRess Try.prog Try.f24.results.toList = some R_slices_Clone_api_Loc := by kernel_rfl
theorem has24 : Try.f24.body = some (Try.f24.body.getD .skip) := by kernel_rfl
theorem low25 : lowCode Try.prog Try.f25.ntmps (Try.f25.body.getD .skip) = some (L_hist_begin) := by kernel_rfl
theorem ress25 : lowRess Try.prog Try.f25.results.toList = some R_hist_begin := by kernel_rfl
theorem has25 : Try.f25.body = some (Try.f25.body.getD .skip) := by kernel_rfl
theorem low18 : lowCode Try.prog Try.f18.ntmps (Try.f18.body.getD .skip) = some (L_hist_New 24 25) := by kernel_rfl
theorem ress18 : lowRess Try.prog Try.f18.results.toList = some R_hist_New := by kernel_rfl
theorem has18 : Try.f18.body = some (Try.f18.body.getD .skip) := by kernel_rfl
theorem low19 : lowCode Try.prog Try.f19.ntmps (Try.f19.body.getD .skip) = some (L_ref21_When) := by kernel_rfl
theorem ress19 : lowRess Try.prog Try.f19.results.toList = some R_ref21_When := by kernel_rfl
theorem has19 : Try.f19.body = some (Try.f19.body.getD .skip) := by kernel_rfl
theorem low26 : lowCode Try.prog Try.f26.ntmps (Try.f26.body.getD .skip) = some (L_hist_plain) := by kernel_rfl
theorem ress26 : lowRess Try.prog Try.f26.results.toList = some R_hist_plain := by kernel_rfl
theorem has26 : Try.f26.body = some (Try.f26.body.getD .skip) := by kernel_rfl
theorem low34 : lowCode Try.prog Try.f34.ntmps (Try.f34.body.getD .skip) = some (L_slices_Clone_api_Rat) := by kernel_rfl
theorem ress34 : lowRess Try.prog Try.f34.results.toList = some R_slices_Clone_api_Rat := by kernel_rfl
theorem has34 : Try.f34.body = some (Try.f34.body.getD .skip) := by kernel_rfl
theorem low35 : lowCode Try.prog Try.f35.ntmps (Try.f35.body.getD .skip) = some (L_slices_Clone_api_Stamp_api_Stamp) := by kernel_rfl
theorem ress35 : lowRess Try.prog Try.f35.results.toList = some R_slices_Clone_api_Stamp_api_Stamp := by kernel_rfl
theorem has35 : Try.f35.body = some (Try.f35.body.getD .skip) := by kernel_rfl
theorem low36 : lowCode Try.prog Try.f36.ntmps (Try.f36.body.getD .skip) = some (L_slices_Clone_api_Rat_api_Rat) := by kernel_rfl
theorem ress36 : lowRess Try.prog Try.f36.results.toList = some R_slices_Clone_api_Rat_api_Rat := by kernel_rfl
theorem has36 : Try.f36.body = some (Try.f36.body.getD .skip) := by kernel_rfl
theorem low37 : lowCode Try.prog Try.f37.ntmps (Try.f37.body.getD .skip) = some (L_slices_Clone_api_Stamp) := by kernel_rfl
theorem ress37 : lowRess Try.prog Try.f37.results.toList = some R_slices_Clone_api_Stamp := by kernel_rfl
theorem has37 : Try.f37.body = some (Try.f37.body.getD .skip) := by kernel_rfl
theorem low28 : lowCode Try.prog Try.f28.ntmps (Try.f28.body.getD .skip) = some (L_hist_copied 22 24 34 35 36 37) := by kernel_rfl
theorem ress28 : lowRess Try.prog Try.f28.results.toList = some R_hist_copied := by kernel_rfl
theorem has28 : Try.f28.body = some (Try.f28.body.getD .skip) := by kernel_rfl
theorem low30 : lowCode Try.prog Try.f30.ntmps (Try.f30.body.getD .skip) = some (L_rat_Cmp 27) := by kernel_rfl
theorem ress30 : lowRess Try.prog Try.f30.results.toList = some R_rat_Cmp := by kernel_rfl
theorem has30 : Try.f30.body = some (Try.f30.body.getD .skip) := by kernel_rfl
theorem low39 : lowCode Try.prog Try.f39.ntmps (Try.f39.body.getD .skip) = some (L_hist_at_1 30) := by kernel_rfl
theorem ress39 : lowRess Try.prog Try.f39.results.toList = some R_hist_at_1 := by kernel_rfl
theorem has39 : Try.f39.body = some (Try.f39.body.getD .skip) := by kernel_rfl
theorem low38 : lowCode Try.prog Try.f38.ntmps (Try.f38.body.getD .skip) = some (L_slices_BinarySearchFunc_api_Stamp_api_Rat) := by kernel_rfl
theorem ress38 : lowRess Try.prog Try.f38.results.toList = some R_slices_BinarySearchFunc_api_Stamp_api_Rat := by kernel_rfl
theorem has38 : Try.f38.body = some (Try.f38.body.getD .skip) := by kernel_rfl
theorem low29 : lowCode Try.prog Try.f29.ntmps (Try.f29.body.getD .skip) = some (L_hist_at 38 39) := by kernel_rfl
theorem ress29 : lowRess Try.prog Try.f29.results.toList = some R_hist_at := by kernel_rfl
theorem has29 : Try.f29.body = some (Try.f29.body.getD .skip) := by kernel_rfl
theorem low40 : lowCode Try.prog Try.f40.ntmps (Try.f40.body.getD .skip) = some (L_rat_gcd) := by kernel_rfl
theorem ress40 : lowRess Try.prog Try.f40.results.toList = some R_rat_gcd := by kernel_rfl
theorem has40 : Try.f40.body = some (Try.f40.body.getD .skip) := by kernel_rfl
theorem low31 : lowCode Try.prog Try.f31.ntmps (Try.f31.body.getD .skip) = some (L_rat_Least 27 40) := by kernel_rfl
theorem ress31 : lowRess Try.prog Try.f31.results.toList = some R_rat_Least := by kernel_rfl
theorem has31 : Try.f31.body = some (Try.f31.body.getD .skip) := by kernel_rfl
theorem low45 : lowCode Try.prog Try.f45.ntmps (Try.f45.body.getD .skip) = some (L_slices_Reverse_api_Stamp) := by kernel_rfl
theorem ress45 : lowRess Try.prog Try.f45.results.toList = some R_slices_Reverse_api_Stamp := by kernel_rfl
theorem has45 : Try.f45.body = some (Try.f45.body.getD .skip) := by kernel_rfl
theorem low44 : lowCode Try.prog Try.f44.ntmps (Try.f44.body.getD .skip) = some (L_slices_rotateLeft_api_Stamp 45) := by kernel_rfl
theorem ress44 : lowRess Try.prog Try.f44.results.toList = some R_slices_rotateLeft_api_Stamp := by kernel_rfl
theorem has44 : Try.f44.body = some (Try.f44.body.getD .skip) := by kernel_rfl
theorem low42 : lowCode Try.prog Try.f42.ntmps (Try.f42.body.getD .skip) = some (L_slices_rotateRight_api_Stamp 44) := by kernel_rfl
theorem ress42 : lowRess Try.prog Try.f42.results.toList = some R_slices_rotateRight_api_Stamp := by kernel_rfl
theorem has42 : Try.f42.body = some (Try.f42.body.getD .skip) := by kernel_rfl
theorem low32 : lowCode Try.prog Try.f32.ntmps (Try.f32.body.getD .skip) = some (L_slices_Insert_api_Stamp 42) := by kernel_rfl
theorem ress32 : lowRess Try.prog Try.f32.results.toList = some R_slices_Insert_api_Stamp := by kernel_rfl
theorem has32 : Try.f32.body = some (Try.f32.body.getD .skip) := by kernel_rfl
theorem low43 : lowCode Try.prog Try.f43.ntmps (Try.f43.body.getD .skip) = some (L_rat_Max 30) := by kernel_rfl
theorem ress43 : lowRess Try.prog Try.f43.results.toList = some R_rat_Max := by kernel_rfl
theorem has43 : Try.f43.body = some (Try.f43.body.getD .skip) := by kernel_rfl
theorem low33 : lowCode Try.prog Try.f33.ntmps (Try.f33.body.getD .skip) = some (L_hist_join 34 43) := by kernel_rfl
theorem ress33 : lowRess Try.prog Try.f33.results.toList = some R_hist_join := by kernel_rfl
theorem has33 : Try.f33.body = some (Try.f33.body.getD .skip) := by kernel_rfl
theorem low20 : lowCode Try.prog Try.f20.ntmps (Try.f20.body.getD .skip) = some (L_hist_Do 21 26 27 28 29 30 31 32 33 34) := by kernel_rfl
theorem ress20 : lowRess Try.prog Try.f20.results.toList = some R_hist_Do := by kernel_rfl
theorem has20 : Try.f20.body = some (Try.f20.body.getD .skip) := by kernel_rfl
theorem low6 : lowCode Try.prog Try.f6.ntmps (Try.f6.body.getD .skip) = some (L_law21_SeqLifts 7 8 10 17 18 19 20) := by kernel_rfl
theorem ress6 : lowRess Try.prog Try.f6.results.toList = some R_law21_SeqLifts := by kernel_rfl
theorem has6 : Try.f6.body = some (Try.f6.body.getD .skip) := by kernel_rfl
noncomputable def T0 : Tab := Tab.none
theorem ok0 : TabOK Try.prog T0 := TabOK.none
noncomputable def T1 : Tab := T0.add 21 sp_act_Right
theorem ok1 : TabOK Try.prog T1 := ok0.add (Sp.Body.ok ok0 (body_act_Right) Try.func21 (by kernel_rfl) has21 low21 ress21 (fun _ => Nat.le_of_ble_eq_true rfl))
noncomputable def T2 : Tab := T1.add 22 (cloneS 1 8)
theorem ok2 : TabOK Try.prog T2 := ok1.add (Sp.Body.ok ok1 (body_slices_Clone_int64) Try.func22 (by kernel_rfl) has22 low22 ress22 (fun _ => Nat.le_of_ble_eq_true rfl))
noncomputable def T3 : Tab := T2.add 12 sp_seq_Do
theorem ok3 : TabOK Try.prog T3 := ok2.add (Sp.Body.ok ok2 (body_seq_Do (n1 := 21) (n2 := 22) ⟨rfl, fun _ _ => rfl⟩ ⟨rfl, fun _ _ => rfl⟩) Try.func12 (by kernel_rfl) has12 low12 ress12 (fun _ => Nat.le_of_ble_eq_true rfl))
noncomputable def T4 : Tab := T3.add 9 sp_seq_Run
theorem ok4 : TabOK Try.prog T4 := ok3.add (Sp.Body.ok ok3 (body_seq_Run (n1 := 12) ⟨rfl, fun _ _ => rfl⟩) Try.func9 (by kernel_rfl) has9 low9 ress9 (fun _ => Nat.le_of_ble_eq_true rfl))
noncomputable def T5 : Tab := T4.add 7 sp_true
theorem ok5 : TabOK Try.prog T5 := ok4.add (Sp.Body.ok ok4 (body_law21_awake (n1 := 9) ⟨rfl, fun _ _ => rfl⟩) Try.func7 (by kernel_rfl) has7 low7 ress7 (fun _ => Nat.le_of_ble_eq_true rfl))
noncomputable def T6 : Tab := T5.add 8 sp_law21_acts
theorem ok6 : TabOK Try.prog T6 := ok5.add (Sp.Body.ok ok5 (body_law21_acts) Try.func8 (by kernel_rfl) has8 low8 ress8 (fun _ => Nat.le_of_ble_eq_true rfl))
noncomputable def T7 : Tab := T6.add 16 (sp_act_b ActG.isW)
theorem ok7 : TabOK Try.prog T7 := ok6.add (Sp.Body.ok ok6 (body_ref08_Writes) Try.func16 (by kernel_rfl) has16 low16 ress16 (fun _ => Nat.le_of_ble_eq_true rfl))
noncomputable def T8 : Tab := T7.add 11 sp_latest
theorem ok8 : TabOK Try.prog T8 := ok7.add (Sp.Body.ok ok7 (body_ref21_Latest (n1 := 16) ⟨rfl, fun _ _ => rfl⟩) Try.func11 (by kernel_rfl) has11 low11 ress11 (fun _ => Nat.le_of_ble_eq_true rfl))
noncomputable def T9 : Tab := T8.add 14 sp_act_Right
theorem ok9 : TabOK Try.prog T9 := ok8.add (Sp.Body.ok ok8 (body_ref08_Right) Try.func14 (by kernel_rfl) has14 low14 ress14 (fun _ => Nat.le_of_ble_eq_true rfl))
noncomputable def T10 : Tab := T9.add 15 (sp_act_b ActG.isR)
theorem ok10 : TabOK Try.prog T10 := ok9.add (Sp.Body.ok ok9 (body_ref08_Reads) Try.func15 (by kernel_rfl) has15 low15 ress15 (fun _ => Nat.le_of_ble_eq_true rfl))
noncomputable def T11 : Tab := T10.add 10 sp_refRun
theorem ok11 : TabOK Try.prog T11 := ok10.add (Sp.Body.ok ok10 (body_ref21_Run (n1 := 11) (n2 := 14) (n3 := 15) ⟨rfl, fun _ _ => rfl⟩ ⟨rfl, fun _ _ => rfl⟩ ⟨rfl, fun _ _ => rfl⟩) Try.func10 (by kernel_rfl) has10 low10 ress10 (fun _ => Nat.le_of_ble_eq_true rfl))
noncomputable def T12 : Tab := T11.add 27 sp_rat_Right
theorem ok12 : TabOK Try.prog T12 := ok11.add (Sp.Body.ok ok11 (body_rat_Right) Try.func27 (by kernel_rfl) has27 low27 ress27 (fun _ => Nat.le_of_ble_eq_true rfl))
noncomputable def T13 : Tab := T12.add 23 sp_rat_After
theorem ok13 : TabOK Try.prog T13 := ok12.add (Sp.Body.ok ok12 (body_rat_After (n1 := 27) ⟨rfl, fun _ _ => rfl⟩) Try.func23 (by kernel_rfl) has23 low23 ress23 (fun _ => Nat.le_of_ble_eq_true rfl))
noncomputable def T14 : Tab := T13.add 17 sp_Lift
theorem ok14 : TabOK Try.prog T14 := ok13.add (Sp.Body.ok ok13 (body_seq_Lift (n1 := 9) (n2 := 23) ⟨rfl, fun _ _ => rfl⟩ ⟨rfl, fun _ _ => rfl⟩) Try.func17 (by kernel_rfl) has17 low17 ress17 (fun _ => Nat.le_of_ble_eq_true rfl))
noncomputable def T15 : Tab := T14.add 24 (cloneS 2 16)
theorem ok15 : TabOK Try.prog T15 := ok14.add (Sp.Body.ok ok14 (body_slices_Clone_api_Loc) Try.func24 (by kernel_rfl) has24 low24 ress24 (fun _ => Nat.le_of_ble_eq_true rfl))
noncomputable def T16 : Tab := T15.add 25 sp_begin
theorem ok16 : TabOK Try.prog T16 := ok15.add (Sp.Body.ok ok15 (body_hist_begin) Try.func25 (by kernel_rfl) has25 low25 ress25 (fun _ => Nat.le_of_ble_eq_true rfl))
noncomputable def T17 : Tab := T16.add 18 sp_New
theorem ok17 : TabOK Try.prog T17 := ok16.add (Sp.Body.ok ok16 (body_hist_New (n1 := 24) (n2 := 25) ⟨rfl, fun _ _ => rfl⟩ ⟨rfl, fun _ _ => rfl⟩) Try.func18 (by kernel_rfl) has18 low18 ress18 (fun _ => Nat.le_of_ble_eq_true rfl))
noncomputable def T18 : Tab := T17.add 19 sp_When21
theorem ok18 : TabOK Try.prog T18 := ok17.add (Sp.Body.ok ok17 (body_ref21_When) Try.func19 (by kernel_rfl) has19 low19 ress19 (fun _ => Nat.le_of_ble_eq_true rfl))
noncomputable def T19 : Tab := T18.add 26 sp_plain
theorem ok19 : TabOK Try.prog T19 := ok18.add (Sp.Body.ok ok18 (body_hist_plain) Try.func26 (by kernel_rfl) has26 low26 ress26 (fun _ => Nat.le_of_ble_eq_true rfl))
noncomputable def T20 : Tab := T19.add 34 (cloneS 2 16)
theorem ok20 : TabOK Try.prog T20 := ok19.add (Sp.Body.ok ok19 (body_slices_Clone_api_Rat) Try.func34 (by kernel_rfl) has34 low34 ress34 (fun _ => Nat.le_of_ble_eq_true rfl))
noncomputable def T21 : Tab := T20.add 35 (cloneS 1 24)
theorem ok21 : TabOK Try.prog T21 := ok20.add (Sp.Body.ok ok20 (body_slices_Clone_api_Stamp_api_Stamp) Try.func35 (by kernel_rfl) has35 low35 ress35 (fun _ => Nat.le_of_ble_eq_true rfl))
noncomputable def T22 : Tab := T21.add 36 (cloneS 1 24)
theorem ok22 : TabOK Try.prog T22 := ok21.add (Sp.Body.ok ok21 (body_slices_Clone_api_Rat_api_Rat) Try.func36 (by kernel_rfl) has36 low36 ress36 (fun _ => Nat.le_of_ble_eq_true rfl))
noncomputable def T23 : Tab := T22.add 37 (cloneS 3 24)
theorem ok23 : TabOK Try.prog T23 := ok22.add (Sp.Body.ok ok22 (body_slices_Clone_api_Stamp) Try.func37 (by kernel_rfl) has37 low37 ress37 (fun _ => Nat.le_of_ble_eq_true rfl))
noncomputable def T24 : Tab := T23.add 30 sp_rat_Cmp
theorem ok24 : TabOK Try.prog T24 := ok23.add (Sp.Body.ok ok23 (body_rat_Cmp (n1 := 27) ⟨rfl, fun _ _ => rfl⟩) Try.func30 (by kernel_rfl) has30 low30 ress30 (fun _ => Nat.le_of_ble_eq_true rfl))
noncomputable def T25 : Tab := T24.add 39 sp_stampCmp
theorem ok25 : TabOK Try.prog T25 := ok24.add (Sp.Body.ok ok24 (body_hist_at_1 (n1 := 30) ⟨rfl, fun _ _ => rfl⟩) Try.func39 (by kernel_rfl) has39 low39 ress39 (fun _ => Nat.le_of_ble_eq_true rfl))
noncomputable def T26 : Tab := T25.add 38 (sp_bs 39)
theorem ok26 : TabOK Try.prog T26 := ok25.add (Sp.Body.ok ok25 (body_slices_BinarySearchFunc_api_Stamp_api_Rat (n_hist_at_1 := 39) ⟨rfl, fun _ _ => rfl⟩) Try.func38 (by kernel_rfl) has38 low38 ress38 (fun _ => Nat.le_of_ble_eq_true rfl))
noncomputable def T27 : Tab := T26.add 29 sp_hist_at
theorem ok27 : TabOK Try.prog T27 := ok26.add (Sp.Body.ok ok26 (body_hist_at (n1 := 38) (n_hist_at_1 := 39) ⟨rfl, fun _ _ => rfl⟩) Try.func29 (by kernel_rfl) has29 low29 ress29 (fun _ => Nat.le_of_ble_eq_true rfl))
noncomputable def T28 : Tab := T27.add 40 sp_rat_gcd
theorem ok28 : TabOK Try.prog T28 := ok27.add (Sp.Body.ok ok27 (body_rat_gcd) Try.func40 (by kernel_rfl) has40 low40 ress40 (fun _ => Nat.le_of_ble_eq_true rfl))
noncomputable def T29 : Tab := T28.add 31 sp_rat_Least
theorem ok29 : TabOK Try.prog T29 := ok28.add (Sp.Body.ok ok28 (body_rat_Least (n1 := 27) (n2 := 40) ⟨rfl, fun _ _ => rfl⟩ ⟨rfl, fun _ _ => rfl⟩) Try.func31 (by kernel_rfl) has31 low31 ress31 (fun _ => Nat.le_of_ble_eq_true rfl))
noncomputable def T30 : Tab := T29.addG 32 ef_Insert.at
theorem ok30 : TabOK Try.prog T30 := (eff_slices_Insert_api_Stamp (n1 := 42)).tab ok29 ok29 Try.func32 (by kernel_rfl) has32 low32 ress32 (fun _ => Nat.le_of_ble_eq_true rfl)
noncomputable def T31 : Tab := T30.add 43 sp_rat_Max
theorem ok31 : TabOK Try.prog T31 := ok30.add (Sp.Body.ok ok30 (body_rat_Max (n1 := 30) ⟨rfl, fun _ _ => rfl⟩) Try.func43 (by kernel_rfl) has43 low43 ress43 (fun _ => Nat.le_of_ble_eq_true rfl))
noncomputable def T32 : Tab := T31.add 33 sp_join
theorem ok32 : TabOK Try.prog T32 := ok31.add (Sp.Body.ok ok31 (body_hist_join (n1 := 34) (n2 := 43) ⟨rfl, fun _ _ => rfl⟩ ⟨rfl, fun _ _ => rfl⟩) Try.func33 (by kernel_rfl) has33 low33 ress33 (fun _ => Nat.le_of_ble_eq_true rfl))
theorem okD (h : Hole) : TabOK Try.prog (T32.addG 28 (ef_copied h).at) := (eff_hist_copied (T := T32) h ⟨rfl, fun _ _ => rfl⟩ ⟨rfl, fun _ _ => rfl⟩ ⟨rfl, fun _ _ => rfl⟩ ⟨rfl, fun _ _ => rfl⟩ ⟨rfl, fun _ _ => rfl⟩ ⟨rfl, fun _ _ => rfl⟩).tab ok32 ok32 Try.func28 (by kernel_rfl) has28 low28 ress28 (fun _ => Nat.le_of_ble_eq_true rfl)
theorem okD0 : TabOK Try.prog (T32.addG 28 ef_copied0.at) := (eff0_hist_copied (T := T32) ⟨rfl, fun _ _ => rfl⟩ ⟨rfl, fun _ _ => rfl⟩ ⟨rfl, fun _ _ => rfl⟩ ⟨rfl, fun _ _ => rfl⟩ ⟨rfl, fun _ _ => rfl⟩ ⟨rfl, fun _ _ => rfl⟩).tab ok32 ok32 Try.func28 (by kernel_rfl) has28 low28 ress28 (fun _ => Nat.le_of_ble_eq_true rfl)
noncomputable def T33 : Tab := T32.add 20 sp_Do
theorem ok33 : TabOK Try.prog T33 := ok32.add (Do_ok (n1 := 21) (n2 := 26) (n3 := 27) (n4 := 28) (n5 := 29) (n6 := 30) (n7 := 31) (n8 := 32) (n9 := 33) (n10 := 34) okD okD0 ⟨rfl, fun _ _ => rfl⟩ ⟨rfl, fun _ _ => rfl⟩ ⟨rfl, fun _ _ => rfl⟩ ⟨rfl, fun _ _ => rfl⟩ ⟨rfl, fun _ _ => rfl⟩ ⟨rfl, fun _ _ => rfl⟩ ⟨rfl⟩ ⟨rfl, fun _ _ => rfl⟩ ⟨rfl, fun _ _ => rfl⟩ rfl rfl rfl rfl rfl rfl rfl rfl rfl Try.func20 (by kernel_rfl) has20 low20 ress20 (Nat.le_of_ble_eq_true rfl))
noncomputable abbrev TT : Tab := T33
theorem okT : TabOK Try.prog TT := ok33
/-- The law SeqLifts, from its body. -/
theorem acalls_SeqLifts {args : List AV} (ha : args.length ≤ Try.f6.ntmps) (h : Holds TT V_law21_SeqLifts (L_law21_SeqLifts 7 8 10 17 18 19 20) R_law21_SeqLifts args) : ACalls Try.prog 6 args [] fun r _ => r = .d (.bool true) :=
  ACalls.of_vck okT V_law21_SeqLifts Try.func6 (by kernel_rfl) has6 low6 ress6 ha h
end Go.Proofs.Ytlecedmhdhmonaa
