/- The functions of this cut as the abstract machine has them, and the table of their contracts. Conditions: none. -/
import Derived.Test.YtmknnljemhajoaaDoorChecked
import Derived.Test.YtmknnljemhajoaaDoorAgoP6
import Derived.Test.YtmknnljemhajoaaDoorAgoP7
import Derived.Test.YtmknnljemhajoaaDoorAgoTied
set_option maxRecDepth 100000
set_option linter.unusedVariables false
namespace Go.Proofs.YtmknnljemhajoaaDoor
open Go Go.Ago
theorem low33 : lowCode Tryd.prog Tryd.f33.ntmps (Tryd.f33.body.getD .skip) = some (L_act_Right) := by kernel_rfl
theorem ress33 : lowRess Tryd.prog Tryd.f33.results.toList = some R_act_Right := by kernel_rfl
theorem has33 : Tryd.f33.body = some (Tryd.f33.body.getD .skip) := by kernel_rfl
theorem low11 : lowCode Tryd.prog Tryd.f11.ntmps (Tryd.f11.body.getD .skip) = some (L_axiom_Deeds 33) := by kernel_rfl
theorem ress11 : lowRess Tryd.prog Tryd.f11.results.toList = some R_axiom_Deeds := by kernel_rfl
theorem has11 : Tryd.f11.body = some (Tryd.f11.body.getD .skip) := by kernel_rfl
theorem low23 : lowCode Tryd.prog Tryd.f23.ntmps (Tryd.f23.body.getD .skip) = some (L_axiom_reads) := by kernel_rfl
theorem ress23 : lowRess Tryd.prog Tryd.f23.results.toList = some R_axiom_reads := by kernel_rfl
theorem has23 : Tryd.f23.body = some (Tryd.f23.body.getD .skip) := by kernel_rfl
theorem low24 : lowCode Tryd.prog Tryd.f24.ntmps (Tryd.f24.body.getD .skip) = some (L_axiom_writes) := by kernel_rfl
theorem ress24 : lowRess Tryd.prog Tryd.f24.results.toList = some R_axiom_writes := by kernel_rfl
theorem has24 : Tryd.f24.body = some (Tryd.f24.body.getD .skip) := by kernel_rfl
theorem low25 : lowCode Tryd.prog Tryd.f25.ntmps (Tryd.f25.body.getD .skip) = some (L_slices_Clone_int) := by kernel_rfl
theorem ress25 : lowRess Tryd.prog Tryd.f25.results.toList = some R_slices_Clone_int := by kernel_rfl
theorem has25 : Tryd.f25.body = some (Tryd.f25.body.getD .skip) := by kernel_rfl
theorem low27 : lowCode Tryd.prog Tryd.f27.ntmps (Tryd.f27.body.getD .skip) = some (L_slices_Equal_int) := by kernel_rfl
theorem ress27 : lowRess Tryd.prog Tryd.f27.results.toList = some R_slices_Equal_int := by kernel_rfl
theorem has27 : Tryd.f27.body = some (Tryd.f27.body.getD .skip) := by kernel_rfl
theorem low28 : lowCode Tryd.prog Tryd.f28.ntmps (Tryd.f28.body.getD .skip) = some (L_slices_Clone_api_Loc) := by kernel_rfl
theorem ress28 : lowRess Tryd.prog Tryd.f28.results.toList = some R_slices_Clone_api_Loc := by kernel_rfl
theorem has28 : Tryd.f28.body = some (Tryd.f28.body.getD .skip) := by kernel_rfl
theorem low29 : lowCode Tryd.prog Tryd.f29.ntmps (Tryd.f29.body.getD .skip) = some (L_rel_Of) := by kernel_rfl
theorem ress29 : lowRess Tryd.prog Tryd.f29.results.toList = some R_rel_Of := by kernel_rfl
theorem has29 : Tryd.f29.body = some (Tryd.f29.body.getD .skip) := by kernel_rfl
theorem low9 : lowCode Tryd.prog Tryd.f9.ntmps (Tryd.f9.body.getD .skip) = some (L_axiom_Build 11 23 24 25 26 27 28 29) := by kernel_rfl
theorem ress9 : lowRess Tryd.prog Tryd.f9.results.toList = some R_axiom_Build := by kernel_rfl
theorem has9 : Tryd.f9.body = some (Tryd.f9.body.getD .skip) := by kernel_rfl
theorem low49 : lowCode Tryd.prog Tryd.f49.ntmps (Tryd.f49.body.getD .skip) = some (L_rel_size) := by kernel_rfl
theorem ress49 : lowRess Tryd.prog Tryd.f49.results.toList = some R_rel_size := by kernel_rfl
theorem has49 : Tryd.f49.body = some (Tryd.f49.body.getD .skip) := by kernel_rfl
theorem low77 : lowCode Tryd.prog Tryd.f77.ntmps (Tryd.f77.body.getD .skip) = some (L_rel_all) := by kernel_rfl
theorem ress77 : lowRess Tryd.prog Tryd.f77.results.toList = some R_rel_all := by kernel_rfl
theorem has77 : Tryd.f77.body = some (Tryd.f77.body.getD .skip) := by kernel_rfl
theorem low62 : lowCode Tryd.prog Tryd.f62.ntmps (Tryd.f62.body.getD .skip) = some (L_rel_row 49 77) := by kernel_rfl
theorem ress62 : lowRess Tryd.prog Tryd.f62.results.toList = some R_rel_row := by kernel_rfl
theorem has62 : Tryd.f62.body = some (Tryd.f62.body.getD .skip) := by kernel_rfl
theorem low53 : lowCode Tryd.prog Tryd.f53.ntmps (Tryd.f53.body.getD .skip) = some (L_rel_Union_1) := by kernel_rfl
theorem ress53 : lowRess Tryd.prog Tryd.f53.results.toList = some R_rel_Union_1 := by kernel_rfl
theorem has53 : Tryd.f53.body = some (Tryd.f53.body.getD .skip) := by kernel_rfl
theorem low76 : lowCode Tryd.prog Tryd.f76.ntmps (Tryd.f76.body.getD .skip) = some (L_rel_Inter_1) := by kernel_rfl
theorem ress76 : lowRess Tryd.prog Tryd.f76.results.toList = some R_rel_Inter_1 := by kernel_rfl
theorem has76 : Tryd.f76.body = some (Tryd.f76.body.getD .skip) := by kernel_rfl
theorem low61 : lowCode Tryd.prog Tryd.f61.ntmps (Tryd.f61.body.getD .skip) = some (L_rel_Plus_1) := by kernel_rfl
theorem ress61 : lowRess Tryd.prog Tryd.f61.results.toList = some R_rel_Plus_1 := by kernel_rfl
theorem has61 : Tryd.f61.body = some (Tryd.f61.body.getD .skip) := by kernel_rfl
theorem low52 : lowCode Tryd.prog Tryd.f52.ntmps (Tryd.f52.body.getD .skip) = some (L_rel_lay 49 62) := by kernel_rfl
theorem ress52 : lowRess Tryd.prog Tryd.f52.results.toList = some R_rel_lay := by kernel_rfl
theorem has52 : Tryd.f52.body = some (Tryd.f52.body.getD .skip) := by kernel_rfl
theorem low37 : lowCode Tryd.prog Tryd.f37.ntmps (Tryd.f37.body.getD .skip) = some (L_rel_Union 52 53) := by kernel_rfl
theorem ress37 : lowRess Tryd.prog Tryd.f37.results.toList = some R_rel_Union := by kernel_rfl
theorem has37 : Tryd.f37.body = some (Tryd.f37.body.getD .skip) := by kernel_rfl
theorem low54 : lowCode Tryd.prog Tryd.f54.ntmps (Tryd.f54.body.getD .skip) = some (L_slices_Clone_uint64) := by kernel_rfl
theorem ress54 : lowRess Tryd.prog Tryd.f54.results.toList = some R_slices_Clone_uint64 := by kernel_rfl
theorem has54 : Tryd.f54.body = some (Tryd.f54.body.getD .skip) := by kernel_rfl
theorem low55 : lowCode Tryd.prog Tryd.f55.ntmps (Tryd.f55.body.getD .skip) = some (L_axiom_atomic) := by kernel_rfl
theorem ress55 : lowRess Tryd.prog Tryd.f55.results.toList = some R_axiom_atomic := by kernel_rfl
theorem has55 : Tryd.f55.body = some (Tryd.f55.body.getD .skip) := by kernel_rfl
theorem low38 : lowCode Tryd.prog Tryd.f38.ntmps (Tryd.f38.body.getD .skip) = some (L_axiom_only 54 55) := by kernel_rfl
theorem ress38 : lowRess Tryd.prog Tryd.f38.results.toList = some R_axiom_only := by kernel_rfl
theorem has38 : Tryd.f38.body = some (Tryd.f38.body.getD .skip) := by kernel_rfl
theorem low44 : lowCode Tryd.prog Tryd.f44.ntmps (Tryd.f44.body.getD .skip) = some (L_rel_Plus 52 61) := by kernel_rfl
theorem ress44 : lowRess Tryd.prog Tryd.f44.results.toList = some R_rel_Plus := by kernel_rfl
theorem has44 : Tryd.f44.body = some (Tryd.f44.body.getD .skip) := by kernel_rfl
theorem low17 : lowCode Tryd.prog Tryd.f17.ntmps (Tryd.f17.body.getD .skip) = some (L_axiom_Order 37 38 44) := by kernel_rfl
theorem ress17 : lowRess Tryd.prog Tryd.f17.results.toList = some R_axiom_Order := by kernel_rfl
theorem has17 : Tryd.f17.body = some (Tryd.f17.body.getD .skip) := by kernel_rfl
theorem low63 : lowCode Tryd.prog Tryd.f63.ntmps (Tryd.f63.body.getD .skip) = some (L_math_bits_TrailingZeros64) := by kernel_rfl
theorem ress63 : lowRess Tryd.prog Tryd.f63.results.toList = some R_math_bits_TrailingZeros64 := by kernel_rfl
theorem has63 : Tryd.f63.body = some (Tryd.f63.body.getD .skip) := by kernel_rfl
theorem low46 : lowCode Tryd.prog Tryd.f46.ntmps (Tryd.f46.body.getD .skip) = some (L_rel_Then 49 62 63) := by kernel_rfl
theorem ress46 : lowRess Tryd.prog Tryd.f46.results.toList = some R_rel_Then := by kernel_rfl
theorem has46 : Tryd.f46.body = some (Tryd.f46.body.getD .skip) := by kernel_rfl
theorem low47 : lowCode Tryd.prog Tryd.f47.ntmps (Tryd.f47.body.getD .skip) = some (L_rel_Back 49 62 63) := by kernel_rfl
theorem ress47 : lowRess Tryd.prog Tryd.f47.results.toList = some R_rel_Back := by kernel_rfl
theorem has47 : Tryd.f47.body = some (Tryd.f47.body.getD .skip) := by kernel_rfl
theorem low19 : lowCode Tryd.prog Tryd.f19.ntmps (Tryd.f19.body.getD .skip) = some (L_axiom_Fr 46 47) := by kernel_rfl
theorem ress19 : lowRess Tryd.prog Tryd.f19.results.toList = some R_axiom_Fr := by kernel_rfl
theorem has19 : Tryd.f19.body = some (Tryd.f19.body.getD .skip) := by kernel_rfl
theorem low36 : lowCode Tryd.prog Tryd.f36.ntmps (Tryd.f36.body.getD .skip) = some (L_rel_Ring 44) := by kernel_rfl
theorem ress36 : lowRess Tryd.prog Tryd.f36.results.toList = some R_rel_Ring := by kernel_rfl
theorem has36 : Tryd.f36.body = some (Tryd.f36.body.getD .skip) := by kernel_rfl
theorem low58 : lowCode Tryd.prog Tryd.f58.ntmps (Tryd.f58.body.getD .skip) = some (L_axiom_meets_1) := by kernel_rfl
theorem ress58 : lowRess Tryd.prog Tryd.f58.results.toList = some R_axiom_meets_1 := by kernel_rfl
theorem has58 : Tryd.f58.body = some (Tryd.f58.body.getD .skip) := by kernel_rfl
theorem low75 : lowCode Tryd.prog Tryd.f75.ntmps (Tryd.f75.body.getD .skip) = some (L_slices_IndexFunc_uint64) := by kernel_rfl
theorem ress75 : lowRess Tryd.prog Tryd.f75.results.toList = some R_slices_IndexFunc_uint64 := by kernel_rfl
theorem has75 : Tryd.f75.body = some (Tryd.f75.body.getD .skip) := by kernel_rfl
theorem low56 : lowCode Tryd.prog Tryd.f56.ntmps (Tryd.f56.body.getD .skip) = some (L_slices_ContainsFunc_uint64 75) := by kernel_rfl
theorem ress56 : lowRess Tryd.prog Tryd.f56.results.toList = some R_slices_ContainsFunc_uint64 := by kernel_rfl
theorem has56 : Tryd.f56.body = some (Tryd.f56.body.getD .skip) := by kernel_rfl
theorem low57 : lowCode Tryd.prog Tryd.f57.ntmps (Tryd.f57.body.getD .skip) = some (L_rel_Inter 52 76) := by kernel_rfl
theorem ress57 : lowRess Tryd.prog Tryd.f57.results.toList = some R_rel_Inter := by kernel_rfl
theorem has57 : Tryd.f57.body = some (Tryd.f57.body.getD .skip) := by kernel_rfl
theorem low39 : lowCode Tryd.prog Tryd.f39.ntmps (Tryd.f39.body.getD .skip) = some (L_axiom_meets 47 56 57 58) := by kernel_rfl
theorem ress39 : lowRess Tryd.prog Tryd.f39.results.toList = some R_axiom_meets := by kernel_rfl
theorem has39 : Tryd.f39.body = some (Tryd.f39.body.getD .skip) := by kernel_rfl
theorem low14 : lowCode Tryd.prog Tryd.f14.ntmps (Tryd.f14.body.getD .skip) = some (L_axiom_Check 17 19 36 37 38 39) := by kernel_rfl
theorem ress14 : lowRess Tryd.prog Tryd.f14.results.toList = some R_axiom_Check := by kernel_rfl
theorem has14 : Tryd.f14.body = some (Tryd.f14.body.getD .skip) := by kernel_rfl
theorem low21 : lowCode Tryd.prog Tryd.f21.ntmps (Tryd.f21.body.getD .skip) = some (L_rel_Has 49) := by kernel_rfl
theorem ress21 : lowRess Tryd.prog Tryd.f21.results.toList = some R_rel_Has := by kernel_rfl
theorem has21 : Tryd.f21.body = some (Tryd.f21.body.getD .skip) := by kernel_rfl
theorem low7 : lowCode Tryd.prog Tryd.f7.ntmps (Tryd.f7.body.getD .skip) = some (L_law23_awake 9 14 17 19 21) := by kernel_rfl
theorem ress7 : lowRess Tryd.prog Tryd.f7.results.toList = some R_law23_awake := by kernel_rfl
theorem has7 : Tryd.f7.body = some (Tryd.f7.body.getD .skip) := by kernel_rfl
theorem low8 : lowCode Tryd.prog Tryd.f8.ntmps (Tryd.f8.body.getD .skip) = some (L_law23_small) := by kernel_rfl
theorem ress8 : lowRess Tryd.prog Tryd.f8.results.toList = some R_law23_small := by kernel_rfl
theorem has8 : Tryd.f8.body = some (Tryd.f8.body.getD .skip) := by kernel_rfl
theorem low60 : lowCode Tryd.prog Tryd.f60.ntmps (Tryd.f60.body.getD .skip) = some (L_ref02_Size) := by kernel_rfl
theorem ress60 : lowRess Tryd.prog Tryd.f60.results.toList = some R_ref02_Size := by kernel_rfl
theorem has60 : Tryd.f60.body = some (Tryd.f60.body.getD .skip) := by kernel_rfl
theorem low42 : lowCode Tryd.prog Tryd.f42.ntmps (Tryd.f42.body.getD .skip) = some (L_ref02_Has 60) := by kernel_rfl
theorem ress42 : lowRess Tryd.prog Tryd.f42.results.toList = some R_ref02_Has := by kernel_rfl
theorem has42 : Tryd.f42.body = some (Tryd.f42.body.getD .skip) := by kernel_rfl
theorem low31 : lowCode Tryd.prog Tryd.f31.ntmps (Tryd.f31.body.getD .skip) = some (L_ref02_Put 42) := by kernel_rfl
theorem ress31 : lowRess Tryd.prog Tryd.f31.results.toList = some R_ref02_Put := by kernel_rfl
theorem has31 : Tryd.f31.body = some (Tryd.f31.body.getD .skip) := by kernel_rfl
theorem low41 : lowCode Tryd.prog Tryd.f41.ntmps (Tryd.f41.body.getD .skip) = some (L_ref23_Atomic) := by kernel_rfl
theorem ress41 : lowRess Tryd.prog Tryd.f41.results.toList = some R_ref23_Atomic := by kernel_rfl
theorem has41 : Tryd.f41.body = some (Tryd.f41.body.getD .skip) := by kernel_rfl
theorem low45 : lowCode Tryd.prog Tryd.f45.ntmps (Tryd.f45.body.getD .skip) = some (L_ref02_Plus 42 31 60) := by kernel_rfl
theorem ress45 : lowRess Tryd.prog Tryd.f45.results.toList = some R_ref02_Plus := by kernel_rfl
theorem has45 : Tryd.f45.body = some (Tryd.f45.body.getD .skip) := by kernel_rfl
theorem low18 : lowCode Tryd.prog Tryd.f18.ntmps (Tryd.f18.body.getD .skip) = some (L_ref23_Order 31 41 42 45) := by kernel_rfl
theorem ress18 : lowRess Tryd.prog Tryd.f18.results.toList = some R_ref23_Order := by kernel_rfl
theorem has18 : Tryd.f18.body = some (Tryd.f18.body.getD .skip) := by kernel_rfl
theorem low48 : lowCode Tryd.prog Tryd.f48.ntmps (Tryd.f48.body.getD .skip) = some (L_ref23_source 42) := by kernel_rfl
theorem ress48 : lowRess Tryd.prog Tryd.f48.results.toList = some R_ref23_source := by kernel_rfl
theorem has48 : Tryd.f48.body = some (Tryd.f48.body.getD .skip) := by kernel_rfl
theorem low20 : lowCode Tryd.prog Tryd.f20.ntmps (Tryd.f20.body.getD .skip) = some (L_ref23_Fr 31 42 48) := by kernel_rfl
theorem ress20 : lowRess Tryd.prog Tryd.f20.results.toList = some R_ref23_Fr := by kernel_rfl
theorem has20 : Tryd.f20.body = some (Tryd.f20.body.getD .skip) := by kernel_rfl
theorem low59 : lowCode Tryd.prog Tryd.f59.ntmps (Tryd.f59.body.getD .skip) = some (L_ref02_most 60) := by kernel_rfl
theorem ress59 : lowRess Tryd.prog Tryd.f59.results.toList = some R_ref02_most := by kernel_rfl
theorem has59 : Tryd.f59.body = some (Tryd.f59.body.getD .skip) := by kernel_rfl
theorem low40 : lowCode Tryd.prog Tryd.f40.ntmps (Tryd.f40.body.getD .skip) = some (L_ref02_Lay 42 31 59) := by kernel_rfl
theorem ress40 : lowRess Tryd.prog Tryd.f40.results.toList = some R_ref02_Lay := by kernel_rfl
theorem has40 : Tryd.f40.body = some (Tryd.f40.body.getD .skip) := by kernel_rfl
theorem low43 : lowCode Tryd.prog Tryd.f43.ntmps (Tryd.f43.body.getD .skip) = some (L_ref02_Ring 42 45) := by kernel_rfl
theorem ress43 : lowRess Tryd.prog Tryd.f43.results.toList = some R_ref02_Ring := by kernel_rfl
theorem has43 : Tryd.f43.body = some (Tryd.f43.body.getD .skip) := by kernel_rfl
theorem low15 : lowCode Tryd.prog Tryd.f15.ntmps (Tryd.f15.body.getD .skip) = some (L_ref23_Check 18 20 31 40 41 42 43) := by kernel_rfl
theorem ress15 : lowRess Tryd.prog Tryd.f15.results.toList = some R_ref23_Check := by kernel_rfl
theorem has15 : Tryd.f15.body = some (Tryd.f15.body.getD .skip) := by kernel_rfl
theorem low16 : lowCode Tryd.prog Tryd.f16.ntmps (Tryd.f16.body.getD .skip) = some (L_ref02_Same) := by kernel_rfl
theorem ress16 : lowRess Tryd.prog Tryd.f16.results.toList = some R_ref02_Same := by kernel_rfl
theorem has16 : Tryd.f16.body = some (Tryd.f16.body.getD .skip) := by kernel_rfl
theorem low4 : lowCode Tryd.prog Tryd.f4.ntmps (Tryd.f4.body.getD .skip) = some (L_law23_AxiomJudges 7 8 9 14 15 16 17 18 19 20) := by kernel_rfl
theorem ress4 : lowRess Tryd.prog Tryd.f4.results.toList = some R_law23_AxiomJudges := by kernel_rfl
theorem has4 : Tryd.f4.body = some (Tryd.f4.body.getD .skip) := by kernel_rfl
noncomputable def T0 : Tab := Tab.none
theorem ok0 : TabOK Tryd.prog T0 := TabOK.none
noncomputable def T1 : Tab := T0.add 33 sp_act_Right
theorem ok1 : TabOK Tryd.prog T1 := ok0.add (Sp.Body.ok ok0 (body_act_Right) Tryd.func33 (by kernel_rfl) has33 low33 ress33 (fun _ => Nat.le_of_ble_eq_true rfl))
noncomputable def T2 : Tab := T1.add 11 sp_Deeds
theorem ok2 : TabOK Tryd.prog T2 := ok1.add (Sp.Body.ok ok1 (body_axiom_Deeds (n1 := 33) ⟨rfl, fun _ _ => rfl⟩) Tryd.func11 (by kernel_rfl) has11 low11 ress11 (fun _ => Nat.le_of_ble_eq_true rfl))
noncomputable def T3 : Tab := T2.add 23 (sp_deed_b ActG.isR)
theorem ok3 : TabOK Tryd.prog T3 := ok2.add (Sp.Body.ok ok2 (body_axiom_reads) Tryd.func23 (by kernel_rfl) has23 low23 ress23 (fun _ => Nat.le_of_ble_eq_true rfl))
noncomputable def T4 : Tab := T3.add 24 (sp_deed_b ActG.isW)
theorem ok4 : TabOK Tryd.prog T4 := ok3.add (Sp.Body.ok ok3 (body_axiom_writes) Tryd.func24 (by kernel_rfl) has24 low24 ress24 (fun _ => Nat.le_of_ble_eq_true rfl))
noncomputable def T5 : Tab := T4.add 25 (cloneS 1 8)
theorem ok5 : TabOK Tryd.prog T5 := ok4.add (Sp.Body.ok ok4 (body_slices_Clone_int) Tryd.func25 (by kernel_rfl) has25 low25 ress25 (fun _ => Nat.le_of_ble_eq_true rfl))
def lay26_ren : Go.Shelf.Ren := ⟨fun | 189 => 26 | 125 => 51 | 257 => 50 | 128 => 73 | 129 => 74 | 294 => 64 | 295 => 65 | 296 => 66 | 297 => 67 | 298 => 68 | 299 => 69 | 216 => 70 | 300 => 71 | 301 => 72 | 328 => 78 | 329 => 79 | 330 => 80 | 331 => 81 | 332 => 82 | 215 => 83 | 343 => 84 | n => n, fun | 28 => 24 | 3 => 3 | 46 => 76 | 0 => 0 | 51 => 99 | 53 => 75 | 4 => 4 | 183 => 91 | 182 => 90 | 131 => 96 | 5 => 5 | 9 => 9 | 218 => 103 | 222 => 107 | 228 => 110 | 229 => 111 | n => n, fun | n => n⟩
theorem lay26 : Go.Proofs.Lays.n189 Tryd.prog lay26_ren := {
  mixed := by kernel_rfl,
  f125 := Tryd.func51.trans (congrArg some (by kernel_rfl)),
  f128 := Tryd.func73.trans (congrArg some (by kernel_rfl)),
  f129 := Tryd.func74.trans (congrArg some (by kernel_rfl)),
  f189 := Tryd.func26.trans (congrArg some (by kernel_rfl)),
  f215 := Tryd.func83.trans (congrArg some (by kernel_rfl)),
  f216 := Tryd.func70.trans (congrArg some (by kernel_rfl)),
  f257 := Tryd.func50.trans (congrArg some (by kernel_rfl)),
  f294 := Tryd.func64.trans (congrArg some (by kernel_rfl)),
  f295 := Tryd.func65.trans (congrArg some (by kernel_rfl)),
  f296 := Tryd.func66.trans (congrArg some (by kernel_rfl)),
  f297 := Tryd.func67.trans (congrArg some (by kernel_rfl)),
  f298 := Tryd.func68.trans (congrArg some (by kernel_rfl)),
  f299 := Tryd.func69.trans (congrArg some (by kernel_rfl)),
  f300 := Tryd.func71.trans (congrArg some (by kernel_rfl)),
  f301 := Tryd.func72.trans (congrArg some (by kernel_rfl)),
  f328 := Tryd.func78.trans (congrArg some (by kernel_rfl)),
  f329 := Tryd.func79.trans (congrArg some (by kernel_rfl)),
  f330 := Tryd.func80.trans (congrArg some (by kernel_rfl)),
  f331 := Tryd.func81.trans (congrArg some (by kernel_rfl)),
  f332 := Tryd.func82.trans (congrArg some (by kernel_rfl)),
  f343 := Tryd.func84.trans (congrArg some (by kernel_rfl)),
  t0 := Tryd.underlying0,
  a0 := Tryd.isAgg0,
  z0 := Tryd.sizeOf0,
  v0 := Tryd.zeroValue0,
  t3 := Tryd.underlying3,
  a3 := Tryd.isAgg3,
  z3 := Tryd.sizeOf3,
  v3 := Tryd.zeroValue3,
  t4 := Tryd.underlying4,
  a4 := Tryd.isAgg4,
  z4 := Tryd.sizeOf4,
  v4 := Tryd.zeroValue4,
  t5 := Tryd.underlying5,
  a5 := Tryd.isAgg5,
  z5 := Tryd.sizeOf5,
  v5 := Tryd.zeroValue5,
  t9 := Tryd.underlying9,
  a9 := Tryd.isAgg9,
  z9 := Tryd.sizeOf9,
  v9 := Tryd.zeroValue9,
  t28 := Tryd.underlying24,
  a28 := Tryd.isAgg24,
  z28 := Tryd.sizeOf24,
  v28 := Tryd.zeroValue24,
  t46 := Tryd.underlying76,
  a46 := Tryd.isAgg76,
  z46 := Tryd.sizeOf76,
  v46 := Tryd.zeroValue76,
  t51 := Tryd.underlying99,
  a51 := Tryd.isAgg99,
  z51 := Tryd.sizeOf99,
  v51 := Tryd.zeroValue99,
  t53 := Tryd.underlying75,
  a53 := Tryd.isAgg75,
  z53 := Tryd.sizeOf75,
  v53 := Tryd.zeroValue75,
  t131 := Tryd.underlying96,
  a131 := Tryd.isAgg96,
  z131 := Tryd.sizeOf96,
  v131 := Tryd.zeroValue96,
  t182 := Tryd.underlying90,
  a182 := Tryd.isAgg90,
  z182 := Tryd.sizeOf90,
  v182 := Tryd.zeroValue90,
  t183 := Tryd.underlying91,
  a183 := Tryd.isAgg91,
  z183 := Tryd.sizeOf91,
  v183 := Tryd.zeroValue91,
  t218 := Tryd.underlying103,
  a218 := Tryd.isAgg103,
  z218 := Tryd.sizeOf103,
  v218 := Tryd.zeroValue103,
  t222 := Tryd.underlying107,
  a222 := Tryd.isAgg107,
  z222 := Tryd.sizeOf107,
  v222 := Tryd.zeroValue107,
  t228 := Tryd.underlying110,
  a228 := Tryd.isAgg110,
  z228 := Tryd.sizeOf110,
  v228 := Tryd.zeroValue110,
  t229 := Tryd.underlying111,
  a229 := Tryd.isAgg111,
  z229 := Tryd.sizeOf111,
  v229 := Tryd.zeroValue111 }
noncomputable def T6 : Tab := T5.addG 26 ef_sortI.at
theorem ok6 : TabOK Tryd.prog T6 := sortI_tab ok5 lay26 rfl ⟨_, Tryd.func26, by kernel_rfl, by kernel_rfl⟩
noncomputable def T7 : Tab := T6.add 27 sp_sameI
theorem ok7 : TabOK Tryd.prog T7 := ok6.add (Sp.Body.ok ok6 (body_slices_Equal_int) Tryd.func27 (by kernel_rfl) has27 low27 ress27 (fun _ => Nat.le_of_ble_eq_true rfl))
noncomputable def T8 : Tab := T7.add 28 (cloneS 2 16)
theorem ok8 : TabOK Tryd.prog T8 := ok7.add (Sp.Body.ok ok7 (body_slices_Clone_api_Loc) Tryd.func28 (by kernel_rfl) has28 low28 ress28 (fun _ => Nat.le_of_ble_eq_true rfl))
noncomputable def T9 : Tab := T8.add 29 sp_Of
theorem ok9 : TabOK Tryd.prog T9 := ok8.add (Sp.Body.ok ok8 (body_rel_Of) Tryd.func29 (by kernel_rfl) has29 low29 ress29 (fun _ => Nat.le_of_ble_eq_true rfl))
noncomputable def T10 : Tab := T9.add 9 sp_Build
theorem ok10 : TabOK Tryd.prog T10 := ok9.add (Sp.Body.ok ok9 (body_axiom_Build (n1 := 11) (n2 := 23) (n3 := 24) (n4 := 25) (n5 := 26) (n6 := 27) (n7 := 28) (n8 := 29) ⟨rfl, fun _ _ => rfl⟩ ⟨rfl, fun _ _ => rfl⟩ ⟨rfl, fun _ _ => rfl⟩ ⟨rfl, fun _ _ => rfl⟩ ⟨rfl⟩ ⟨rfl, fun _ _ => rfl⟩ ⟨rfl, fun _ _ => rfl⟩ ⟨rfl, fun _ _ => rfl⟩) Tryd.func9 (by kernel_rfl) has9 low9 ress9 (fun _ => Nat.le_of_ble_eq_true rfl))
noncomputable def T11 : Tab := T10.add 49 sp_size
theorem ok11 : TabOK Tryd.prog T11 := ok10.add (Sp.Body.ok ok10 (body_rel_size) Tryd.func49 (by kernel_rfl) has49 low49 ress49 (fun _ => Nat.le_of_ble_eq_true rfl))
noncomputable def T12 : Tab := T11.add 77 sp_all
theorem ok12 : TabOK Tryd.prog T12 := ok11.add (Sp.Body.ok ok11 (body_rel_all) Tryd.func77 (by kernel_rfl) has77 low77 ress77 (fun _ => Nat.le_of_ble_eq_true rfl))
noncomputable def T13 : Tab := T12.add 62 sp_row
theorem ok13 : TabOK Tryd.prog T13 := ok12.add (Sp.Body.ok ok12 (body_rel_row (n1 := 49) (n2 := 77) ⟨rfl, fun _ _ => rfl⟩ ⟨rfl, fun _ _ => rfl⟩) Tryd.func62 (by kernel_rfl) has62 low62 ress62 (fun _ => Nat.le_of_ble_eq_true rfl))
noncomputable def T14 : Tab := T13.add 53 (sp_h2 orW)
theorem ok14 : TabOK Tryd.prog T14 := ok13.add (Sp.Body.ok ok13 (body_rel_Union_1) Tryd.func53 (by kernel_rfl) has53 low53 ress53 (fun _ => Nat.le_of_ble_eq_true rfl))
noncomputable def T15 : Tab := T14.add 76 (sp_h2 andW)
theorem ok15 : TabOK Tryd.prog T15 := ok14.add (Sp.Body.ok ok14 (body_rel_Inter_1) Tryd.func76 (by kernel_rfl) has76 low76 ress76 (fun _ => Nat.le_of_ble_eq_true rfl))
noncomputable def T16 : Tab := T15.add 61 (sp_h2 fstW)
theorem ok16 : TabOK Tryd.prog T16 := ok15.add (Sp.Body.ok ok15 (body_rel_Plus_1) Tryd.func61 (by kernel_rfl) has61 low61 ress61 (fun _ => Nat.le_of_ble_eq_true rfl))
noncomputable def T17 : Tab := T16.add 52 (sp_lay (hs4 53 76 53 61))
theorem ok17 : TabOK Tryd.prog T17 := ok16.add (Sp.Body.ok ok16 (bodyM_rel_lay (n1 := 49) (n2 := 62) (n_rel_Union_1 := 53) (n_rel_Inter_1 := 76) (n_rel_Plus_1 := 61) ⟨rfl, fun _ _ => rfl⟩ ⟨rfl, fun _ _ => rfl⟩ ⟨rfl, fun _ _ => rfl⟩ ⟨rfl, fun _ _ => rfl⟩ ⟨rfl, fun _ _ => rfl⟩) Tryd.func52 (by kernel_rfl) has52 low52 ress52 (fun _ => Nat.le_of_ble_eq_true rfl))
noncomputable def T18 : Tab := T17.add 37 (sp_lay2 qOr)
theorem ok18 : TabOK Tryd.prog T18 := ok17.add (Sp.Body.ok ok17 (body_rel_Union (n1 := 52) (n2 := 53) (n_rel_Union_1 := 53) (n_rel_Inter_1 := 76) (n_rel_Minus_1 := 53) (n_rel_Plus_1 := 61) ⟨rfl, fun _ _ => rfl⟩ rfl) Tryd.func37 (by kernel_rfl) has37 low37 ress37 (fun _ => Nat.le_of_ble_eq_true rfl))
noncomputable def T19 : Tab := T18.add 54 (cloneS 1 8)
theorem ok19 : TabOK Tryd.prog T19 := ok18.add (Sp.Body.ok ok18 (body_slices_Clone_uint64) Tryd.func54 (by kernel_rfl) has54 low54 ress54 (fun _ => Nat.le_of_ble_eq_true rfl))
noncomputable def T20 : Tab := T19.add 55 sp_atomic
theorem ok20 : TabOK Tryd.prog T20 := ok19.add (Sp.Body.ok ok19 (body_axiom_atomic) Tryd.func55 (by kernel_rfl) has55 low55 ress55 (fun _ => Nat.le_of_ble_eq_true rfl))
noncomputable def T21 : Tab := T20.add 38 sp_only
theorem ok21 : TabOK Tryd.prog T21 := ok20.add (Sp.Body.ok ok20 (body_axiom_only (n1 := 54) (n2 := 55) ⟨rfl, fun _ _ => rfl⟩ ⟨rfl, fun _ _ => rfl⟩) Tryd.func38 (by kernel_rfl) has38 low38 ress38 (fun _ => Nat.le_of_ble_eq_true rfl))
noncomputable def T22 : Tab := T21.add 44 sp_Plus
theorem ok22 : TabOK Tryd.prog T22 := ok21.add (Sp.Body.ok ok21 (body_rel_Plus (n1 := 52) (n2 := 61) (n_rel_Union_1 := 53) (n_rel_Inter_1 := 76) (n_rel_Minus_1 := 53) (n_rel_Plus_1 := 61) ⟨rfl, fun _ _ => rfl⟩ rfl) Tryd.func44 (by kernel_rfl) has44 low44 ress44 (fun _ => Nat.le_of_ble_eq_true rfl))
noncomputable def T23 : Tab := T22.add 17 sp_orderW
theorem ok23 : TabOK Tryd.prog T23 := ok22.add (Sp.Body.ok ok22 (body_axiom_Order (n1 := 37) (n2 := 38) (n3 := 44) ⟨rfl, fun _ _ => rfl⟩ ⟨rfl, fun _ _ => rfl⟩ ⟨rfl, fun _ _ => rfl⟩) Tryd.func17 (by kernel_rfl) has17 low17 ress17 (fun _ => Nat.le_of_ble_eq_true rfl))
noncomputable def T24 : Tab := T23.add 63 sp_tz
theorem ok24 : TabOK Tryd.prog T24 := ok23.add (Sp.Body.ok ok23 (body_math_bits_TrailingZeros64) Tryd.func63 (by kernel_rfl) has63 low63 ress63 (fun _ => Nat.le_of_ble_eq_true rfl))
noncomputable def T25 : Tab := T24.add 46 sp_Then
theorem ok25 : TabOK Tryd.prog T25 := ok24.add (Sp.Body.ok ok24 (body_rel_Then (n1 := 49) (n2 := 62) (n3 := 63) ⟨rfl, fun _ _ => rfl⟩ ⟨rfl, fun _ _ => rfl⟩ ⟨rfl, fun _ _ => rfl⟩) Tryd.func46 (by kernel_rfl) has46 low46 ress46 (fun _ => Nat.le_of_ble_eq_true rfl))
noncomputable def T26 : Tab := T25.add 47 sp_Back
theorem ok26 : TabOK Tryd.prog T26 := ok25.add (Sp.Body.ok ok25 (body_rel_Back (n1 := 49) (n2 := 62) (n3 := 63) ⟨rfl, fun _ _ => rfl⟩ ⟨rfl, fun _ _ => rfl⟩ ⟨rfl, fun _ _ => rfl⟩) Tryd.func47 (by kernel_rfl) has47 low47 ress47 (fun _ => Nat.le_of_ble_eq_true rfl))
noncomputable def T27 : Tab := T26.add 19 sp_frW
theorem ok27 : TabOK Tryd.prog T27 := ok26.add (Sp.Body.ok ok26 (body_axiom_Fr (n1 := 46) (n2 := 47) ⟨rfl, fun _ _ => rfl⟩ ⟨rfl, fun _ _ => rfl⟩) Tryd.func19 (by kernel_rfl) has19 low19 ress19 (fun _ => Nat.le_of_ble_eq_true rfl))
noncomputable def T28 : Tab := T27.add 36 sp_Ring
theorem ok28 : TabOK Tryd.prog T28 := ok27.add (Sp.Body.ok ok27 (body_rel_Ring (n1 := 44) ⟨rfl, fun _ _ => rfl⟩) Tryd.func36 (by kernel_rfl) has36 low36 ress36 (fun _ => Nat.le_of_ble_eq_true rfl))
noncomputable def T29 : Tab := T28.add 58 sp_nz
theorem ok29 : TabOK Tryd.prog T29 := ok28.add (Sp.Body.ok ok28 (body_axiom_meets_1) Tryd.func58 (by kernel_rfl) has58 low58 ress58 (fun _ => Nat.le_of_ble_eq_true rfl))
noncomputable def T30 : Tab := T29.add 75 (sp_findZ 58)
theorem ok30 : TabOK Tryd.prog T30 := ok29.add (Sp.Body.ok ok29 (body_slices_IndexFunc_uint64 (n_power_empty_1 := 58) ⟨rfl, fun _ _ => rfl⟩) Tryd.func75 (by kernel_rfl) has75 low75 ress75 (fun _ => Nat.le_of_ble_eq_true rfl))
noncomputable def T31 : Tab := T30.add 56 (sp_anyZ 58)
theorem ok31 : TabOK Tryd.prog T31 := ok30.add (Sp.Body.ok ok30 (body_slices_ContainsFunc_uint64 (n1 := 75) (n_power_empty_1 := 58) ⟨rfl, fun _ _ => rfl⟩) Tryd.func56 (by kernel_rfl) has56 low56 ress56 (fun _ => Nat.le_of_ble_eq_true rfl))
noncomputable def T32 : Tab := T31.add 57 (sp_lay2 qAnd)
theorem ok32 : TabOK Tryd.prog T32 := ok31.add (Sp.Body.ok ok31 (body_rel_Inter (n1 := 52) (n2 := 76) (n_rel_Union_1 := 53) (n_rel_Inter_1 := 76) (n_rel_Minus_1 := 53) (n_rel_Plus_1 := 61) ⟨rfl, fun _ _ => rfl⟩ rfl) Tryd.func57 (by kernel_rfl) has57 low57 ress57 (fun _ => Nat.le_of_ble_eq_true rfl))
noncomputable def T33 : Tab := T32.add 39 sp_meets
theorem ok33 : TabOK Tryd.prog T33 := ok32.add (Sp.Body.ok ok32 (body_axiom_meets (n1 := 47) (n2 := 56) (n3 := 57) (n_axiom_meets_1 := 58) ⟨rfl, fun _ _ => rfl⟩ ⟨rfl, fun _ _ => rfl⟩ ⟨rfl, fun _ _ => rfl⟩) Tryd.func39 (by kernel_rfl) has39 low39 ress39 (fun _ => Nat.le_of_ble_eq_true rfl))
noncomputable def T34 : Tab := T33.add 14 sp_chkW
theorem ok34 : TabOK Tryd.prog T34 := ok33.add (Sp.Body.ok ok33 (body_axiom_Check (n1 := 17) (n2 := 19) (n3 := 36) (n4 := 37) (n5 := 38) (n6 := 39) ⟨rfl, fun _ _ => rfl⟩ ⟨rfl, fun _ _ => rfl⟩ ⟨rfl, fun _ _ => rfl⟩ ⟨rfl, fun _ _ => rfl⟩ ⟨rfl, fun _ _ => rfl⟩ ⟨rfl, fun _ _ => rfl⟩) Tryd.func14 (by kernel_rfl) has14 low14 ress14 (fun _ => Nat.le_of_ble_eq_true rfl))
noncomputable def T35 : Tab := T34.add 21 sp_Has
theorem ok35 : TabOK Tryd.prog T35 := ok34.add (Sp.Body.ok ok34 (body_rel_Has (n1 := 49) ⟨rfl, fun _ _ => rfl⟩) Tryd.func21 (by kernel_rfl) has21 low21 ress21 (fun _ => Nat.le_of_ble_eq_true rfl))
noncomputable def T36 : Tab := T35.add 7 sp_true
theorem ok36 : TabOK Tryd.prog T36 := ok35.add (Sp.Body.ok ok35 (body_law23_awake (n1 := 9) (n2 := 14) (n3 := 17) (n4 := 19) (n5 := 21) ⟨rfl, fun _ _ => rfl⟩ ⟨rfl, fun _ _ => rfl⟩ ⟨rfl, fun _ _ => rfl⟩ ⟨rfl, fun _ _ => rfl⟩ ⟨rfl, fun _ _ => rfl⟩) Tryd.func7 (by kernel_rfl) has7 low7 ress7 (fun _ => Nat.le_of_ble_eq_true rfl))
noncomputable def T37 : Tab := T36.add 8 sp_small
theorem ok37 : TabOK Tryd.prog T37 := ok36.add (Sp.Body.ok ok36 (body_law23_small) Tryd.func8 (by kernel_rfl) has8 low8 ress8 (fun _ => Nat.le_of_ble_eq_true rfl))
noncomputable def T38 : Tab := T37.add 60 sp_size
theorem ok38 : TabOK Tryd.prog T38 := ok37.add (Sp.Body.ok ok37 (body_ref02_Size) Tryd.func60 (by kernel_rfl) has60 low60 ress60 (fun _ => Nat.le_of_ble_eq_true rfl))
noncomputable def T39 : Tab := T38.add 42 sp_Has
theorem ok39 : TabOK Tryd.prog T39 := ok38.add (Sp.Body.ok ok38 (body_ref02_Has (n1 := 60) ⟨rfl, fun _ _ => rfl⟩) Tryd.func42 (by kernel_rfl) has42 low42 ress42 (fun _ => Nat.le_of_ble_eq_true rfl))
noncomputable def T40 : Tab := T39.addG 31 ef_Put.at
theorem ok40 : TabOK Tryd.prog T40 := (eff_ref02_Put (n1 := 42) ⟨rfl, fun _ _ => rfl⟩).tab ok39 ok39 Tryd.func31 (by kernel_rfl) has31 low31 ress31 (fun _ => Nat.le_of_ble_eq_true rfl)
noncomputable def T41 : Tab := T40.add 41 sp_AtomR
theorem ok41 : TabOK Tryd.prog T41 := ok40.add (Sp.Body.ok ok40 (body_ref23_Atomic) Tryd.func41 (by kernel_rfl) has41 low41 ress41 (fun _ => Nat.le_of_ble_eq_true rfl))
noncomputable def T42 : Tab := T41.add 45 sp_Plus
theorem ok42 : TabOK Tryd.prog T42 := ok41.add (Sp.Body.ok ok41 (body_ref02_Plus (n1 := 42) (n2 := 31) (n3 := 60) ⟨rfl, fun _ _ => rfl⟩ ⟨rfl⟩ ⟨rfl, fun _ _ => rfl⟩) Tryd.func45 (by kernel_rfl) has45 low45 ress45 (fun _ => Nat.le_of_ble_eq_true rfl))
noncomputable def T43 : Tab := T42.add 18 sp_orderR
theorem ok43 : TabOK Tryd.prog T43 := ok42.add (Sp.Body.ok ok42 (body_ref23_Order (n1 := 31) (n2 := 41) (n3 := 42) (n4 := 45) ⟨rfl⟩ ⟨rfl, fun _ _ => rfl⟩ ⟨rfl, fun _ _ => rfl⟩ ⟨rfl, fun _ _ => rfl⟩) Tryd.func18 (by kernel_rfl) has18 low18 ress18 (fun _ => Nat.le_of_ble_eq_true rfl))
noncomputable def T44 : Tab := T43.add 48 sp_srcR
theorem ok44 : TabOK Tryd.prog T44 := ok43.add (Sp.Body.ok ok43 (body_ref23_source (n1 := 42) ⟨rfl, fun _ _ => rfl⟩) Tryd.func48 (by kernel_rfl) has48 low48 ress48 (fun _ => Nat.le_of_ble_eq_true rfl))
noncomputable def T45 : Tab := T44.add 20 sp_frR
theorem ok45 : TabOK Tryd.prog T45 := ok44.add (Sp.Body.ok ok44 (body_ref23_Fr (n1 := 31) (n2 := 42) (n3 := 48) ⟨rfl⟩ ⟨rfl, fun _ _ => rfl⟩ ⟨rfl, fun _ _ => rfl⟩) Tryd.func20 (by kernel_rfl) has20 low20 ress20 (fun _ => Nat.le_of_ble_eq_true rfl))
noncomputable def T46 : Tab := T45.add 59 sp_most
theorem ok46 : TabOK Tryd.prog T46 := ok45.add (Sp.Body.ok ok45 (body_ref02_most (n1 := 60) ⟨rfl, fun _ _ => rfl⟩) Tryd.func59 (by kernel_rfl) has59 low59 ress59 (fun _ => Nat.le_of_ble_eq_true rfl))
noncomputable def T47 : Tab := T46.add 40 sp_layR
theorem ok47 : TabOK Tryd.prog T47 := ok46.add (Sp.Body.ok ok46 (body_ref02_Lay (n1 := 42) (n2 := 31) (n3 := 59) ⟨rfl, fun _ _ => rfl⟩ ⟨rfl⟩ ⟨rfl, fun _ _ => rfl⟩) Tryd.func40 (by kernel_rfl) has40 low40 ress40 (fun _ => Nat.le_of_ble_eq_true rfl))
noncomputable def T48 : Tab := T47.add 43 sp_Ring
theorem ok48 : TabOK Tryd.prog T48 := ok47.add (Sp.Body.ok ok47 (body_ref02_Ring (n1 := 42) (n2 := 45) ⟨rfl, fun _ _ => rfl⟩ ⟨rfl, fun _ _ => rfl⟩) Tryd.func43 (by kernel_rfl) has43 low43 ress43 (fun _ => Nat.le_of_ble_eq_true rfl))
noncomputable def T49 : Tab := T48.add 15 sp_chkR
theorem ok49 : TabOK Tryd.prog T49 := ok48.add (Sp.Body.ok ok48 (body_ref23_Check (n1 := 18) (n2 := 20) (n3 := 31) (n4 := 40) (n5 := 41) (n6 := 42) (n7 := 43) ⟨rfl, fun _ _ => rfl⟩ ⟨rfl, fun _ _ => rfl⟩ ⟨rfl⟩ ⟨rfl, fun _ _ => rfl⟩ ⟨rfl, fun _ _ => rfl⟩ ⟨rfl, fun _ _ => rfl⟩ ⟨rfl, fun _ _ => rfl⟩) Tryd.func15 (by kernel_rfl) has15 low15 ress15 (fun _ => Nat.le_of_ble_eq_true rfl))
noncomputable def T50 : Tab := T49.add 16 sp_sameW
theorem ok50 : TabOK Tryd.prog T50 := ok49.add (Sp.Body.ok ok49 (body_ref02_Same) Tryd.func16 (by kernel_rfl) has16 low16 ress16 (fun _ => Nat.le_of_ble_eq_true rfl))
noncomputable abbrev TT : Tab := T50
theorem okT : TabOK Tryd.prog TT := ok50
/-- The law AxiomJudges, from its body. -/
theorem acalls_AxiomJudges {args : List AV} (ha : args.length ≤ Tryd.f4.ntmps) (h : Holds TT V_law23_AxiomJudges (L_law23_AxiomJudges 7 8 9 14 15 16 17 18 19 20) R_law23_AxiomJudges args) : ACalls Tryd.prog 4 args [] fun r _ => r = .d (.bool true) :=
  ACalls.of_vck okT V_law23_AxiomJudges Tryd.func4 (by kernel_rfl) has4 low4 ress4 ha h
end Go.Proofs.YtmknnljemhajoaaDoor
