/- The functions of this cut as the abstract machine has them, and the table of their contracts. Conditions: none. -/
import Derived.Test.YtkcdbaagjhgmcaaDoorChecked
import Derived.Test.YtkcdbaagjhgmcaaDoorAgoP7
import Derived.Test.YtkcdbaagjhgmcaaDoorAgoTied
set_option maxRecDepth 100000
set_option linter.unusedVariables false
namespace Go.Proofs.YtkcdbaagjhgmcaaDoor
open Go Go.Ago
theorem low52 : lowCode Tryd.prog Tryd.f52.ntmps (Tryd.f52.body.getD .skip) = some (L_rel_size) := by kernel_rfl
theorem ress52 : lowRess Tryd.prog Tryd.f52.results.toList = some R_rel_size := by kernel_rfl
theorem has52 : Tryd.f52.body = some (Tryd.f52.body.getD .skip) := by kernel_rfl
theorem low78 : lowCode Tryd.prog Tryd.f78.ntmps (Tryd.f78.body.getD .skip) = some (L_rel_all) := by kernel_rfl
theorem ress78 : lowRess Tryd.prog Tryd.f78.results.toList = some R_rel_all := by kernel_rfl
theorem has78 : Tryd.f78.body = some (Tryd.f78.body.getD .skip) := by kernel_rfl
theorem low53 : lowCode Tryd.prog Tryd.f53.ntmps (Tryd.f53.body.getD .skip) = some (L_rel_row 52 78) := by kernel_rfl
theorem ress53 : lowRess Tryd.prog Tryd.f53.results.toList = some R_rel_row := by kernel_rfl
theorem has53 : Tryd.f53.body = some (Tryd.f53.body.getD .skip) := by kernel_rfl
theorem low49 : lowCode Tryd.prog Tryd.f49.ntmps (Tryd.f49.body.getD .skip) = some (L_rel_Union_1) := by kernel_rfl
theorem ress49 : lowRess Tryd.prog Tryd.f49.results.toList = some R_rel_Union_1 := by kernel_rfl
theorem has49 : Tryd.f49.body = some (Tryd.f49.body.getD .skip) := by kernel_rfl
theorem low51 : lowCode Tryd.prog Tryd.f51.ntmps (Tryd.f51.body.getD .skip) = some (L_rel_Inter_1) := by kernel_rfl
theorem ress51 : lowRess Tryd.prog Tryd.f51.results.toList = some R_rel_Inter_1 := by kernel_rfl
theorem has51 : Tryd.f51.body = some (Tryd.f51.body.getD .skip) := by kernel_rfl
theorem low80 : lowCode Tryd.prog Tryd.f80.ntmps (Tryd.f80.body.getD .skip) = some (L_rel_Minus_1) := by kernel_rfl
theorem ress80 : lowRess Tryd.prog Tryd.f80.results.toList = some R_rel_Minus_1 := by kernel_rfl
theorem has80 : Tryd.f80.body = some (Tryd.f80.body.getD .skip) := by kernel_rfl
theorem low77 : lowCode Tryd.prog Tryd.f77.ntmps (Tryd.f77.body.getD .skip) = some (L_rel_Plus_1) := by kernel_rfl
theorem ress77 : lowRess Tryd.prog Tryd.f77.results.toList = some R_rel_Plus_1 := by kernel_rfl
theorem has77 : Tryd.f77.body = some (Tryd.f77.body.getD .skip) := by kernel_rfl
theorem low48 : lowCode Tryd.prog Tryd.f48.ntmps (Tryd.f48.body.getD .skip) = some (L_rel_lay 52 53) := by kernel_rfl
theorem ress48 : lowRess Tryd.prog Tryd.f48.results.toList = some R_rel_lay := by kernel_rfl
theorem has48 : Tryd.f48.body = some (Tryd.f48.body.getD .skip) := by kernel_rfl
theorem low20 : lowCode Tryd.prog Tryd.f20.ntmps (Tryd.f20.body.getD .skip) = some (L_rel_Union 48 49) := by kernel_rfl
theorem ress20 : lowRess Tryd.prog Tryd.f20.results.toList = some R_rel_Union := by kernel_rfl
theorem has20 : Tryd.f20.body = some (Tryd.f20.body.getD .skip) := by kernel_rfl
theorem low50 : lowCode Tryd.prog Tryd.f50.ntmps (Tryd.f50.body.getD .skip) = some (L_rel_Plus 48 77) := by kernel_rfl
theorem ress50 : lowRess Tryd.prog Tryd.f50.results.toList = some R_rel_Plus := by kernel_rfl
theorem has50 : Tryd.f50.body = some (Tryd.f50.body.getD .skip) := by kernel_rfl
theorem low21 : lowCode Tryd.prog Tryd.f21.ntmps (Tryd.f21.body.getD .skip) = some (L_rel_Ring 50) := by kernel_rfl
theorem ress21 : lowRess Tryd.prog Tryd.f21.results.toList = some R_rel_Ring := by kernel_rfl
theorem has21 : Tryd.f21.body = some (Tryd.f21.body.getD .skip) := by kernel_rfl
theorem low22 : lowCode Tryd.prog Tryd.f22.ntmps (Tryd.f22.body.getD .skip) = some (L_rel_Inter 48 51) := by kernel_rfl
theorem ress22 : lowRess Tryd.prog Tryd.f22.results.toList = some R_rel_Inter := by kernel_rfl
theorem has22 : Tryd.f22.body = some (Tryd.f22.body.getD .skip) := by kernel_rfl
theorem low54 : lowCode Tryd.prog Tryd.f54.ntmps (Tryd.f54.body.getD .skip) = some (L_math_bits_TrailingZeros64) := by kernel_rfl
theorem ress54 : lowRess Tryd.prog Tryd.f54.results.toList = some R_math_bits_TrailingZeros64 := by kernel_rfl
theorem has54 : Tryd.f54.body = some (Tryd.f54.body.getD .skip) := by kernel_rfl
theorem low23 : lowCode Tryd.prog Tryd.f23.ntmps (Tryd.f23.body.getD .skip) = some (L_rel_Then 52 53 54) := by kernel_rfl
theorem ress23 : lowRess Tryd.prog Tryd.f23.results.toList = some R_rel_Then := by kernel_rfl
theorem has23 : Tryd.f23.body = some (Tryd.f23.body.getD .skip) := by kernel_rfl
theorem low26 : lowCode Tryd.prog Tryd.f26.ntmps (Tryd.f26.body.getD .skip) = some (L_rel_Has 52) := by kernel_rfl
theorem ress26 : lowRess Tryd.prog Tryd.f26.results.toList = some R_rel_Has := by kernel_rfl
theorem has26 : Tryd.f26.body = some (Tryd.f26.body.getD .skip) := by kernel_rfl
theorem low56 : lowCode Tryd.prog Tryd.f56.ntmps (Tryd.f56.body.getD .skip) = some (L_power_fit 26) := by kernel_rfl
theorem ress56 : lowRess Tryd.prog Tryd.f56.results.toList = some R_power_fit := by kernel_rfl
theorem has56 : Tryd.f56.body = some (Tryd.f56.body.getD .skip) := by kernel_rfl
theorem low79 : lowCode Tryd.prog Tryd.f79.ntmps (Tryd.f79.body.getD .skip) = some (L_slices_Clone_uint64) := by kernel_rfl
theorem ress79 : lowRess Tryd.prog Tryd.f79.results.toList = some R_slices_Clone_uint64 := by kernel_rfl
theorem has79 : Tryd.f79.body = some (Tryd.f79.body.getD .skip) := by kernel_rfl
theorem low57 : lowCode Tryd.prog Tryd.f57.ntmps (Tryd.f57.body.getD .skip) = some (L_power_trim 79) := by kernel_rfl
theorem ress57 : lowRess Tryd.prog Tryd.f57.results.toList = some R_power_trim := by kernel_rfl
theorem has57 : Tryd.f57.body = some (Tryd.f57.body.getD .skip) := by kernel_rfl
theorem low27 : lowCode Tryd.prog Tryd.f27.ntmps (Tryd.f27.body.getD .skip) = some (L_power_of 56 57) := by kernel_rfl
theorem ress27 : lowRess Tryd.prog Tryd.f27.results.toList = some R_power_of := by kernel_rfl
theorem has27 : Tryd.f27.body = some (Tryd.f27.body.getD .skip) := by kernel_rfl
theorem low62 : lowCode Tryd.prog Tryd.f62.ntmps (Tryd.f62.body.getD .skip) = some (L_power_apart) := by kernel_rfl
theorem ress62 : lowRess Tryd.prog Tryd.f62.results.toList = some R_power_apart := by kernel_rfl
theorem has62 : Tryd.f62.body = some (Tryd.f62.body.getD .skip) := by kernel_rfl
theorem low63 : lowCode Tryd.prog Tryd.f63.ntmps (Tryd.f63.body.getD .skip) = some (L_power_model_poloc_1) := by kernel_rfl
theorem ress63 : lowRess Tryd.prog Tryd.f63.results.toList = some R_power_model_poloc_1 := by kernel_rfl
theorem has63 : Tryd.f63.body = some (Tryd.f63.body.getD .skip) := by kernel_rfl
theorem low61 : lowCode Tryd.prog Tryd.f61.ntmps (Tryd.f61.body.getD .skip) = some (L_power_model_where 26) := by kernel_rfl
theorem ress61 : lowRess Tryd.prog Tryd.f61.results.toList = some R_power_model_where := by kernel_rfl
theorem has61 : Tryd.f61.body = some (Tryd.f61.body.getD .skip) := by kernel_rfl
theorem low29 : lowCode Tryd.prog Tryd.f29.ntmps (Tryd.f29.body.getD .skip) = some (L_power_model_ext 61 62) := by kernel_rfl
theorem ress29 : lowRess Tryd.prog Tryd.f29.results.toList = some R_power_model_ext := by kernel_rfl
theorem has29 : Tryd.f29.body = some (Tryd.f29.body.getD .skip) := by kernel_rfl
theorem low30 : lowCode Tryd.prog Tryd.f30.ntmps (Tryd.f30.body.getD .skip) = some (L_rel_Star 50) := by kernel_rfl
theorem ress30 : lowRess Tryd.prog Tryd.f30.results.toList = some R_rel_Star := by kernel_rfl
theorem has30 : Tryd.f30.body = some (Tryd.f30.body.getD .skip) := by kernel_rfl
theorem low31 : lowCode Tryd.prog Tryd.f31.ntmps (Tryd.f31.body.getD .skip) = some (L_power_model_poloc 61 63) := by kernel_rfl
theorem ress31 : lowRess Tryd.prog Tryd.f31.results.toList = some R_power_model_poloc := by kernel_rfl
theorem has31 : Tryd.f31.body = some (Tryd.f31.body.getD .skip) := by kernel_rfl
theorem low58 : lowCode Tryd.prog Tryd.f58.ntmps (Tryd.f58.body.getD .skip) = some (L_rel_Minus 48 80) := by kernel_rfl
theorem ress58 : lowRess Tryd.prog Tryd.f58.results.toList = some R_rel_Minus := by kernel_rfl
theorem has58 : Tryd.f58.body = some (Tryd.f58.body.getD .skip) := by kernel_rfl
theorem low59 : lowCode Tryd.prog Tryd.f59.ntmps (Tryd.f59.body.getD .skip) = some (L_power_keep) := by kernel_rfl
theorem ress59 : lowRess Tryd.prog Tryd.f59.results.toList = some R_power_keep := by kernel_rfl
theorem has59 : Tryd.f59.body = some (Tryd.f59.body.getD .skip) := by kernel_rfl
theorem low60 : lowCode Tryd.prog Tryd.f60.ntmps (Tryd.f60.body.getD .skip) = some (L_power_all 20) := by kernel_rfl
theorem ress60 : lowRess Tryd.prog Tryd.f60.results.toList = some R_power_all := by kernel_rfl
theorem has60 : Tryd.f60.body = some (Tryd.f60.body.getD .skip) := by kernel_rfl
theorem low66 : lowCode Tryd.prog Tryd.f66.ntmps (Tryd.f66.body.getD .skip) = some (L_slices_Equal_uint64) := by kernel_rfl
theorem ress66 : lowRess Tryd.prog Tryd.f66.results.toList = some R_slices_Equal_uint64 := by kernel_rfl
theorem has66 : Tryd.f66.body = some (Tryd.f66.body.getD .skip) := by kernel_rfl
theorem low33 : lowCode Tryd.prog Tryd.f33.ntmps (Tryd.f33.body.getD .skip) = some (L_power_model_ppo 20 22 23 29 31 58 59 60 66) := by kernel_rfl
theorem ress33 : lowRess Tryd.prog Tryd.f33.results.toList = some R_power_model_ppo := by kernel_rfl
theorem has33 : Tryd.f33.body = some (Tryd.f33.body.getD .skip) := by kernel_rfl
theorem low28 : lowCode Tryd.prog Tryd.f28.ntmps (Tryd.f28.body.getD .skip) = some (L_power_model_made 20 23 29 30 33 58 59 60) := by kernel_rfl
theorem ress28 : lowRess Tryd.prog Tryd.f28.results.toList = some R_power_model_made := by kernel_rfl
theorem has28 : Tryd.f28.body = some (Tryd.f28.body.getD .skip) := by kernel_rfl
theorem low65 : lowCode Tryd.prog Tryd.f65.ntmps (Tryd.f65.body.getD .skip) = some (L_power_empty_1) := by kernel_rfl
theorem ress65 : lowRess Tryd.prog Tryd.f65.results.toList = some R_power_empty_1 := by kernel_rfl
theorem has65 : Tryd.f65.body = some (Tryd.f65.body.getD .skip) := by kernel_rfl
theorem low81 : lowCode Tryd.prog Tryd.f81.ntmps (Tryd.f81.body.getD .skip) = some (L_slices_IndexFunc_uint64) := by kernel_rfl
theorem ress81 : lowRess Tryd.prog Tryd.f81.results.toList = some R_slices_IndexFunc_uint64 := by kernel_rfl
theorem has81 : Tryd.f81.body = some (Tryd.f81.body.getD .skip) := by kernel_rfl
theorem low64 : lowCode Tryd.prog Tryd.f64.ntmps (Tryd.f64.body.getD .skip) = some (L_slices_ContainsFunc_uint64 81) := by kernel_rfl
theorem ress64 : lowRess Tryd.prog Tryd.f64.results.toList = some R_slices_ContainsFunc_uint64 := by kernel_rfl
theorem has64 : Tryd.f64.body = some (Tryd.f64.body.getD .skip) := by kernel_rfl
theorem low32 : lowCode Tryd.prog Tryd.f32.ntmps (Tryd.f32.body.getD .skip) = some (L_power_empty 64 65) := by kernel_rfl
theorem ress32 : lowRess Tryd.prog Tryd.f32.results.toList = some R_power_empty := by kernel_rfl
theorem has32 : Tryd.f32.body = some (Tryd.f32.body.getD .skip) := by kernel_rfl
theorem low10 : lowCode Tryd.prog Tryd.f10.ntmps (Tryd.f10.body.getD .skip) = some (L_power_Check 20 21 22 23 27 28 29 30 31 32) := by kernel_rfl
theorem ress10 : lowRess Tryd.prog Tryd.f10.results.toList = some R_power_Check := by kernel_rfl
theorem has10 : Tryd.f10.body = some (Tryd.f10.body.getD .skip) := by kernel_rfl
theorem low13 : lowCode Tryd.prog Tryd.f13.ntmps (Tryd.f13.body.getD .skip) = some (L_power_Ppo 27 33) := by kernel_rfl
theorem ress13 : lowRess Tryd.prog Tryd.f13.results.toList = some R_power_Ppo := by kernel_rfl
theorem has13 : Tryd.f13.body = some (Tryd.f13.body.getD .skip) := by kernel_rfl
theorem low9 : lowCode Tryd.prog Tryd.f9.ntmps (Tryd.f9.body.getD .skip) = some (L_law19_awake 10 13 26) := by kernel_rfl
theorem ress9 : lowRess Tryd.prog Tryd.f9.results.toList = some R_law19_awake := by kernel_rfl
theorem has9 : Tryd.f9.body = some (Tryd.f9.body.getD .skip) := by kernel_rfl
theorem low11 : lowCode Tryd.prog Tryd.f11.ntmps (Tryd.f11.body.getD .skip) = some (L_law19_few) := by kernel_rfl
theorem ress11 : lowRess Tryd.prog Tryd.f11.results.toList = some R_law19_few := by kernel_rfl
theorem has11 : Tryd.f11.body = some (Tryd.f11.body.getD .skip) := by kernel_rfl
theorem low12 : lowCode Tryd.prog Tryd.f12.ntmps (Tryd.f12.body.getD .skip) = some (L_ref02_Same) := by kernel_rfl
theorem ress12 : lowRess Tryd.prog Tryd.f12.results.toList = some R_ref02_Same := by kernel_rfl
theorem has12 : Tryd.f12.body = some (Tryd.f12.body.getD .skip) := by kernel_rfl
theorem low82 : lowCode Tryd.prog Tryd.f82.ntmps (Tryd.f82.body.getD .skip) = some (L_ref02_Size) := by kernel_rfl
theorem ress82 : lowRess Tryd.prog Tryd.f82.results.toList = some R_ref02_Size := by kernel_rfl
theorem has82 : Tryd.f82.body = some (Tryd.f82.body.getD .skip) := by kernel_rfl
theorem low67 : lowCode Tryd.prog Tryd.f67.ntmps (Tryd.f67.body.getD .skip) = some (L_ref02_Has 82) := by kernel_rfl
theorem ress67 : lowRess Tryd.prog Tryd.f67.results.toList = some R_ref02_Has := by kernel_rfl
theorem has67 : Tryd.f67.body = some (Tryd.f67.body.getD .skip) := by kernel_rfl
theorem low55 : lowCode Tryd.prog Tryd.f55.ntmps (Tryd.f55.body.getD .skip) = some (L_ref02_Put 67) := by kernel_rfl
theorem ress55 : lowRess Tryd.prog Tryd.f55.results.toList = some R_ref02_Put := by kernel_rfl
theorem has55 : Tryd.f55.body = some (Tryd.f55.body.getD .skip) := by kernel_rfl
theorem low24 : lowCode Tryd.prog Tryd.f24.ntmps (Tryd.f24.body.getD .skip) = some (L_ref19_Fit 55) := by kernel_rfl
theorem ress24 : lowRess Tryd.prog Tryd.f24.results.toList = some R_ref19_Fit := by kernel_rfl
theorem has24 : Tryd.f24.body = some (Tryd.f24.body.getD .skip) := by kernel_rfl
theorem low14 : lowCode Tryd.prog Tryd.f14.ntmps (Tryd.f14.body.getD .skip) = some (L_ref19_Fitted 24) := by kernel_rfl
theorem ress14 : lowRess Tryd.prog Tryd.f14.results.toList = some R_ref19_Fitted := by kernel_rfl
theorem has14 : Tryd.f14.body = some (Tryd.f14.body.getD .skip) := by kernel_rfl
theorem low34 : lowCode Tryd.prog Tryd.f34.ntmps (Tryd.f34.body.getD .skip) = some (L_ref19_part 55 67) := by kernel_rfl
theorem ress34 : lowRess Tryd.prog Tryd.f34.results.toList = some R_ref19_part := by kernel_rfl
theorem has34 : Tryd.f34.body = some (Tryd.f34.body.getD .skip) := by kernel_rfl
theorem low83 : lowCode Tryd.prog Tryd.f83.ntmps (Tryd.f83.body.getD .skip) = some (L_ref02_most 82) := by kernel_rfl
theorem ress83 : lowRess Tryd.prog Tryd.f83.results.toList = some R_ref02_most := by kernel_rfl
theorem has83 : Tryd.f83.body = some (Tryd.f83.body.getD .skip) := by kernel_rfl
theorem low68 : lowCode Tryd.prog Tryd.f68.ntmps (Tryd.f68.body.getD .skip) = some (L_ref02_Lay 67 55 83) := by kernel_rfl
theorem ress68 : lowRess Tryd.prog Tryd.f68.results.toList = some R_ref02_Lay := by kernel_rfl
theorem has68 : Tryd.f68.body = some (Tryd.f68.body.getD .skip) := by kernel_rfl
theorem low35 : lowCode Tryd.prog Tryd.f35.ntmps (Tryd.f35.body.getD .skip) = some (L_ref19_or 68) := by kernel_rfl
theorem ress35 : lowRess Tryd.prog Tryd.f35.results.toList = some R_ref19_or := by kernel_rfl
theorem has35 : Tryd.f35.body = some (Tryd.f35.body.getD .skip) := by kernel_rfl
theorem low36 : lowCode Tryd.prog Tryd.f36.ntmps (Tryd.f36.body.getD .skip) = some (L_ref19_and 68) := by kernel_rfl
theorem ress36 : lowRess Tryd.prog Tryd.f36.results.toList = some R_ref19_and := by kernel_rfl
theorem has36 : Tryd.f36.body = some (Tryd.f36.body.getD .skip) := by kernel_rfl
theorem low69 : lowCode Tryd.prog Tryd.f69.ntmps (Tryd.f69.body.getD .skip) = some (L_ref02_Then 67 55 83) := by kernel_rfl
theorem ress69 : lowRess Tryd.prog Tryd.f69.results.toList = some R_ref02_Then := by kernel_rfl
theorem has69 : Tryd.f69.body = some (Tryd.f69.body.getD .skip) := by kernel_rfl
theorem low37 : lowCode Tryd.prog Tryd.f37.ntmps (Tryd.f37.body.getD .skip) = some (L_ref19_then 69) := by kernel_rfl
theorem ress37 : lowRess Tryd.prog Tryd.f37.results.toList = some R_ref19_then := by kernel_rfl
theorem has37 : Tryd.f37.body = some (Tryd.f37.body.getD .skip) := by kernel_rfl
theorem low15 : lowCode Tryd.prog Tryd.f15.ntmps (Tryd.f15.body.getD .skip) = some (L_ref19_Ppo 12 34 35 36 37) := by kernel_rfl
theorem ress15 : lowRess Tryd.prog Tryd.f15.results.toList = some R_ref19_Ppo := by kernel_rfl
theorem has15 : Tryd.f15.body = some (Tryd.f15.body.getD .skip) := by kernel_rfl
theorem low16 : lowCode Tryd.prog Tryd.f16.ntmps (Tryd.f16.body.getD .skip) = some (L_power_Prop 27 28) := by kernel_rfl
theorem ress16 : lowRess Tryd.prog Tryd.f16.results.toList = some R_power_Prop := by kernel_rfl
theorem has16 : Tryd.f16.body = some (Tryd.f16.body.getD .skip) := by kernel_rfl
theorem low38 : lowCode Tryd.prog Tryd.f38.ntmps (Tryd.f38.body.getD .skip) = some (L_ref19_hb 15 34 35 68) := by kernel_rfl
theorem ress38 : lowRess Tryd.prog Tryd.f38.results.toList = some R_ref19_hb := by kernel_rfl
theorem has38 : Tryd.f38.body = some (Tryd.f38.body.getD .skip) := by kernel_rfl
theorem low70 : lowCode Tryd.prog Tryd.f70.ntmps (Tryd.f70.body.getD .skip) = some (L_ref02_Plus 67 55 82) := by kernel_rfl
theorem ress70 : lowRess Tryd.prog Tryd.f70.results.toList = some R_ref02_Plus := by kernel_rfl
theorem has70 : Tryd.f70.body = some (Tryd.f70.body.getD .skip) := by kernel_rfl
theorem low39 : lowCode Tryd.prog Tryd.f39.ntmps (Tryd.f39.body.getD .skip) = some (L_ref02_Star 70 55) := by kernel_rfl
theorem ress39 : lowRess Tryd.prog Tryd.f39.results.toList = some R_ref02_Star := by kernel_rfl
theorem has39 : Tryd.f39.body = some (Tryd.f39.body.getD .skip) := by kernel_rfl
theorem low17 : lowCode Tryd.prog Tryd.f17.ntmps (Tryd.f17.body.getD .skip) = some (L_ref19_Prop 34 35 37 38 39) := by kernel_rfl
theorem ress17 : lowRess Tryd.prog Tryd.f17.results.toList = some R_ref19_Prop := by kernel_rfl
theorem has17 : Tryd.f17.body = some (Tryd.f17.body.getD .skip) := by kernel_rfl
theorem low40 : lowCode Tryd.prog Tryd.f40.ntmps (Tryd.f40.body.getD .skip) = some (L_ref02_Ring 67 70) := by kernel_rfl
theorem ress40 : lowRess Tryd.prog Tryd.f40.results.toList = some R_ref02_Ring := by kernel_rfl
theorem has40 : Tryd.f40.body = some (Tryd.f40.body.getD .skip) := by kernel_rfl
theorem low41 : lowCode Tryd.prog Tryd.f41.ntmps (Tryd.f41.body.getD .skip) = some (L_ref19_self 67) := by kernel_rfl
theorem ress41 : lowRess Tryd.prog Tryd.f41.results.toList = some R_ref19_self := by kernel_rfl
theorem has41 : Tryd.f41.body = some (Tryd.f41.body.getD .skip) := by kernel_rfl
theorem low18 : lowCode Tryd.prog Tryd.f18.ntmps (Tryd.f18.body.getD .skip) = some (L_ref19_Check 17 34 35 36 37 38 39 40 41) := by kernel_rfl
theorem ress18 : lowRess Tryd.prog Tryd.f18.results.toList = some R_ref19_Check := by kernel_rfl
theorem has18 : Tryd.f18.body = some (Tryd.f18.body.getD .skip) := by kernel_rfl
theorem low5 : lowCode Tryd.prog Tryd.f5.ntmps (Tryd.f5.body.getD .skip) = some (L_law19_PowerJudges 9 10 11 12 13 14 15 16 17 18) := by kernel_rfl
theorem ress5 : lowRess Tryd.prog Tryd.f5.results.toList = some R_law19_PowerJudges := by kernel_rfl
theorem has5 : Tryd.f5.body = some (Tryd.f5.body.getD .skip) := by kernel_rfl
noncomputable def T0 : Tab := Tab.none
theorem ok0 : TabOK Tryd.prog T0 := TabOK.none
noncomputable def T1 : Tab := T0.add 52 sp_size
theorem ok1 : TabOK Tryd.prog T1 := ok0.add (Sp.Body.ok ok0 (body_rel_size) Tryd.func52 (by kernel_rfl) has52 low52 ress52 (fun _ => Nat.le_of_ble_eq_true rfl))
noncomputable def T2 : Tab := T1.add 78 sp_all
theorem ok2 : TabOK Tryd.prog T2 := ok1.add (Sp.Body.ok ok1 (body_rel_all) Tryd.func78 (by kernel_rfl) has78 low78 ress78 (fun _ => Nat.le_of_ble_eq_true rfl))
noncomputable def T3 : Tab := T2.add 53 sp_row
theorem ok3 : TabOK Tryd.prog T3 := ok2.add (Sp.Body.ok ok2 (body_rel_row (n1 := 52) (n2 := 78) ⟨rfl, fun _ _ => rfl⟩ ⟨rfl, fun _ _ => rfl⟩) Tryd.func53 (by kernel_rfl) has53 low53 ress53 (fun _ => Nat.le_of_ble_eq_true rfl))
noncomputable def T4 : Tab := T3.add 49 (sp_h2 orW)
theorem ok4 : TabOK Tryd.prog T4 := ok3.add (Sp.Body.ok ok3 (body_rel_Union_1) Tryd.func49 (by kernel_rfl) has49 low49 ress49 (fun _ => Nat.le_of_ble_eq_true rfl))
noncomputable def T5 : Tab := T4.add 51 (sp_h2 andW)
theorem ok5 : TabOK Tryd.prog T5 := ok4.add (Sp.Body.ok ok4 (body_rel_Inter_1) Tryd.func51 (by kernel_rfl) has51 low51 ress51 (fun _ => Nat.le_of_ble_eq_true rfl))
noncomputable def T6 : Tab := T5.add 80 (sp_h2 minusW)
theorem ok6 : TabOK Tryd.prog T6 := ok5.add (Sp.Body.ok ok5 (body_rel_Minus_1) Tryd.func80 (by kernel_rfl) has80 low80 ress80 (fun _ => Nat.le_of_ble_eq_true rfl))
noncomputable def T7 : Tab := T6.add 77 (sp_h2 fstW)
theorem ok7 : TabOK Tryd.prog T7 := ok6.add (Sp.Body.ok ok6 (body_rel_Plus_1) Tryd.func77 (by kernel_rfl) has77 low77 ress77 (fun _ => Nat.le_of_ble_eq_true rfl))
noncomputable def T8 : Tab := T7.add 48 (sp_lay (hs4 49 51 80 77))
theorem ok8 : TabOK Tryd.prog T8 := ok7.add (Sp.Body.ok ok7 (body_rel_lay (n1 := 52) (n2 := 53) (n_rel_Union_1 := 49) (n_rel_Inter_1 := 51) (n_rel_Minus_1 := 80) (n_rel_Plus_1 := 77) ⟨rfl, fun _ _ => rfl⟩ ⟨rfl, fun _ _ => rfl⟩ ⟨rfl, fun _ _ => rfl⟩ ⟨rfl, fun _ _ => rfl⟩ ⟨rfl, fun _ _ => rfl⟩ ⟨rfl, fun _ _ => rfl⟩) Tryd.func48 (by kernel_rfl) has48 low48 ress48 (fun _ => Nat.le_of_ble_eq_true rfl))
noncomputable def T9 : Tab := T8.add 20 (Sp.dat (sp_lay2 qOr))
theorem ok9 : TabOK Tryd.prog T9 := ok8.add (Sp.Body.ok ok8 (bodyD_rel_Union (n1 := 48) (n2 := 49) (n_rel_Union_1 := 49) (n_rel_Inter_1 := 51) (n_rel_Minus_1 := 80) (n_rel_Plus_1 := 77) ⟨rfl, fun _ _ => rfl⟩ rfl) Tryd.func20 (by kernel_rfl) has20 low20 ress20 (fun _ => Nat.le_of_ble_eq_true rfl))
noncomputable def T10 : Tab := T9.add 50 sp_Plus
theorem ok10 : TabOK Tryd.prog T10 := ok9.add (Sp.Body.ok ok9 (body_rel_Plus (n1 := 48) (n2 := 77) (n_rel_Union_1 := 49) (n_rel_Inter_1 := 51) (n_rel_Minus_1 := 80) (n_rel_Plus_1 := 77) ⟨rfl, fun _ _ => rfl⟩ rfl) Tryd.func50 (by kernel_rfl) has50 low50 ress50 (fun _ => Nat.le_of_ble_eq_true rfl))
noncomputable def T11 : Tab := T10.add 21 sp_Ring
theorem ok11 : TabOK Tryd.prog T11 := ok10.add (Sp.Body.ok ok10 (body_rel_Ring (n1 := 50) ⟨rfl, fun _ _ => rfl⟩) Tryd.func21 (by kernel_rfl) has21 low21 ress21 (fun _ => Nat.le_of_ble_eq_true rfl))
noncomputable def T12 : Tab := T11.add 22 (Sp.dat (sp_lay2 qAnd))
theorem ok12 : TabOK Tryd.prog T12 := ok11.add (Sp.Body.ok ok11 (bodyD_rel_Inter (n1 := 48) (n2 := 51) (n_rel_Union_1 := 49) (n_rel_Inter_1 := 51) (n_rel_Minus_1 := 80) (n_rel_Plus_1 := 77) ⟨rfl, fun _ _ => rfl⟩ rfl) Tryd.func22 (by kernel_rfl) has22 low22 ress22 (fun _ => Nat.le_of_ble_eq_true rfl))
noncomputable def T13 : Tab := T12.add 54 sp_tz
theorem ok13 : TabOK Tryd.prog T13 := ok12.add (Sp.Body.ok ok12 (body_math_bits_TrailingZeros64) Tryd.func54 (by kernel_rfl) has54 low54 ress54 (fun _ => Nat.le_of_ble_eq_true rfl))
noncomputable def T14 : Tab := T13.add 23 (Sp.dat sp_Then)
theorem ok14 : TabOK Tryd.prog T14 := ok13.add (Sp.Body.ok ok13 (bodyD_rel_Then (n1 := 52) (n2 := 53) (n3 := 54) ⟨rfl, fun _ _ => rfl⟩ ⟨rfl, fun _ _ => rfl⟩ ⟨rfl, fun _ _ => rfl⟩) Tryd.func23 (by kernel_rfl) has23 low23 ress23 (fun _ => Nat.le_of_ble_eq_true rfl))
noncomputable def T15 : Tab := T14.add 26 sp_Has
theorem ok15 : TabOK Tryd.prog T15 := ok14.add (Sp.Body.ok ok14 (body_rel_Has (n1 := 52) ⟨rfl, fun _ _ => rfl⟩) Tryd.func26 (by kernel_rfl) has26 low26 ress26 (fun _ => Nat.le_of_ble_eq_true rfl))
noncomputable def T16 : Tab := T15.add 56 sp_fit
theorem ok16 : TabOK Tryd.prog T16 := ok15.add (Sp.Body.ok ok15 (body_power_fit (n1 := 26) ⟨rfl, fun _ _ => rfl⟩) Tryd.func56 (by kernel_rfl) has56 low56 ress56 (fun _ => Nat.le_of_ble_eq_true rfl))
noncomputable def T17 : Tab := T16.add 79 (cloneS 1 8)
theorem ok17 : TabOK Tryd.prog T17 := ok16.add (Sp.Body.ok ok16 (body_slices_Clone_uint64) Tryd.func79 (by kernel_rfl) has79 low79 ress79 (fun _ => Nat.le_of_ble_eq_true rfl))
noncomputable def T18 : Tab := T17.add 57 sp_trim
theorem ok18 : TabOK Tryd.prog T18 := ok17.add (Sp.Body.ok ok17 (body_power_trim (n1 := 79) ⟨rfl, fun _ _ => rfl⟩) Tryd.func57 (by kernel_rfl) has57 low57 ress57 (fun _ => Nat.le_of_ble_eq_true rfl))
noncomputable def T19 : Tab := T18.add 27 sp_of
theorem ok19 : TabOK Tryd.prog T19 := ok18.add (Sp.Body.ok ok18 (body_power_of (n1 := 56) (n2 := 57) ⟨rfl, fun _ _ => rfl⟩ ⟨rfl, fun _ _ => rfl⟩) Tryd.func27 (by kernel_rfl) has27 low27 ress27 (fun _ => Nat.le_of_ble_eq_true rfl))
noncomputable def T20 : Tab := T19.add 62 (sp_node2 apartQ)
theorem ok20 : TabOK Tryd.prog T20 := ok19.add (Sp.Body.ok ok19 (body_power_apart) Tryd.func62 (by kernel_rfl) has62 low62 ress62 (fun _ => Nat.le_of_ble_eq_true rfl))
noncomputable def T21 : Tab := T20.add 63 (sp_node2 locQ)
theorem ok21 : TabOK Tryd.prog T21 := ok20.add (Sp.Body.ok ok20 (body_power_model_poloc_1) Tryd.func63 (by kernel_rfl) has63 low63 ress63 (fun _ => Nat.le_of_ble_eq_true rfl))
noncomputable def T22 : Tab := T21.add 61 (sp_where (qs2 62 63))
theorem ok22 : TabOK Tryd.prog T22 := ok21.add (Sp.Body.ok ok21 (body_power_model_where (n1 := 26) (n_power_apart := 62) (n_power_model_poloc_1 := 63) ⟨rfl, fun _ _ => rfl⟩ ⟨rfl, fun _ _ => rfl⟩ ⟨rfl, fun _ _ => rfl⟩) Tryd.func61 (by kernel_rfl) has61 low61 ress61 (fun _ => Nat.le_of_ble_eq_true rfl))
noncomputable def T23 : Tab := T22.add 29 sp_ext
theorem ok23 : TabOK Tryd.prog T23 := ok22.add (Sp.Body.ok ok22 (body_power_model_ext (n1 := 61) (n2 := 62) (n_power_apart := 62) (n_power_model_poloc_1 := 63) ⟨rfl, fun _ _ => rfl⟩ rfl) Tryd.func29 (by kernel_rfl) has29 low29 ress29 (fun _ => Nat.le_of_ble_eq_true rfl))
noncomputable def T24 : Tab := T23.add 30 (Sp.dat sp_Star)
theorem ok24 : TabOK Tryd.prog T24 := ok23.add (Sp.Body.ok ok23 (bodyD_rel_Star (n1 := 50) ⟨rfl, fun _ _ => rfl⟩) Tryd.func30 (by kernel_rfl) has30 low30 ress30 (fun _ => Nat.le_of_ble_eq_true rfl))
noncomputable def T25 : Tab := T24.add 31 sp_poloc
theorem ok25 : TabOK Tryd.prog T25 := ok24.add (Sp.Body.ok ok24 (body_power_model_poloc (n1 := 61) (n2 := 63) (n_power_apart := 62) (n_power_model_poloc_1 := 63) ⟨rfl, fun _ _ => rfl⟩ rfl) Tryd.func31 (by kernel_rfl) has31 low31 ress31 (fun _ => Nat.le_of_ble_eq_true rfl))
noncomputable def T26 : Tab := T25.add 58 (Sp.dat (sp_lay2 qMinus))
theorem ok26 : TabOK Tryd.prog T26 := ok25.add (Sp.Body.ok ok25 (bodyD_rel_Minus (n1 := 48) (n2 := 80) (n_rel_Union_1 := 49) (n_rel_Inter_1 := 51) (n_rel_Minus_1 := 80) (n_rel_Plus_1 := 77) ⟨rfl, fun _ _ => rfl⟩ rfl) Tryd.func58 (by kernel_rfl) has58 low58 ress58 (fun _ => Nat.le_of_ble_eq_true rfl))
noncomputable def T27 : Tab := T26.add 59 sp_keep
theorem ok27 : TabOK Tryd.prog T27 := ok26.add (Sp.Body.ok ok26 (body_power_keep) Tryd.func59 (by kernel_rfl) has59 low59 ress59 (fun _ => Nat.le_of_ble_eq_true rfl))
noncomputable def T28 : Tab := T27.add 60 sp_pall
theorem ok28 : TabOK Tryd.prog T28 := ok27.add (Sp.Body.ok ok27 (body_power_all (n1 := 20) ⟨rfl, fun _ _ => rfl⟩) Tryd.func60 (by kernel_rfl) has60 low60 ress60 (fun _ => Nat.le_of_ble_eq_true rfl))
noncomputable def T29 : Tab := T28.add 66 sp_eqW
theorem ok29 : TabOK Tryd.prog T29 := ok28.add (Sp.Body.ok ok28 (body_slices_Equal_uint64) Tryd.func66 (by kernel_rfl) has66 low66 ress66 (fun _ => Nat.le_of_ble_eq_true rfl))
noncomputable def T30 : Tab := T29.add 33 sp_ppo
theorem ok30 : TabOK Tryd.prog T30 := ok29.add (Sp.Body.ok ok29 (body_power_model_ppo (n1 := 20) (n2 := 22) (n3 := 23) (n4 := 29) (n5 := 31) (n6 := 58) (n7 := 59) (n8 := 60) (n9 := 66) ⟨rfl, fun _ _ => rfl⟩ ⟨rfl, fun _ _ => rfl⟩ ⟨rfl, fun _ _ => rfl⟩ ⟨rfl, fun _ _ => rfl⟩ ⟨rfl, fun _ _ => rfl⟩ ⟨rfl, fun _ _ => rfl⟩ ⟨rfl, fun _ _ => rfl⟩ ⟨rfl, fun _ _ => rfl⟩ ⟨rfl, fun _ _ => rfl⟩) Tryd.func33 (by kernel_rfl) has33 low33 ress33 (fun _ => Nat.le_of_ble_eq_true rfl))
noncomputable def T31 : Tab := T30.add 28 sp_made
theorem ok31 : TabOK Tryd.prog T31 := ok30.add (Sp.Body.ok ok30 (body_power_model_made (n1 := 20) (n2 := 23) (n3 := 29) (n4 := 30) (n5 := 33) (n6 := 58) (n7 := 59) (n8 := 60) ⟨rfl, fun _ _ => rfl⟩ ⟨rfl, fun _ _ => rfl⟩ ⟨rfl, fun _ _ => rfl⟩ ⟨rfl, fun _ _ => rfl⟩ ⟨rfl, fun _ _ => rfl⟩ ⟨rfl, fun _ _ => rfl⟩ ⟨rfl, fun _ _ => rfl⟩ ⟨rfl, fun _ _ => rfl⟩) Tryd.func28 (by kernel_rfl) has28 low28 ress28 (fun _ => Nat.le_of_ble_eq_true rfl))
noncomputable def T32 : Tab := T31.add 65 sp_nz
theorem ok32 : TabOK Tryd.prog T32 := ok31.add (Sp.Body.ok ok31 (body_power_empty_1) Tryd.func65 (by kernel_rfl) has65 low65 ress65 (fun _ => Nat.le_of_ble_eq_true rfl))
noncomputable def T33 : Tab := T32.add 81 (sp_findZ 65)
theorem ok33 : TabOK Tryd.prog T33 := ok32.add (Sp.Body.ok ok32 (body_slices_IndexFunc_uint64 (n_power_empty_1 := 65) ⟨rfl, fun _ _ => rfl⟩) Tryd.func81 (by kernel_rfl) has81 low81 ress81 (fun _ => Nat.le_of_ble_eq_true rfl))
noncomputable def T34 : Tab := T33.add 64 (sp_anyZ 65)
theorem ok34 : TabOK Tryd.prog T34 := ok33.add (Sp.Body.ok ok33 (body_slices_ContainsFunc_uint64 (n1 := 81) (n_power_empty_1 := 65) ⟨rfl, fun _ _ => rfl⟩) Tryd.func64 (by kernel_rfl) has64 low64 ress64 (fun _ => Nat.le_of_ble_eq_true rfl))
noncomputable def T35 : Tab := T34.add 32 sp_empty
theorem ok35 : TabOK Tryd.prog T35 := ok34.add (Sp.Body.ok ok34 (body_power_empty (n1 := 64) (n_power_empty_1 := 65) ⟨rfl, fun _ _ => rfl⟩) Tryd.func32 (by kernel_rfl) has32 low32 ress32 (fun _ => Nat.le_of_ble_eq_true rfl))
noncomputable def T36 : Tab := T35.add 10 sp_Check
theorem ok36 : TabOK Tryd.prog T36 := ok35.add (Sp.Body.ok ok35 (body_power_Check (n1 := 20) (n2 := 21) (n3 := 22) (n4 := 23) (n5 := 27) (n6 := 28) (n7 := 29) (n8 := 30) (n9 := 31) (n10 := 32) ⟨rfl, fun _ _ => rfl⟩ ⟨rfl, fun _ _ => rfl⟩ ⟨rfl, fun _ _ => rfl⟩ ⟨rfl, fun _ _ => rfl⟩ ⟨rfl, fun _ _ => rfl⟩ ⟨rfl, fun _ _ => rfl⟩ ⟨rfl, fun _ _ => rfl⟩ ⟨rfl, fun _ _ => rfl⟩ ⟨rfl, fun _ _ => rfl⟩ ⟨rfl, fun _ _ => rfl⟩) Tryd.func10 (by kernel_rfl) has10 low10 ress10 (fun _ => Nat.le_of_ble_eq_true rfl))
noncomputable def T37 : Tab := T36.add 13 sp_Ppo
theorem ok37 : TabOK Tryd.prog T37 := ok36.add (Sp.Body.ok ok36 (body_power_Ppo (n1 := 27) (n2 := 33) ⟨rfl, fun _ _ => rfl⟩ ⟨rfl, fun _ _ => rfl⟩) Tryd.func13 (by kernel_rfl) has13 low13 ress13 (fun _ => Nat.le_of_ble_eq_true rfl))
noncomputable def T38 : Tab := T37.add 9 sp_true
theorem ok38 : TabOK Tryd.prog T38 := ok37.add (Sp.Body.ok ok37 (body_law19_awake (n1 := 10) (n2 := 13) (n3 := 26) ⟨rfl, fun _ _ => rfl⟩ ⟨rfl, fun _ _ => rfl⟩ ⟨rfl, fun _ _ => rfl⟩) Tryd.func9 (by kernel_rfl) has9 low9 ress9 (fun _ => Nat.le_of_ble_eq_true rfl))
noncomputable def T39 : Tab := T38.add 11 sp_few
theorem ok39 : TabOK Tryd.prog T39 := ok38.add (Sp.Body.ok ok38 (body_law19_few) Tryd.func11 (by kernel_rfl) has11 low11 ress11 (fun _ => Nat.le_of_ble_eq_true rfl))
noncomputable def T40 : Tab := T39.add 12 sp_sameW
theorem ok40 : TabOK Tryd.prog T40 := ok39.add (Sp.Body.ok ok39 (body_ref02_Same) Tryd.func12 (by kernel_rfl) has12 low12 ress12 (fun _ => Nat.le_of_ble_eq_true rfl))
noncomputable def T41 : Tab := T40.add 82 sp_size
theorem ok41 : TabOK Tryd.prog T41 := ok40.add (Sp.Body.ok ok40 (body_ref02_Size) Tryd.func82 (by kernel_rfl) has82 low82 ress82 (fun _ => Nat.le_of_ble_eq_true rfl))
noncomputable def T42 : Tab := T41.add 67 sp_Has
theorem ok42 : TabOK Tryd.prog T42 := ok41.add (Sp.Body.ok ok41 (body_ref02_Has (n1 := 82) ⟨rfl, fun _ _ => rfl⟩) Tryd.func67 (by kernel_rfl) has67 low67 ress67 (fun _ => Nat.le_of_ble_eq_true rfl))
noncomputable def T43 : Tab := T42.addG 55 ef_Put.at
theorem ok43 : TabOK Tryd.prog T43 := (eff_ref02_Put (n1 := 67) ⟨rfl, fun _ _ => rfl⟩).tab ok42 ok42 Tryd.func55 (by kernel_rfl) has55 low55 ress55 (fun _ => Nat.le_of_ble_eq_true rfl)
noncomputable def T44 : Tab := T43.add 24 sp_Fit
theorem ok44 : TabOK Tryd.prog T44 := ok43.add (Sp.Body.ok ok43 (body_ref19_Fit (n1 := 55) ⟨rfl⟩) Tryd.func24 (by kernel_rfl) has24 low24 ress24 (fun _ => Nat.le_of_ble_eq_true rfl))
noncomputable def T45 : Tab := T44.add 14 sp_Fitted
theorem ok45 : TabOK Tryd.prog T45 := ok44.add (Sp.Body.ok ok44 (body_ref19_Fitted (n1 := 24) ⟨rfl, fun _ _ => rfl⟩) Tryd.func14 (by kernel_rfl) has14 low14 ress14 (fun _ => Nat.le_of_ble_eq_true rfl))
noncomputable def T46 : Tab := T45.add 34 sp_part
theorem ok46 : TabOK Tryd.prog T46 := ok45.add (Sp.Body.ok ok45 (body_ref19_part (n1 := 55) (n2 := 67) ⟨rfl⟩ ⟨rfl, fun _ _ => rfl⟩) Tryd.func34 (by kernel_rfl) has34 low34 ress34 (fun _ => Nat.le_of_ble_eq_true rfl))
noncomputable def T47 : Tab := T46.add 83 sp_most
theorem ok47 : TabOK Tryd.prog T47 := ok46.add (Sp.Body.ok ok46 (body_ref02_most (n1 := 82) ⟨rfl, fun _ _ => rfl⟩) Tryd.func83 (by kernel_rfl) has83 low83 ress83 (fun _ => Nat.le_of_ble_eq_true rfl))
noncomputable def T48 : Tab := T47.add 68 (Sp.dat sp_layR)
theorem ok48 : TabOK Tryd.prog T48 := ok47.add (Sp.Body.ok ok47 (bodyD_ref02_Lay (n1 := 67) (n2 := 55) (n3 := 83) ⟨rfl, fun _ _ => rfl⟩ ⟨rfl⟩ ⟨rfl, fun _ _ => rfl⟩) Tryd.func68 (by kernel_rfl) has68 low68 ress68 (fun _ => Nat.le_of_ble_eq_true rfl))
noncomputable def T49 : Tab := T48.add 35 sp_or19
theorem ok49 : TabOK Tryd.prog T49 := ok48.add (Sp.Body.ok ok48 (bodyD_ref19_or (n1 := 68) ⟨rfl, fun _ _ => rfl⟩) Tryd.func35 (by kernel_rfl) has35 low35 ress35 (fun _ => Nat.le_of_ble_eq_true rfl))
noncomputable def T50 : Tab := T49.add 36 sp_and19
theorem ok50 : TabOK Tryd.prog T50 := ok49.add (Sp.Body.ok ok49 (body_ref19_and (n1 := 68) ⟨rfl, fun _ _ => rfl⟩) Tryd.func36 (by kernel_rfl) has36 low36 ress36 (fun _ => Nat.le_of_ble_eq_true rfl))
noncomputable def T51 : Tab := T50.add 69 (Sp.dat sp_Then)
theorem ok51 : TabOK Tryd.prog T51 := ok50.add (Sp.Body.ok ok50 (bodyD_ref02_Then (n1 := 67) (n2 := 55) (n3 := 83) ⟨rfl, fun _ _ => rfl⟩ ⟨rfl⟩ ⟨rfl, fun _ _ => rfl⟩) Tryd.func69 (by kernel_rfl) has69 low69 ress69 (fun _ => Nat.le_of_ble_eq_true rfl))
noncomputable def T52 : Tab := T51.add 37 sp_then19
theorem ok52 : TabOK Tryd.prog T52 := ok51.add (Sp.Body.ok ok51 (bodyD_ref19_then (n1 := 69) ⟨rfl, fun _ _ => rfl⟩) Tryd.func37 (by kernel_rfl) has37 low37 ress37 (fun _ => Nat.le_of_ble_eq_true rfl))
noncomputable def T53 : Tab := T52.add 15 sp_PpoR
theorem ok53 : TabOK Tryd.prog T53 := ok52.add (Sp.Body.ok ok52 (body_ref19_Ppo (n1 := 12) (n2 := 34) (n3 := 35) (n4 := 36) (n5 := 37) ⟨rfl, fun _ _ => rfl⟩ ⟨rfl, fun _ _ => rfl⟩ ⟨rfl, fun _ _ => rfl⟩ ⟨rfl, fun _ _ => rfl⟩ ⟨rfl, fun _ _ => rfl⟩) Tryd.func15 (by kernel_rfl) has15 low15 ress15 (fun _ => Nat.le_of_ble_eq_true rfl))
noncomputable def T54 : Tab := T53.add 16 sp_Prop
theorem ok54 : TabOK Tryd.prog T54 := ok53.add (Sp.Body.ok ok53 (body_power_Prop (n1 := 27) (n2 := 28) ⟨rfl, fun _ _ => rfl⟩ ⟨rfl, fun _ _ => rfl⟩) Tryd.func16 (by kernel_rfl) has16 low16 ress16 (fun _ => Nat.le_of_ble_eq_true rfl))
noncomputable def T55 : Tab := T54.add 38 sp_hbR
theorem ok55 : TabOK Tryd.prog T55 := ok54.add (Sp.Body.ok ok54 (body_ref19_hb (n1 := 15) (n2 := 34) (n3 := 35) (n4 := 68) ⟨rfl, fun _ _ => rfl⟩ ⟨rfl, fun _ _ => rfl⟩ ⟨rfl, fun _ _ => rfl⟩ ⟨rfl, fun _ _ => rfl⟩) Tryd.func38 (by kernel_rfl) has38 low38 ress38 (fun _ => Nat.le_of_ble_eq_true rfl))
noncomputable def T56 : Tab := T55.add 70 sp_Plus
theorem ok56 : TabOK Tryd.prog T56 := ok55.add (Sp.Body.ok ok55 (body_ref02_Plus (n1 := 67) (n2 := 55) (n3 := 82) ⟨rfl, fun _ _ => rfl⟩ ⟨rfl⟩ ⟨rfl, fun _ _ => rfl⟩) Tryd.func70 (by kernel_rfl) has70 low70 ress70 (fun _ => Nat.le_of_ble_eq_true rfl))
noncomputable def T57 : Tab := T56.add 39 (Sp.dat sp_Star)
theorem ok57 : TabOK Tryd.prog T57 := ok56.add (Sp.Body.ok ok56 (bodyD_ref02_Star (n1 := 70) (n2 := 55) ⟨rfl, fun _ _ => rfl⟩ ⟨rfl⟩) Tryd.func39 (by kernel_rfl) has39 low39 ress39 (fun _ => Nat.le_of_ble_eq_true rfl))
noncomputable def T58 : Tab := T57.add 17 sp_PropR
theorem ok58 : TabOK Tryd.prog T58 := ok57.add (Sp.Body.ok ok57 (body_ref19_Prop (n1 := 34) (n2 := 35) (n3 := 37) (n4 := 38) (n5 := 39) ⟨rfl, fun _ _ => rfl⟩ ⟨rfl, fun _ _ => rfl⟩ ⟨rfl, fun _ _ => rfl⟩ ⟨rfl, fun _ _ => rfl⟩ ⟨rfl, fun _ _ => rfl⟩) Tryd.func17 (by kernel_rfl) has17 low17 ress17 (fun _ => Nat.le_of_ble_eq_true rfl))
noncomputable def T59 : Tab := T58.add 40 sp_Ring
theorem ok59 : TabOK Tryd.prog T59 := ok58.add (Sp.Body.ok ok58 (body_ref02_Ring (n1 := 67) (n2 := 70) ⟨rfl, fun _ _ => rfl⟩ ⟨rfl, fun _ _ => rfl⟩) Tryd.func40 (by kernel_rfl) has40 low40 ress40 (fun _ => Nat.le_of_ble_eq_true rfl))
noncomputable def T60 : Tab := T59.add 41 sp_selfR
theorem ok60 : TabOK Tryd.prog T60 := ok59.add (Sp.Body.ok ok59 (body_ref19_self (n1 := 67) ⟨rfl, fun _ _ => rfl⟩) Tryd.func41 (by kernel_rfl) has41 low41 ress41 (fun _ => Nat.le_of_ble_eq_true rfl))
noncomputable def T61 : Tab := T60.add 18 sp_CheckR
theorem ok61 : TabOK Tryd.prog T61 := ok60.add (Sp.Body.ok ok60 (body_ref19_Check (n1 := 17) (n2 := 34) (n3 := 35) (n4 := 36) (n5 := 37) (n6 := 38) (n7 := 39) (n8 := 40) (n9 := 41) ⟨rfl, fun _ _ => rfl⟩ ⟨rfl, fun _ _ => rfl⟩ ⟨rfl, fun _ _ => rfl⟩ ⟨rfl, fun _ _ => rfl⟩ ⟨rfl, fun _ _ => rfl⟩ ⟨rfl, fun _ _ => rfl⟩ ⟨rfl, fun _ _ => rfl⟩ ⟨rfl, fun _ _ => rfl⟩ ⟨rfl, fun _ _ => rfl⟩) Tryd.func18 (by kernel_rfl) has18 low18 ress18 (fun _ => Nat.le_of_ble_eq_true rfl))
noncomputable abbrev TT : Tab := T61
theorem okT : TabOK Tryd.prog TT := ok61
/-- The law PowerJudges, from its body. -/
theorem acalls_PowerJudges {args : List AV} (ha : args.length ≤ Tryd.f5.ntmps) (h : Holds TT V_law19_PowerJudges (L_law19_PowerJudges 9 10 11 12 13 14 15 16 17 18) R_law19_PowerJudges args) : ACalls Tryd.prog 5 args [] fun r _ => r = .d (.bool true) :=
  ACalls.of_vck okT V_law19_PowerJudges Tryd.func5 (by kernel_rfl) has5 low5 ress5 ha h
end Go.Proofs.YtkcdbaagjhgmcaaDoor
