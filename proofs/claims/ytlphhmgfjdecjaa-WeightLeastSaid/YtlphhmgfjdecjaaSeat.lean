/- The functions of this cut as the abstract machine has them, and the table of their contracts. Conditions: none. -/
import Derived.Test.YtlphhmgfjdecjaaChecked
import Derived.Test.YtlphhmgfjdecjaaAgoP5
set_option maxRecDepth 100000
set_option linter.unusedVariables false
namespace Go.Proofs.Ytlphhmgfjdecjaa
open Go Go.Ago
theorem low21 : lowCode Try.prog Try.f21.ntmps (Try.f21.body.getD .skip) = some (L_math_Signbit) := by kernel_rfl
theorem ress21 : lowRess Try.prog Try.f21.results.toList = some R_math_Signbit := by kernel_rfl
theorem has21 : Try.f21.body = some (Try.f21.body.getD .skip) := by kernel_rfl
theorem low28 : lowCode Try.prog Try.f28.ntmps (Try.f28.body.getD .skip) = some (L_cmp_isNaN_float64) := by kernel_rfl
theorem ress28 : lowRess Try.prog Try.f28.results.toList = some R_cmp_isNaN_float64 := by kernel_rfl
theorem has28 : Try.f28.body = some (Try.f28.body.getD .skip) := by kernel_rfl
theorem low22 : lowCode Try.prog Try.f22.ntmps (Try.f22.body.getD .skip) = some (L_cmp_Less_float64 28) := by kernel_rfl
theorem ress22 : lowRess Try.prog Try.f22.results.toList = some R_cmp_Less_float64 := by kernel_rfl
theorem has22 : Try.f22.body = some (Try.f22.body.getD .skip) := by kernel_rfl
theorem low10 : lowCode Try.prog Try.f10.ntmps (Try.f10.body.getD .skip) = some (L_weight_Less 21 22) := by kernel_rfl
theorem ress10 : lowRess Try.prog Try.f10.results.toList = some R_weight_Less := by kernel_rfl
theorem has10 : Try.f10.body = some (Try.f10.body.getD .skip) := by kernel_rfl
theorem low12 : lowCode Try.prog Try.f12.ntmps (Try.f12.body.getD .skip) = some (L_weight_Of) := by kernel_rfl
theorem ress12 : lowRess Try.prog Try.f12.results.toList = some R_weight_Of := by kernel_rfl
theorem has12 : Try.f12.body = some (Try.f12.body.getD .skip) := by kernel_rfl
theorem low18 : lowCode Try.prog Try.f18.ntmps (Try.f18.body.getD .skip) = some (L_weight_Least 10) := by kernel_rfl
theorem ress18 : lowRess Try.prog Try.f18.results.toList = some R_weight_Least := by kernel_rfl
theorem has18 : Try.f18.body = some (Try.f18.body.getD .skip) := by kernel_rfl
theorem low8 : lowCode Try.prog Try.f8.ntmps (Try.f8.body.getD .skip) = some (L_law03_awake 10 12 18) := by kernel_rfl
theorem ress8 : lowRess Try.prog Try.f8.results.toList = some R_law03_awake := by kernel_rfl
theorem has8 : Try.f8.body = some (Try.f8.body.getD .skip) := by kernel_rfl
theorem low15 : lowCode Try.prog Try.f15.ntmps (Try.f15.body.getD .skip) = some (L_law03_floats) := by kernel_rfl
theorem ress15 : lowRess Try.prog Try.f15.results.toList = some R_law03_floats := by kernel_rfl
theorem has15 : Try.f15.body = some (Try.f15.body.getD .skip) := by kernel_rfl
theorem low24 : lowCode Try.prog Try.f24.ntmps (Try.f24.body.getD .skip) = some (L_math_NaN) := by kernel_rfl
theorem ress24 : lowRess Try.prog Try.f24.results.toList = some R_math_NaN := by kernel_rfl
theorem has24 : Try.f24.body = some (Try.f24.body.getD .skip) := by kernel_rfl
theorem low25 : lowCode Try.prog Try.f25.ntmps (Try.f25.body.getD .skip) = some (L_slices_Clone_float64) := by kernel_rfl
theorem ress25 : lowRess Try.prog Try.f25.results.toList = some R_slices_Clone_float64 := by kernel_rfl
theorem has25 : Try.f25.body = some (Try.f25.body.getD .skip) := by kernel_rfl
theorem low27 : lowCode Try.prog Try.f27.ntmps (Try.f27.body.getD .skip) = some (L_weight_Middle_1 10) := by kernel_rfl
theorem ress27 : lowRess Try.prog Try.f27.results.toList = some R_weight_Middle_1 := by kernel_rfl
theorem has27 : Try.f27.body = some (Try.f27.body.getD .skip) := by kernel_rfl
theorem low16 : lowCode Try.prog Try.f16.ntmps (Try.f16.body.getD .skip) = some (L_weight_Middle 24 25 26 27) := by kernel_rfl
theorem ress16 : lowRess Try.prog Try.f16.results.toList = some R_weight_Middle := by kernel_rfl
theorem has16 : Try.f16.body = some (Try.f16.body.getD .skip) := by kernel_rfl
theorem low23 : lowCode Try.prog Try.f23.ntmps (Try.f23.body.getD .skip) = some (L_ref03_NaN) := by kernel_rfl
theorem ress23 : lowRess Try.prog Try.f23.results.toList = some R_ref03_NaN := by kernel_rfl
theorem has23 : Try.f23.body = some (Try.f23.body.getD .skip) := by kernel_rfl
theorem low11 : lowCode Try.prog Try.f11.ntmps (Try.f11.body.getD .skip) = some (L_ref03_Rank 23) := by kernel_rfl
theorem ress11 : lowRess Try.prog Try.f11.results.toList = some R_ref03_Rank := by kernel_rfl
theorem has11 : Try.f11.body = some (Try.f11.body.getD .skip) := by kernel_rfl
theorem low17 : lowCode Try.prog Try.f17.ntmps (Try.f17.body.getD .skip) = some (L_ref03_Middle 11) := by kernel_rfl
theorem ress17 : lowRess Try.prog Try.f17.results.toList = some R_ref03_Middle := by kernel_rfl
theorem has17 : Try.f17.body = some (Try.f17.body.getD .skip) := by kernel_rfl
theorem low19 : lowCode Try.prog Try.f19.ntmps (Try.f19.body.getD .skip) = some (L_ref03_Least 11) := by kernel_rfl
theorem ress19 : lowRess Try.prog Try.f19.results.toList = some R_ref03_Least := by kernel_rfl
theorem has19 : Try.f19.body = some (Try.f19.body.getD .skip) := by kernel_rfl
theorem low20 : lowCode Try.prog Try.f20.ntmps (Try.f20.body.getD .skip) = some (L_ref03_Alike 11) := by kernel_rfl
theorem ress20 : lowRess Try.prog Try.f20.results.toList = some R_ref03_Alike := by kernel_rfl
theorem has20 : Try.f20.body = some (Try.f20.body.getD .skip) := by kernel_rfl
theorem low7 : lowCode Try.prog Try.f7.ntmps (Try.f7.body.getD .skip) = some (L_law03_WeightLeast 8 15 16 17 18 19 20) := by kernel_rfl
theorem ress7 : lowRess Try.prog Try.f7.results.toList = some R_law03_WeightLeast := by kernel_rfl
theorem has7 : Try.f7.body = some (Try.f7.body.getD .skip) := by kernel_rfl
noncomputable def T0 : Tab := Tab.none
theorem ok0 : TabOK Try.prog T0 := TabOK.none
noncomputable def T1 : Tab := T0.add 21 (sp_fb fNeg)
theorem ok1 : TabOK Try.prog T1 := ok0.add (Sp.Body.ok ok0 (body_math_Signbit) Try.func21 (by kernel_rfl) has21 low21 ress21 (fun _ => Nat.le_of_ble_eq_true rfl))
noncomputable def T2 : Tab := T1.add 28 (sp_fb fNaN)
theorem ok2 : TabOK Try.prog T2 := ok1.add (Sp.Body.ok ok1 (body_cmp_isNaN_float64) Try.func28 (by kernel_rfl) has28 low28 ress28 (fun _ => Nat.le_of_ble_eq_true rfl))
noncomputable def T3 : Tab := T2.add 22 (sp_fb2 fCmp)
theorem ok3 : TabOK Try.prog T3 := ok2.add (Sp.Body.ok ok2 (body_cmp_Less_float64 (n1 := 28) ⟨rfl, fun _ _ => rfl⟩) Try.func22 (by kernel_rfl) has22 low22 ress22 (fun _ => Nat.le_of_ble_eq_true rfl))
noncomputable def T4 : Tab := T3.add 10 (sp_fb2 fLess)
theorem ok4 : TabOK Try.prog T4 := ok3.add (Sp.Body.ok ok3 (body_weight_Less (n1 := 21) (n2 := 22) ⟨rfl, fun _ _ => rfl⟩ ⟨rfl, fun _ _ => rfl⟩) Try.func10 (by kernel_rfl) has10 low10 ress10 (fun _ => Nat.le_of_ble_eq_true rfl))
noncomputable def T5 : Tab := T4.add 12 sp_wOf
theorem ok5 : TabOK Try.prog T5 := ok4.add (Sp.Body.ok ok4 (body_weight_Of) Try.func12 (by kernel_rfl) has12 low12 ress12 (fun _ => Nat.le_of_ble_eq_true rfl))
noncomputable def T6 : Tab := T5.add 18 sp_least
theorem ok6 : TabOK Try.prog T6 := ok5.add (Sp.Body.ok ok5 (body_weight_Least (n1 := 10) ⟨rfl, fun _ _ => rfl⟩) Try.func18 (by kernel_rfl) has18 low18 ress18 (fun _ => Nat.le_of_ble_eq_true rfl))
noncomputable def T7 : Tab := T6.add 8 sp_true
theorem ok7 : TabOK Try.prog T7 := ok6.add (Sp.Body.ok ok6 (body_law03_awake (n1 := 10) (n2 := 12) (n3 := 18) ⟨rfl, fun _ _ => rfl⟩ ⟨rfl, fun _ _ => rfl⟩ ⟨rfl, fun _ _ => rfl⟩) Try.func8 (by kernel_rfl) has8 low8 ress8 (fun _ => Nat.le_of_ble_eq_true rfl))
noncomputable def T8 : Tab := T7.add 15 sp_floats
theorem ok8 : TabOK Try.prog T8 := ok7.add (Sp.Body.ok ok7 (body_law03_floats) Try.func15 (by kernel_rfl) has15 low15 ress15 (fun _ => Nat.le_of_ble_eq_true rfl))
noncomputable def T9 : Tab := T8.add 24 sp_nanW
theorem ok9 : TabOK Try.prog T9 := ok8.add (Sp.Body.ok ok8 (body_math_NaN) Try.func24 (by kernel_rfl) has24 low24 ress24 (fun _ => Nat.le_of_ble_eq_true rfl))
noncomputable def T10 : Tab := T9.add 25 (cloneS 1 8)
theorem ok10 : TabOK Try.prog T10 := ok9.add (Sp.Body.ok ok9 (body_slices_Clone_float64) Try.func25 (by kernel_rfl) has25 low25 ress25 (fun _ => Nat.le_of_ble_eq_true rfl))
noncomputable def T11 : Tab := T10.add 27 sp_mid1
theorem ok11 : TabOK Try.prog T11 := ok10.add (Sp.Body.ok ok10 (body_weight_Middle_1 (n1 := 10) ⟨rfl, fun _ _ => rfl⟩) Try.func27 (by kernel_rfl) has27 low27 ress27 (fun _ => Nat.le_of_ble_eq_true rfl))
def lay26_ren : Go.Shelf.Ren := ⟨fun | 6 => 26 | 15 => 30 | 14 => 29 | 28 => 39 | 29 => 40 | 20 => 31 | 21 => 32 | 22 => 33 | 23 => 34 | 24 => 35 | 25 => 36 | 26 => 37 | 27 => 38 | 46 => 41 | 47 => 42 | 48 => 43 | 49 => 44 | 50 => 45 | 57 => 46 | n => n, fun | 22 => 34 | 24 => 24 | 25 => 46 | 3 => 3 | 39 => 42 | 0 => 0 | 53 => 58 | 55 => 22 | 4 => 4 | 46 => 51 | 45 => 50 | 50 => 55 | 5 => 5 | 9 => 9 | 66 => 60 | 70 => 64 | 76 => 66 | 77 => 67 | n => n, fun | n => n⟩
theorem lay26 : Go.Proofs.SlLaysF.n6 Try.prog lay26_ren := {
  mixed := by kernel_rfl,
  f6 := ⟨Try.f26.name, by decide, Try.func26.trans (congrArg some (by kernel_rfl))⟩,
  f14 := ⟨Try.f29.name, by decide, Try.func29.trans (congrArg some (by kernel_rfl))⟩,
  f15 := Try.func30.trans (congrArg some (by kernel_rfl)),
  f20 := ⟨Try.f31.name, by decide, Try.func31.trans (congrArg some (by kernel_rfl))⟩,
  f21 := ⟨Try.f32.name, by decide, Try.func32.trans (congrArg some (by kernel_rfl))⟩,
  f22 := ⟨Try.f33.name, by decide, Try.func33.trans (congrArg some (by kernel_rfl))⟩,
  f23 := ⟨Try.f34.name, by decide, Try.func34.trans (congrArg some (by kernel_rfl))⟩,
  f24 := ⟨Try.f35.name, by decide, Try.func35.trans (congrArg some (by kernel_rfl))⟩,
  f25 := ⟨Try.f36.name, by decide, Try.func36.trans (congrArg some (by kernel_rfl))⟩,
  f26 := ⟨Try.f37.name, by decide, Try.func37.trans (congrArg some (by kernel_rfl))⟩,
  f27 := ⟨Try.f38.name, by decide, Try.func38.trans (congrArg some (by kernel_rfl))⟩,
  f28 := Try.func39.trans (congrArg some (by kernel_rfl)),
  f29 := Try.func40.trans (congrArg some (by kernel_rfl)),
  f46 := ⟨Try.f41.name, by decide, Try.func41.trans (congrArg some (by kernel_rfl))⟩,
  f47 := Try.func42.trans (congrArg some (by kernel_rfl)),
  f48 := Try.func43.trans (congrArg some (by kernel_rfl)),
  f49 := ⟨Try.f44.name, by decide, Try.func44.trans (congrArg some (by kernel_rfl))⟩,
  f50 := ⟨Try.f45.name, by decide, Try.func45.trans (congrArg some (by kernel_rfl))⟩,
  f57 := ⟨Try.f46.name, by decide, Try.func46.trans (congrArg some (by kernel_rfl))⟩,
  t0 := Try.underlying0,
  a0 := Try.isAgg0,
  z0 := Try.sizeOf0,
  v0 := Try.zeroValue0,
  t3 := Try.underlying3,
  a3 := Try.isAgg3,
  z3 := Try.sizeOf3,
  v3 := Try.zeroValue3,
  t4 := Try.underlying4,
  a4 := Try.isAgg4,
  z4 := Try.sizeOf4,
  v4 := Try.zeroValue4,
  t5 := Try.underlying5,
  a5 := Try.isAgg5,
  z5 := Try.sizeOf5,
  v5 := Try.zeroValue5,
  t9 := Try.underlying9,
  a9 := Try.isAgg9,
  z9 := Try.sizeOf9,
  v9 := Try.zeroValue9,
  t22 := Try.underlying34,
  a22 := Try.isAgg34,
  z22 := Try.sizeOf34,
  v22 := Try.zeroValue34,
  a24 := Try.isAgg24,
  z24 := Try.sizeOf24,
  t25 := Try.underlying46,
  a25 := Try.isAgg46,
  z25 := Try.sizeOf46,
  v25 := Try.zeroValue46,
  t39 := Try.underlying42,
  a39 := Try.isAgg42,
  z39 := Try.sizeOf42,
  v39 := Try.zeroValue42,
  t45 := Try.underlying50,
  a45 := Try.isAgg50,
  z45 := Try.sizeOf50,
  v45 := Try.zeroValue50,
  t46 := Try.underlying51,
  a46 := Try.isAgg51,
  z46 := Try.sizeOf51,
  v46 := Try.zeroValue51,
  t50 := Try.underlying55,
  a50 := Try.isAgg55,
  z50 := Try.sizeOf55,
  v50 := Try.zeroValue55,
  t53 := Try.underlying58,
  a53 := Try.isAgg58,
  z53 := Try.sizeOf58,
  v53 := Try.zeroValue58,
  t55 := Try.underlying22,
  a55 := Try.isAgg22,
  z55 := Try.sizeOf22,
  v55 := Try.zeroValue22,
  t66 := Try.underlying60,
  a66 := Try.isAgg60,
  z66 := Try.sizeOf60,
  v66 := Try.zeroValue60,
  t70 := Try.underlying64,
  a70 := Try.isAgg64,
  z70 := Try.sizeOf64,
  v70 := Try.zeroValue64,
  t76 := Try.underlying66,
  a76 := Try.isAgg66,
  z76 := Try.sizeOf66,
  v76 := Try.zeroValue66,
  t77 := Try.underlying67,
  a77 := Try.isAgg67,
  z77 := Try.sizeOf67,
  v77 := Try.zeroValue67 }
noncomputable def T12 : Tab := T11.addG 26 (ef_sortF 27).at
theorem ok12 : TabOK Try.prog T12 := sortF_tab ok11 ok11 lay26 rfl ⟨_, Try.func26, by kernel_rfl, by kernel_rfl⟩ ⟨rfl, fun _ _ => rfl⟩ (Go.Proofs.enters_of Try.func27 (by kernel_rfl) has27)
noncomputable def T13 : Tab := T12.add 16 sp_Middle
theorem ok13 : TabOK Try.prog T13 := ok12.add (Sp.Body.ok ok12 (body_weight_Middle (n1 := 24) (n2 := 25) (n3 := 26) (n4 := 27) ⟨rfl, fun _ _ => rfl⟩ ⟨rfl, fun _ _ => rfl⟩ ⟨rfl⟩) Try.func16 (by kernel_rfl) has16 low16 ress16 (fun _ => Nat.le_of_ble_eq_true rfl))
noncomputable def T14 : Tab := T13.add 23 (sp_fb fNaN)
theorem ok14 : TabOK Try.prog T14 := ok13.add (Sp.Body.ok ok13 (body_ref03_NaN) Try.func23 (by kernel_rfl) has23 low23 ress23 (fun _ => Nat.le_of_ble_eq_true rfl))
noncomputable def T15 : Tab := T14.add 11 sp_rank
theorem ok15 : TabOK Try.prog T15 := ok14.add (Sp.Body.ok ok14 (body_ref03_Rank (n1 := 23) ⟨rfl, fun _ _ => rfl⟩) Try.func11 (by kernel_rfl) has11 low11 ress11 (fun _ => Nat.le_of_ble_eq_true rfl))
noncomputable def T16 : Tab := T15.add 17 sp_MiddleR
theorem ok16 : TabOK Try.prog T16 := ok15.add (Sp.Body.ok ok15 (body_ref03_Middle (n1 := 11) ⟨rfl, fun _ _ => rfl⟩) Try.func17 (by kernel_rfl) has17 low17 ress17 (fun _ => Nat.le_of_ble_eq_true rfl))
noncomputable def T17 : Tab := T16.add 19 sp_leastR
theorem ok17 : TabOK Try.prog T17 := ok16.add (Sp.Body.ok ok16 (body_ref03_Least (n1 := 11) ⟨rfl, fun _ _ => rfl⟩) Try.func19 (by kernel_rfl) has19 low19 ress19 (fun _ => Nat.le_of_ble_eq_true rfl))
noncomputable def T18 : Tab := T17.add 20 sp_alike
theorem ok18 : TabOK Try.prog T18 := ok17.add (Sp.Body.ok ok17 (body_ref03_Alike (n1 := 11) ⟨rfl, fun _ _ => rfl⟩) Try.func20 (by kernel_rfl) has20 low20 ress20 (fun _ => Nat.le_of_ble_eq_true rfl))
noncomputable abbrev TT : Tab := T18
theorem okT : TabOK Try.prog TT := ok18
/-- The law WeightLeast, from its body. -/
theorem acalls_WeightLeast {args : List AV} (ha : args.length ≤ Try.f7.ntmps) (h : Holds TT V_law03_WeightLeast (L_law03_WeightLeast 8 15 16 17 18 19 20) R_law03_WeightLeast args) : ACalls Try.prog 7 args [] fun r _ => r = .d (.bool true) :=
  ACalls.of_vck okT V_law03_WeightLeast Try.func7 (by kernel_rfl) has7 low7 ress7 ha h
end Go.Proofs.Ytlphhmgfjdecjaa
