/- The functions of this cut as the abstract machine has them, and the table of their contracts. Conditions: none. -/
import Derived.Test.YthedffmhcnphjaaDoorChecked
import Derived.Test.YthedffmhcnphjaaDoorAgoP6
import Derived.Test.YthedffmhcnphjaaDoorAgoTied
set_option maxRecDepth 100000
set_option linter.unusedVariables false
namespace Go.Proofs.YthedffmhcnphjaaDoor
open Go Go.Ago
theorem low14 : lowCode Tryd.prog Tryd.f14.ntmps (Tryd.f14.body.getD .skip) = some (L_cand_memory) := by kernel_rfl
theorem ress14 : lowRess Tryd.prog Tryd.f14.results.toList = some R_cand_memory := by kernel_rfl
theorem has14 : Tryd.f14.body = some (Tryd.f14.body.getD .skip) := by kernel_rfl
theorem low7 : lowCode Tryd.prog Tryd.f7.ntmps (Tryd.f7.body.getD .skip) = some (L_cand_Nodes 14) := by kernel_rfl
theorem ress7 : lowRess Tryd.prog Tryd.f7.results.toList = some R_cand_Nodes := by kernel_rfl
theorem has7 : Tryd.f7.body = some (Tryd.f7.body.getD .skip) := by kernel_rfl
theorem low24 : lowCode Tryd.prog Tryd.f24.ntmps (Tryd.f24.body.getD .skip) = some (L_cand_pairs_add) := by kernel_rfl
theorem ress24 : lowRess Tryd.prog Tryd.f24.results.toList = some R_cand_pairs_add := by kernel_rfl
theorem has24 : Tryd.f24.body = some (Tryd.f24.body.getD .skip) := by kernel_rfl
theorem low15 : lowCode Tryd.prog Tryd.f15.ntmps (Tryd.f15.body.getD .skip) = some (L_cand_readers 24) := by kernel_rfl
theorem ress15 : lowRess Tryd.prog Tryd.f15.results.toList = some R_cand_readers := by kernel_rfl
theorem has15 : Tryd.f15.body = some (Tryd.f15.body.getD .skip) := by kernel_rfl
theorem low25 : lowCode Tryd.prog Tryd.f25.ntmps (Tryd.f25.body.getD .skip) = some (L_slices_Clone_int) := by kernel_rfl
theorem ress25 : lowRess Tryd.prog Tryd.f25.results.toList = some R_slices_Clone_int := by kernel_rfl
theorem has25 : Tryd.f25.body = some (Tryd.f25.body.getD .skip) := by kernel_rfl
theorem low27 : lowCode Tryd.prog Tryd.f27.ntmps (Tryd.f27.body.getD .skip) = some (L_slices_Equal_int) := by kernel_rfl
theorem ress27 : lowRess Tryd.prog Tryd.f27.results.toList = some R_slices_Equal_int := by kernel_rfl
theorem has27 : Tryd.f27.body = some (Tryd.f27.body.getD .skip) := by kernel_rfl
theorem low16 : lowCode Tryd.prog Tryd.f16.ntmps (Tryd.f16.body.getD .skip) = some (L_cand_follows 24 25 26 27) := by kernel_rfl
theorem ress16 : lowRess Tryd.prog Tryd.f16.results.toList = some R_cand_follows := by kernel_rfl
theorem has16 : Tryd.f16.body = some (Tryd.f16.body.getD .skip) := by kernel_rfl
theorem low28 : lowCode Tryd.prog Tryd.f28.ntmps (Tryd.f28.body.getD .skip) = some (L_rel_Of) := by kernel_rfl
theorem ress28 : lowRess Tryd.prog Tryd.f28.results.toList = some R_rel_Of := by kernel_rfl
theorem has28 : Tryd.f28.body = some (Tryd.f28.body.getD .skip) := by kernel_rfl
theorem low17 : lowCode Tryd.prog Tryd.f17.ntmps (Tryd.f17.body.getD .skip) = some (L_cand_pairs_rel 28) := by kernel_rfl
theorem ress17 : lowRess Tryd.prog Tryd.f17.results.toList = some R_cand_pairs_rel := by kernel_rfl
theorem has17 : Tryd.f17.body = some (Tryd.f17.body.getD .skip) := by kernel_rfl
theorem low21 : lowCode Tryd.prog Tryd.f21.ntmps (Tryd.f21.body.getD .skip) = some (L_rel_size) := by kernel_rfl
theorem ress21 : lowRess Tryd.prog Tryd.f21.results.toList = some R_rel_size := by kernel_rfl
theorem has21 : Tryd.f21.body = some (Tryd.f21.body.getD .skip) := by kernel_rfl
theorem low33 : lowCode Tryd.prog Tryd.f33.ntmps (Tryd.f33.body.getD .skip) = some (L_rel_all) := by kernel_rfl
theorem ress33 : lowRess Tryd.prog Tryd.f33.results.toList = some R_rel_all := by kernel_rfl
theorem has33 : Tryd.f33.body = some (Tryd.f33.body.getD .skip) := by kernel_rfl
theorem low29 : lowCode Tryd.prog Tryd.f29.ntmps (Tryd.f29.body.getD .skip) = some (L_rel_row 21 33) := by kernel_rfl
theorem ress29 : lowRess Tryd.prog Tryd.f29.results.toList = some R_rel_row := by kernel_rfl
theorem has29 : Tryd.f29.body = some (Tryd.f29.body.getD .skip) := by kernel_rfl
theorem low30 : lowCode Tryd.prog Tryd.f30.ntmps (Tryd.f30.body.getD .skip) = some (L_math_bits_TrailingZeros64) := by kernel_rfl
theorem ress30 : lowRess Tryd.prog Tryd.f30.results.toList = some R_math_bits_TrailingZeros64 := by kernel_rfl
theorem has30 : Tryd.f30.body = some (Tryd.f30.body.getD .skip) := by kernel_rfl
theorem low18 : lowCode Tryd.prog Tryd.f18.ntmps (Tryd.f18.body.getD .skip) = some (L_rel_Then 21 29 30) := by kernel_rfl
theorem ress18 : lowRess Tryd.prog Tryd.f18.results.toList = some R_rel_Then := by kernel_rfl
theorem has18 : Tryd.f18.body = some (Tryd.f18.body.getD .skip) := by kernel_rfl
theorem low19 : lowCode Tryd.prog Tryd.f19.ntmps (Tryd.f19.body.getD .skip) = some (L_rel_Back 21 29 30) := by kernel_rfl
theorem ress19 : lowRess Tryd.prog Tryd.f19.results.toList = some R_rel_Back := by kernel_rfl
theorem has19 : Tryd.f19.body = some (Tryd.f19.body.getD .skip) := by kernel_rfl
theorem low20 : lowCode Tryd.prog Tryd.f20.ntmps (Tryd.f20.body.getD .skip) = some (L_cand_within 14 17 24) := by kernel_rfl
theorem ress20 : lowRess Tryd.prog Tryd.f20.results.toList = some R_cand_within := by kernel_rfl
theorem has20 : Tryd.f20.body = some (Tryd.f20.body.getD .skip) := by kernel_rfl
theorem low9 : lowCode Tryd.prog Tryd.f9.ntmps (Tryd.f9.body.getD .skip) = some (L_cand_Build 7 15 16 17 18 19 20) := by kernel_rfl
theorem ress9 : lowRess Tryd.prog Tryd.f9.results.toList = some R_cand_Build := by kernel_rfl
theorem has9 : Tryd.f9.body = some (Tryd.f9.body.getD .skip) := by kernel_rfl
theorem low10 : lowCode Tryd.prog Tryd.f10.ntmps (Tryd.f10.body.getD .skip) = some (L_rel_Has 21) := by kernel_rfl
theorem ress10 : lowRess Tryd.prog Tryd.f10.results.toList = some R_rel_Has := by kernel_rfl
theorem has10 : Tryd.f10.body = some (Tryd.f10.body.getD .skip) := by kernel_rfl
theorem low5 : lowCode Tryd.prog Tryd.f5.ntmps (Tryd.f5.body.getD .skip) = some (L_law18_awake 9 10) := by kernel_rfl
theorem ress5 : lowRess Tryd.prog Tryd.f5.results.toList = some R_law18_awake := by kernel_rfl
theorem has5 : Tryd.f5.body = some (Tryd.f5.body.getD .skip) := by kernel_rfl
theorem low6 : lowCode Tryd.prog Tryd.f6.ntmps (Tryd.f6.body.getD .skip) = some (L_law18_small) := by kernel_rfl
theorem ress6 : lowRess Tryd.prog Tryd.f6.results.toList = some R_law18_small := by kernel_rfl
theorem has6 : Tryd.f6.body = some (Tryd.f6.body.getD .skip) := by kernel_rfl
theorem low23 : lowCode Tryd.prog Tryd.f23.ntmps (Tryd.f23.body.getD .skip) = some (L_rel_Plus_1) := by kernel_rfl
theorem ress23 : lowRess Tryd.prog Tryd.f23.results.toList = some R_rel_Plus_1 := by kernel_rfl
theorem has23 : Tryd.f23.body = some (Tryd.f23.body.getD .skip) := by kernel_rfl
theorem low22 : lowCode Tryd.prog Tryd.f22.ntmps (Tryd.f22.body.getD .skip) = some (L_rel_lay 21 29) := by kernel_rfl
theorem ress22 : lowRess Tryd.prog Tryd.f22.results.toList = some R_rel_lay := by kernel_rfl
theorem has22 : Tryd.f22.body = some (Tryd.f22.body.getD .skip) := by kernel_rfl
theorem low13 : lowCode Tryd.prog Tryd.f13.ntmps (Tryd.f13.body.getD .skip) = some (L_rel_Plus 22 23) := by kernel_rfl
theorem ress13 : lowRess Tryd.prog Tryd.f13.results.toList = some R_rel_Plus := by kernel_rfl
theorem has13 : Tryd.f13.body = some (Tryd.f13.body.getD .skip) := by kernel_rfl
theorem low11 : lowCode Tryd.prog Tryd.f11.ntmps (Tryd.f11.body.getD .skip) = some (L_rel_Ring 13) := by kernel_rfl
theorem ress11 : lowRess Tryd.prog Tryd.f11.results.toList = some R_rel_Ring := by kernel_rfl
theorem has11 : Tryd.f11.body = some (Tryd.f11.body.getD .skip) := by kernel_rfl
theorem low12 : lowCode Tryd.prog Tryd.f12.ntmps (Tryd.f12.body.getD .skip) = some (L_ref02_Same) := by kernel_rfl
theorem ress12 : lowRess Tryd.prog Tryd.f12.results.toList = some R_ref02_Same := by kernel_rfl
theorem has12 : Tryd.f12.body = some (Tryd.f12.body.getD .skip) := by kernel_rfl
theorem low4 : lowCode Tryd.prog Tryd.f4.ntmps (Tryd.f4.body.getD .skip) = some (L_law18_CandRels 5 6 9 10 11 12 13) := by kernel_rfl
theorem ress4 : lowRess Tryd.prog Tryd.f4.results.toList = some R_law18_CandRels := by kernel_rfl
theorem has4 : Tryd.f4.body = some (Tryd.f4.body.getD .skip) := by kernel_rfl
noncomputable def T0 : Tab := Tab.none
theorem ok0 : TabOK Tryd.prog T0 := TabOK.none
noncomputable def T1 : Tab := T0.add 14 sp_isM
theorem ok1 : TabOK Tryd.prog T1 := ok0.add (Sp.Body.ok ok0 (body_cand_memory) Tryd.func14 (by kernel_rfl) has14 low14 ress14 (fun _ => Nat.le_of_ble_eq_true rfl))
noncomputable def T2 : Tab := T1.add 7 sp_Nodes
theorem ok2 : TabOK Tryd.prog T2 := ok1.add (Sp.Body.ok ok1 (body_cand_Nodes (n1 := 14) ⟨rfl, fun _ _ => rfl⟩) Tryd.func7 (by kernel_rfl) has7 low7 ress7 (fun _ => Nat.le_of_ble_eq_true rfl))
noncomputable def T3 : Tab := T2.addG 24 addE
theorem ok3 : TabOK Tryd.prog T3 := (efh_cand_pairs_add).tab add_at ok2 ok2 Tryd.func24 (by kernel_rfl) has24 low24 ress24 (fun _ => Nat.le_of_ble_eq_true rfl)
noncomputable def T4 : Tab := T3.add 15 sp_readN
theorem ok4 : TabOK Tryd.prog T4 := ok3.add (Sp.Body.ok ok3 (body_cand_readers (n1 := 24) ⟨rfl⟩) Tryd.func15 (by kernel_rfl) has15 low15 ress15 (fun _ => Nat.le_of_ble_eq_true rfl))
noncomputable def T5 : Tab := T4.add 25 (cloneS 1 8)
theorem ok5 : TabOK Tryd.prog T5 := ok4.add (Sp.Body.ok ok4 (body_slices_Clone_int) Tryd.func25 (by kernel_rfl) has25 low25 ress25 (fun _ => Nat.le_of_ble_eq_true rfl))
def lay26_ren : Go.Shelf.Ren := ⟨fun | 189 => 26 | 125 => 32 | 257 => 31 | 128 => 43 | 129 => 44 | 294 => 34 | 295 => 35 | 296 => 36 | 297 => 37 | 298 => 38 | 299 => 39 | 216 => 40 | 300 => 41 | 301 => 42 | 328 => 45 | 329 => 46 | 330 => 47 | 331 => 48 | 332 => 49 | 215 => 50 | 343 => 51 | n => n, fun | 28 => 35 | 3 => 3 | 46 => 69 | 0 => 0 | 51 => 99 | 53 => 48 | 4 => 4 | 183 => 91 | 182 => 90 | 131 => 96 | 5 => 5 | 9 => 9 | 218 => 100 | 222 => 104 | 228 => 107 | 229 => 108 | n => n, fun | n => n⟩
theorem lay26 : Go.Proofs.Lays.n189 Tryd.prog lay26_ren := {
  mixed := by kernel_rfl,
  f125 := Tryd.func32.trans (congrArg some (by kernel_rfl)),
  f128 := Tryd.func43.trans (congrArg some (by kernel_rfl)),
  f129 := Tryd.func44.trans (congrArg some (by kernel_rfl)),
  f189 := Tryd.func26.trans (congrArg some (by kernel_rfl)),
  f215 := Tryd.func50.trans (congrArg some (by kernel_rfl)),
  f216 := Tryd.func40.trans (congrArg some (by kernel_rfl)),
  f257 := Tryd.func31.trans (congrArg some (by kernel_rfl)),
  f294 := Tryd.func34.trans (congrArg some (by kernel_rfl)),
  f295 := Tryd.func35.trans (congrArg some (by kernel_rfl)),
  f296 := Tryd.func36.trans (congrArg some (by kernel_rfl)),
  f297 := Tryd.func37.trans (congrArg some (by kernel_rfl)),
  f298 := Tryd.func38.trans (congrArg some (by kernel_rfl)),
  f299 := Tryd.func39.trans (congrArg some (by kernel_rfl)),
  f300 := Tryd.func41.trans (congrArg some (by kernel_rfl)),
  f301 := Tryd.func42.trans (congrArg some (by kernel_rfl)),
  f328 := Tryd.func45.trans (congrArg some (by kernel_rfl)),
  f329 := Tryd.func46.trans (congrArg some (by kernel_rfl)),
  f330 := Tryd.func47.trans (congrArg some (by kernel_rfl)),
  f331 := Tryd.func48.trans (congrArg some (by kernel_rfl)),
  f332 := Tryd.func49.trans (congrArg some (by kernel_rfl)),
  f343 := Tryd.func51.trans (congrArg some (by kernel_rfl)),
  t0 := Tryd.underlying0,
  a0 := Tryd.isAgg0,
  z0 := Tryd.sizeOf0,
  v0 := Tryd.zeroValue0,
  t3 := Tryd.underlying3,
  a3 := Tryd.isAgg3,
  z3 := Tryd.sizeOf3,
  v3 := Tryd.zeroValue3,
  t4 := Tryd.underlying4,
  a4 := Tryd.isAgg4,
  z4 := Tryd.sizeOf4,
  v4 := Tryd.zeroValue4,
  t5 := Tryd.underlying5,
  a5 := Tryd.isAgg5,
  z5 := Tryd.sizeOf5,
  v5 := Tryd.zeroValue5,
  t9 := Tryd.underlying9,
  a9 := Tryd.isAgg9,
  z9 := Tryd.sizeOf9,
  v9 := Tryd.zeroValue9,
  t28 := Tryd.underlying35,
  a28 := Tryd.isAgg35,
  z28 := Tryd.sizeOf35,
  v28 := Tryd.zeroValue35,
  t46 := Tryd.underlying69,
  a46 := Tryd.isAgg69,
  z46 := Tryd.sizeOf69,
  v46 := Tryd.zeroValue69,
  t51 := Tryd.underlying99,
  a51 := Tryd.isAgg99,
  z51 := Tryd.sizeOf99,
  v51 := Tryd.zeroValue99,
  t53 := Tryd.underlying48,
  a53 := Tryd.isAgg48,
  z53 := Tryd.sizeOf48,
  v53 := Tryd.zeroValue48,
  t131 := Tryd.underlying96,
  a131 := Tryd.isAgg96,
  z131 := Tryd.sizeOf96,
  v131 := Tryd.zeroValue96,
  t182 := Tryd.underlying90,
  a182 := Tryd.isAgg90,
  z182 := Tryd.sizeOf90,
  v182 := Tryd.zeroValue90,
  t183 := Tryd.underlying91,
  a183 := Tryd.isAgg91,
  z183 := Tryd.sizeOf91,
  v183 := Tryd.zeroValue91,
  t218 := Tryd.underlying100,
  a218 := Tryd.isAgg100,
  z218 := Tryd.sizeOf100,
  v218 := Tryd.zeroValue100,
  t222 := Tryd.underlying104,
  a222 := Tryd.isAgg104,
  z222 := Tryd.sizeOf104,
  v222 := Tryd.zeroValue104,
  t228 := Tryd.underlying107,
  a228 := Tryd.isAgg107,
  z228 := Tryd.sizeOf107,
  v228 := Tryd.zeroValue107,
  t229 := Tryd.underlying108,
  a229 := Tryd.isAgg108,
  z229 := Tryd.sizeOf108,
  v229 := Tryd.zeroValue108 }
noncomputable def T6 : Tab := T5.addG 26 ef_sortI.at
theorem ok6 : TabOK Tryd.prog T6 := sortI_tab ok5 lay26 rfl ⟨_, Tryd.func26, by kernel_rfl, by kernel_rfl⟩
noncomputable def T7 : Tab := T6.add 27 sp_sameI
theorem ok7 : TabOK Tryd.prog T7 := ok6.add (Sp.Body.ok ok6 (body_slices_Equal_int) Tryd.func27 (by kernel_rfl) has27 low27 ress27 (fun _ => Nat.le_of_ble_eq_true rfl))
noncomputable def T8 : Tab := T7.add 16 sp_followN
theorem ok8 : TabOK Tryd.prog T8 := ok7.add (Sp.Body.ok ok7 (body_cand_follows (n1 := 24) (n2 := 25) (n3 := 26) (n4 := 27) ⟨rfl⟩ ⟨rfl, fun _ _ => rfl⟩ ⟨rfl⟩ ⟨rfl, fun _ _ => rfl⟩) Tryd.func16 (by kernel_rfl) has16 low16 ress16 (fun _ => Nat.le_of_ble_eq_true rfl))
noncomputable def T9 : Tab := T8.add 28 sp_Of
theorem ok9 : TabOK Tryd.prog T9 := ok8.add (Sp.Body.ok ok8 (body_rel_Of) Tryd.func28 (by kernel_rfl) has28 low28 ress28 (fun _ => Nat.le_of_ble_eq_true rfl))
noncomputable def T10 : Tab := T9.add 17 sp_prel
theorem ok10 : TabOK Tryd.prog T10 := ok9.add (Sp.Body.ok ok9 (body_cand_pairs_rel (n1 := 28) ⟨rfl, fun _ _ => rfl⟩) Tryd.func17 (by kernel_rfl) has17 low17 ress17 (fun _ => Nat.le_of_ble_eq_true rfl))
noncomputable def T11 : Tab := T10.add 21 sp_size
theorem ok11 : TabOK Tryd.prog T11 := ok10.add (Sp.Body.ok ok10 (body_rel_size) Tryd.func21 (by kernel_rfl) has21 low21 ress21 (fun _ => Nat.le_of_ble_eq_true rfl))
noncomputable def T12 : Tab := T11.add 33 sp_all
theorem ok12 : TabOK Tryd.prog T12 := ok11.add (Sp.Body.ok ok11 (body_rel_all) Tryd.func33 (by kernel_rfl) has33 low33 ress33 (fun _ => Nat.le_of_ble_eq_true rfl))
noncomputable def T13 : Tab := T12.add 29 sp_row
theorem ok13 : TabOK Tryd.prog T13 := ok12.add (Sp.Body.ok ok12 (body_rel_row (n1 := 21) (n2 := 33) ⟨rfl, fun _ _ => rfl⟩ ⟨rfl, fun _ _ => rfl⟩) Tryd.func29 (by kernel_rfl) has29 low29 ress29 (fun _ => Nat.le_of_ble_eq_true rfl))
noncomputable def T14 : Tab := T13.add 30 sp_tz
theorem ok14 : TabOK Tryd.prog T14 := ok13.add (Sp.Body.ok ok13 (body_math_bits_TrailingZeros64) Tryd.func30 (by kernel_rfl) has30 low30 ress30 (fun _ => Nat.le_of_ble_eq_true rfl))
noncomputable def T15 : Tab := T14.add 18 (Sp.dat sp_Then)
theorem ok15 : TabOK Tryd.prog T15 := ok14.add (Sp.Body.ok ok14 (bodyD_rel_Then (n1 := 21) (n2 := 29) (n3 := 30) ⟨rfl, fun _ _ => rfl⟩ ⟨rfl, fun _ _ => rfl⟩ ⟨rfl, fun _ _ => rfl⟩) Tryd.func18 (by kernel_rfl) has18 low18 ress18 (fun _ => Nat.le_of_ble_eq_true rfl))
noncomputable def T16 : Tab := T15.add 19 (Sp.dat sp_Back)
theorem ok16 : TabOK Tryd.prog T16 := ok15.add (Sp.Body.ok ok15 (bodyD_rel_Back (n1 := 21) (n2 := 29) (n3 := 30) ⟨rfl, fun _ _ => rfl⟩ ⟨rfl, fun _ _ => rfl⟩ ⟨rfl, fun _ _ => rfl⟩) Tryd.func19 (by kernel_rfl) has19 low19 ress19 (fun _ => Nat.le_of_ble_eq_true rfl))
noncomputable def T17 : Tab := T16.addG 20 ef_within.pick
theorem ok17 : TabOK Tryd.prog T17 := (efh_cand_within (n1 := 14) (n2 := 17) (n3 := 24) ⟨rfl, fun _ _ => rfl⟩ ⟨rfl, fun _ _ => rfl⟩ ⟨rfl⟩).tab ef_within.pick_at ok16 ok16 Tryd.func20 (by kernel_rfl) has20 low20 ress20 (fun _ => Nat.le_of_ble_eq_true rfl)
noncomputable def T18 : Tab := T17.add 9 sp_CBuild
theorem ok18 : TabOK Tryd.prog T18 := ok17.add (Sp.Body.ok ok17 (body_cand_Build (n1 := 7) (n2 := 15) (n3 := 16) (n4 := 17) (n5 := 18) (n6 := 19) (n7 := 20) ⟨rfl, fun _ _ => rfl⟩ ⟨rfl, fun _ _ => rfl⟩ ⟨rfl, fun _ _ => rfl⟩ ⟨rfl, fun _ _ => rfl⟩ ⟨rfl, fun _ _ => rfl⟩ ⟨rfl, fun _ _ => rfl⟩ ⟨rfl⟩) Tryd.func9 (by kernel_rfl) has9 low9 ress9 (fun _ => Nat.le_of_ble_eq_true rfl))
noncomputable def T19 : Tab := T18.add 10 sp_Has
theorem ok19 : TabOK Tryd.prog T19 := ok18.add (Sp.Body.ok ok18 (body_rel_Has (n1 := 21) ⟨rfl, fun _ _ => rfl⟩) Tryd.func10 (by kernel_rfl) has10 low10 ress10 (fun _ => Nat.le_of_ble_eq_true rfl))
noncomputable def T20 : Tab := T19.add 5 sp_true
theorem ok20 : TabOK Tryd.prog T20 := ok19.add (Sp.Body.ok ok19 (body_law18_awake (n1 := 9) (n2 := 10) ⟨rfl, fun _ _ => rfl⟩ ⟨rfl, fun _ _ => rfl⟩) Tryd.func5 (by kernel_rfl) has5 low5 ress5 (fun _ => Nat.le_of_ble_eq_true rfl))
noncomputable def T21 : Tab := T20.add 6 sp_smallE
theorem ok21 : TabOK Tryd.prog T21 := ok20.add (Sp.Body.ok ok20 (body_law18_small) Tryd.func6 (by kernel_rfl) has6 low6 ress6 (fun _ => Nat.le_of_ble_eq_true rfl))
noncomputable def T22 : Tab := T21.add 23 (sp_h2 fstW)
theorem ok22 : TabOK Tryd.prog T22 := ok21.add (Sp.Body.ok ok21 (body_rel_Plus_1) Tryd.func23 (by kernel_rfl) has23 low23 ress23 (fun _ => Nat.le_of_ble_eq_true rfl))
noncomputable def T23 : Tab := T22.add 22 (sp_lay (hs1 23))
theorem ok23 : TabOK Tryd.prog T23 := ok22.add (Sp.Body.ok ok22 (bodyP_rel_lay (n1 := 21) (n2 := 29) (n_rel_Plus_1 := 23) ⟨rfl, fun _ _ => rfl⟩ ⟨rfl, fun _ _ => rfl⟩ ⟨rfl, fun _ _ => rfl⟩) Tryd.func22 (by kernel_rfl) has22 low22 ress22 (fun _ => Nat.le_of_ble_eq_true rfl))
noncomputable def T24 : Tab := T23.add 13 sp_Plus
theorem ok24 : TabOK Tryd.prog T24 := ok23.add (Sp.Body.ok ok23 (bodyP_rel_Plus (n1 := 22) (n2 := 23) (n_rel_Plus_1 := 23) ⟨rfl, fun _ _ => rfl⟩ rfl) Tryd.func13 (by kernel_rfl) has13 low13 ress13 (fun _ => Nat.le_of_ble_eq_true rfl))
noncomputable def T25 : Tab := T24.add 11 sp_Ring
theorem ok25 : TabOK Tryd.prog T25 := ok24.add (Sp.Body.ok ok24 (body_rel_Ring (n1 := 13) ⟨rfl, fun _ _ => rfl⟩) Tryd.func11 (by kernel_rfl) has11 low11 ress11 (fun _ => Nat.le_of_ble_eq_true rfl))
noncomputable def T26 : Tab := T25.add 12 sp_sameW
theorem ok26 : TabOK Tryd.prog T26 := ok25.add (Sp.Body.ok ok25 (body_ref02_Same) Tryd.func12 (by kernel_rfl) has12 low12 ress12 (fun _ => Nat.le_of_ble_eq_true rfl))
noncomputable abbrev TT : Tab := T26
theorem okT : TabOK Tryd.prog TT := ok26
/-- The law CandRels, from its body. -/
theorem acalls_CandRels {args : List AV} (ha : args.length ≤ Tryd.f4.ntmps) (h : Holds TT V_law18_CandRels (L_law18_CandRels 5 6 9 10 11 12 13) R_law18_CandRels args) : ACalls Tryd.prog 4 args [] fun r _ => r = .d (.bool true) :=
  ACalls.of_vck okT V_law18_CandRels Tryd.func4 (by kernel_rfl) has4 low4 ress4 ha h
end Go.Proofs.YthedffmhcnphjaaDoor
